-- Written by a program of this repo (wip/gen/gen.py) over the kit's print.
-- (slim)
import Derived.Test.YtdeahlommlgceaaPFnSearchx0
import Derived.Test.YtdeahlommlgceaaPFnSearchx4
namespace Go.Proofs.Ytdeahlommlgceaa.PFnSearch
open Go.RowKit Go.Proofs.YtdeahlommlgceaaW.PrintWords Go.Proofs.YtdeahlommlgceaaW.PrintLast Go.Proofs.YtdeahlommlgceaaW.PrintMore
attribute [local go_sem] max2_int min2_int max_two min_two max_three min_three max_four min_four   -- for this text's walks alone
set_option linter.unusedVariables false
set_option maxHeartbeats 8000000
set_option maxRecDepth 100000
set_option linter.unusedSimpArgs false

/-! ### spec_l5Two: function 117 -/
def spec_l5Two.l0 : Nat → List Int → Int → Option (Int × Int)
 | 0, _, _ => none
 | k + 1, x0, x4 => if x4 ≥ 0 then (if 0 ≤ (Int.tmod (wrap64 (x4 + 1)) 3) then (if (Int.tmod (wrap64 (x4 + 1)) 3) < (x0.length : Int) then (if 0 ≤ (Int.tmod (wrap64 (x4 + 2)) 3) then (if (Int.tmod (wrap64 (x4 + 2)) 3) < (x0.length : Int) then ((spec_l1Gcd.f k (rd x0 (Int.tmod (wrap64 (x4 + 1)) 3)) (rd x0 (Int.tmod (wrap64 (x4 + 2)) 3))).bind fun t181 => (if t181 > 1 then ((spec_l1Primes.f k t181).bind fun t182 => (if 0 < (t182.length : Int) then (some (rd t182 0, x4)) else (none))) else (spec_l5Two.l0 k x0 (wrap64 (x4 - 1))))) else (none)) else (none)) else (none)) else (none)) else (some (1, 0))
def spec_l5Two.f (k : Nat) (l0 : List Int) : Option (Int × Int) := spec_l5Two.l0 k l0 2
theorem spec_l5Two.mono_l : ∀ k, (∀ y0 y1, LeO (spec_l5Two.l0 k y0 y1) (spec_l5Two.l0 (k + 1) y0 y1))
 | 0 => fun _ _ r h => by simp [spec_l5Two.l0] at h
 | k + 1 => by
  have ih0 := spec_l5Two.mono_l k
  · intro y0 y1
    unfold spec_l5Two.l0
    repeat' first
    | (with_reducible exact ih0 _ _)
    | (with_reducible exact spec_l1Gcd.mono _ _ _)
    | (with_reducible exact spec_l1Primes.mono _ _)
    | (with_reducible exact LeO.refl _)
    | (with_reducible exact LeO.none _)
    | (with_reducible refine LeO.ite ?_ ?_)
    | (with_reducible refine LeO.bind ?_ (fun _ => ?_))
    | exact ih0 _ _
    | exact spec_l1Gcd.mono _ _ _
    | exact spec_l1Primes.mono _ _
    | exact LeO.none _
    | refine LeO.ite ?_ ?_
    | refine LeO.bind ?_ (fun _ => ?_)
theorem spec_l5Two.mono : ∀ a0 k, LeO (spec_l5Two.f k a0) (spec_l5Two.f (k + 1) a0) := by
 intro a0 k
 have ih0 := spec_l5Two.mono_l k
 unfold spec_l5Two.f
 repeat' first
  | (with_reducible exact ih0 _ _)
  | (with_reducible exact spec_l1Gcd.mono _ _ _)
  | (with_reducible exact spec_l1Primes.mono _ _)
  | (with_reducible exact LeO.refl _)
  | (with_reducible exact LeO.none _)
  | (with_reducible refine LeO.ite ?_ ?_)
  | (with_reducible refine LeO.bind ?_ (fun _ => ?_))
  | exact ih0 _ _
  | exact spec_l1Gcd.mono _ _ _
  | exact spec_l1Primes.mono _ _
  | exact LeO.none _
  | refine LeO.ite ?_ ?_
  | refine LeO.bind ?_ (fun _ => ?_)
def spec_l5Two.T4 : Bool × List (List Nat × List Nat) := (true, [([], []), ([], []), ([1], [1]), ([2], [2]), ([0, 3], [0, 3]), ([4], [4]), ([], []), ([], []), ([7], [7]), ([8], [8]), ([6, 9], [6, 9]), ([10], [10]), ([5, 11], [5, 11]), ([12, 12, 0, 1, 2, 3, 4, 5, 6, 7, 8, 9, 10, 11, 12], [12])])
def spec_l5Two.B4 : List Nat := [0, 0, 2, 6, 15, 31, 0, 0, 128, 384, 960, 1984, 4095, 8191]
theorem spec_l5Two.tab4 : rtab .any (opsOf Try.f117 4) = spec_l5Two.T4 := by kernel_rfl
theorem spec_l5Two.bits4 : waitsOk spec_l5Two.T4.2 spec_l5Two.B4 = true := by kernel_rfl
theorem spec_l5Two.calls (k : Nat) (A0 : Option Addr) (c0 : Nat) (l0 : List Int) (r1 : Int) (r2 : Int) (w : World) (hr0 : Kd.C (Kd.int .i64) w A0 l0.length l0) (hc0 : l0.length ≤ c0) (h : spec_l5Two.f k l0 = some (r1, r2)) :
 Calls Try.prog 117 #[.slice A0 l0.length c0] w fun e w' => e = .returned (.tuple #[.int .i64 r1, .int .i64 r2]) ∧ Below w.heap.size w w' := by
 have HR0 := Aside0.mk hr0
 have HC0 := Aside0.mk hc0
 clear hr0 hc0
 have HB := Aside0.mk (Below.refl w.heap.size w)
 have H : (spec_l5Two.l0 k l0 2) = some (r1, r2) := h
 clear h
 have H' := Aside0.mk H
 clear H
 go_enter Try.func117, Try.ntmps117
 go_wp2
 go_loopg [4] k (fun kq v4 w' => ∃ (x4_1 : Int), v4 = .int .i64 x4_1 ∧ Aside0 (spec_l5Two.l0 kq l0 x4_1 = some (r1, r2)) ∧ Aside0 (kq ≤ k) ∧ Aside0 (Below w.heap.size w w'))
 case atStart => exact ⟨(2), z22_, H', ⟨Nat.le_refl _⟩, ⟨z10_⟩⟩
 case round =>
  clear H'
  try clear c1
  obtain ⟨x4_1, rfl, HA, HK1, HB⟩ := hrel
  cases gk with
  | zero => exact absurd HA.out (by simp [spec_l5Two.l0])
  | succ k1 =>
   have H := HA.out
   clear HA
   simp only [spec_l5Two.l0] at H
   by_cases c2 : x4_1 ≥ 0
   · rw [if_pos c2] at H
     have c2b0 : decide (0 ≤ x4_1) = true := decide_eq_true c2
     clear c2
     obtain ⟨ji3, hji3⟩ : ∃ j_ : Int, (Int.tmod (wrap64 (x4_1 + 1)) 3) = j_ := ⟨_, rfl⟩
     replace H : (if 0 ≤ (ji3) then (if (ji3) < (l0.length : Int) then (if 0 ≤ (Int.tmod (wrap64 (x4_1 + 2)) 3) then (if (Int.tmod (wrap64 (x4_1 + 2)) 3) < (l0.length : Int) then ((spec_l1Gcd.f k1 (rd l0 (ji3)) (rd l0 (Int.tmod (wrap64 (x4_1 + 2)) 3))).bind fun t181 => (if t181 > 1 then ((spec_l1Primes.f k1 t181).bind fun t182 => (if 0 < (t182.length : Int) then (some (rd t182 0, x4_1)) else (none))) else (spec_l5Two.l0 k1 l0 (wrap64 (x4_1 - 1))))) else (none)) else (none)) else (none)) else (none)) = some (r1, r2) := by first | (rw [hji3] at H; exact H) | (simp only [hji3] at H ⊢; exact H)
     by_cases c4 : 0 ≤ (ji3)
     · rw [if_pos c4] at H
       have c4b0 : decide (0 ≤ (ji3)) = true := decide_eq_true c4
       clear c4
       by_cases c5 : (ji3) < (l0.length : Int)
       · rw [if_pos c5] at H
         have c5b0 : decide ((ji3) < (l0.length : Int)) = true := decide_eq_true c5
         clear c5
         obtain ⟨ji6, hji6⟩ : ∃ j_ : Int, (Int.tmod (wrap64 (x4_1 + 2)) 3) = j_ := ⟨_, rfl⟩
         replace H : (if 0 ≤ (ji6) then (if (ji6) < (l0.length : Int) then ((spec_l1Gcd.f k1 (rd l0 (ji3)) (rd l0 (ji6))).bind fun t181 => (if t181 > 1 then ((spec_l1Primes.f k1 t181).bind fun t182 => (if 0 < (t182.length : Int) then (some (rd t182 0, x4_1)) else (none))) else (spec_l5Two.l0 k1 l0 (wrap64 (x4_1 - 1))))) else (none)) else (none)) = some (r1, r2) := by first | (rw [hji6] at H; exact H) | (simp only [hji6] at H ⊢; exact H)
         by_cases c7 : 0 ≤ (ji6)
         · rw [if_pos c7] at H
           have c7b0 : decide (0 ≤ (ji6)) = true := decide_eq_true c7
           clear c7
           by_cases c8 : (ji6) < (l0.length : Int)
           · rw [if_pos c8] at H
             have c8b0 : decide ((ji6) < (l0.length : Int)) = true := decide_eq_true c8
             clear c8
             replace H := Option.bind_eq_some_iff.mp H
             obtain ⟨t181, A90, H⟩ := H
             replace H : (if t181 > 1 then ((spec_l1Primes.f k1 t181).bind fun t182 => (if 0 < (t182.length : Int) then (some (rd t182 0, x4_1)) else (none))) else (spec_l5Two.l0 k1 l0 (wrap64 (x4_1 - 1)))) = some (r1, r2) := H
             have A9 := Aside0.mk A90
             clear A90
             by_cases c10 : t181 > 1
             · rw [if_pos c10] at H
               have c10b0 : decide (1 < t181) = true := decide_eq_true c10
               clear c10
               replace H := Option.bind_eq_some_iff.mp H
               obtain ⟨t182, A110, H⟩ := H
               replace H : (if 0 < (t182.length : Int) then (some (rd t182 0, x4_1)) else (none)) = some (r1, r2) := H
               have A11 := Aside0.mk A110
               clear A110
               by_cases c12 : 0 < (t182.length : Int)
               · rw [if_pos c12] at H
                 have c12b0 : decide (0 < (t182.length : Int)) = true := decide_eq_true c12
                 have c12b1 : decide (0 < t182.length) = true := decide_eq_true (by omega)
                 clear c12
                 simp only [Option.some.injEq, Prod.mk.injEq] at H
                 obtain ⟨rfl, rfl⟩ := H
                 try go_wp2
                 have n0_ := Aside0.mk (below_drew1 HB.out)
                 clear HB
                 have HB := n0_
                 clear n0_
                 have p179 : 0 ≤ ((ji3) : Int) := of_decide_eq_true z21_
                 have q179 : (ji3) < (l0.length : Int) := of_decide_eq_true z21_
                 obtain ⟨ad179, e179, hx179_0⟩ := Kd.at_int HR0.out (ji3) p179 q179
                 have hw179_0 := hx179_0
                 cases e179
                 replace hx179_0 := (HB.out.cell (World.block_lt_of_cell? w _ hx179_0)).trans hx179_0
                 replace p179 := eq_true p179
                 replace q179 := eq_true q179
                 have p180 : 0 ≤ ((ji6) : Int) := of_decide_eq_true z21_
                 have q180 : (ji6) < (l0.length : Int) := of_decide_eq_true z21_
                 obtain ⟨ad180, e180, hx180_0⟩ := Kd.at_int HR0.out (ji6) p180 q180
                 have hw180_0 := hx180_0
                 obtain rfl : ad179 = ad180 := (by injection e180)
                 replace hx180_0 := (HB.out.cell (World.block_lt_of_cell? w _ hx180_0)).trans hx180_0
                 replace p180 := eq_true p180
                 replace q180 := eq_true q180
                 refine start_ (n := 14) (S := fun w' => w'.cell? (ad179.add ((ji3)).toNat) = some (.int .i64 (rd l0 (ji3))) ∧ w'.cell? (ad179.add ((ji6)).toNat) = some (.int .i64 (rd l0 (ji6)))) (ds := []) #[false, false, false, false, false, false, false, false, false, false, false, false, false, false] (by kernel_rfl) rfl rfl ⟨((HB.out.cell (World.block_lt_of_cell? w _ hw179_0)).trans hw179_0), ((HB.out.cell (World.block_lt_of_cell? w _ hw180_0)).trans hw180_0)⟩ (fun hHeld => ?_); refine with_tabW spec_l5Two.tab4 spec_l5Two.bits4 (fun HT_ HW_ => ?_)
                 generalize wr.drew = w13 at HB hx179_0 hx180_0 hHeld ⊢
                 refine pure_ (i := 0) (N := some 10) (v := ?_) (a' := ?_) #[true, false, false, false, false, false, false, false, false, false, false, false, false, false] rfl rfl (any_of HT_.out (by kernel_rfl)) (fun _ _ _ h => h) (Or.inl ⟨by rfl, ?_⟩) ?_ ?_
                 rotate_left
                 · intro w'
                   go_simp
                   with_reducible rfl
                 rotate_left
                 · simp only [Act.put, List.setIfInBounds_toArray, List.set_cons_zero, List.set_cons_succ, i64_w, i32_w]
                   rfl
                 refine pure_ (i := 1) (N := some 11) (v := ?_) (a' := ?_) #[true, true, false, false, false, false, false, false, false, false, false, false, false, false] rfl rfl (any_of HT_.out (by kernel_rfl)) (fun _ _ _ h => h) (Or.inl ⟨by rfl, ?_⟩) ?_ ?_
                 rotate_left
                 · intro w'
                   go_simp
                   with_reducible rfl
                 rotate_left
                 · simp only [Act.put, List.setIfInBounds_toArray, List.set_cons_zero, List.set_cons_succ, i64_w, i32_w]
                   rfl
                 refine pure_ (i := 2) (N := some 12) (v := ?_) (a' := ?_) #[true, true, true, false, false, false, false, false, false, false, false, false, false, false] rfl rfl (any_of HT_.out (by kernel_rfl)) (fun _ _ _ h => h) (Or.inl ⟨by rfl, ?_⟩) ?_ ?_
                 rotate_left
                 · intro w'
                   go_simp
                   with_reducible rfl
                 rotate_left
                 · simp only [Act.put, List.setIfInBounds_toArray, List.set_cons_zero, List.set_cons_succ, i64_w, i32_w]
                   rfl
                 refine pure_ (i := 3) (N := some 13) (v := ?_) (a' := ?_) #[true, true, true, true, false, false, false, false, false, false, false, false, false, false] rfl rfl (any_of HT_.out (by kernel_rfl)) (fun _ _ _ h => h) (Or.inl ⟨by rfl, ?_⟩) ?_ ?_
                 rotate_left
                 · intro w'
                   go_simp
                   with_reducible rfl
                 rotate_left
                 · simp only [Act.put, List.setIfInBounds_toArray, List.set_cons_zero, List.set_cons_succ, i64_w, i32_w]
                   rfl
                 refine pure_ (i := 4) (N := some 14) (v := ?_) (a' := ?_) #[true, true, true, true, true, false, false, false, false, false, false, false, false, false] rfl rfl (any_of HT_.out (by kernel_rfl)) (fun _ _ _ h => h) (Or.inl ⟨by rfl, ?_⟩) ?_ ?_
                 rotate_left
                 · intro w'
                   go_simp
                   with_reducible rfl
                 rotate_left
                 · simp only [Act.put, List.setIfInBounds_toArray, List.set_cons_zero, List.set_cons_succ, i64_w, i32_w]
                   rfl
                 refine pure_ (i := 6) (N := some 16) (v := ?_) (a' := ?_) #[true, true, true, true, true, false, true, false, false, false, false, false, false, false] rfl rfl (any_of HT_.out (by kernel_rfl)) (fun _ _ _ h => h) (Or.inl ⟨by rfl, ?_⟩) ?_ ?_
                 rotate_left
                 · intro w'
                   go_simp
                   with_reducible rfl
                 rotate_left
                 · simp only [Act.put, List.setIfInBounds_toArray, List.set_cons_zero, List.set_cons_succ, i64_w, i32_w]
                   rfl
                 refine pure_ (i := 7) (N := some 17) (v := ?_) (a' := ?_) #[true, true, true, true, true, false, true, true, false, false, false, false, false, false] rfl rfl (any_of HT_.out (by kernel_rfl)) (fun _ _ _ h => h) (Or.inl ⟨by rfl, ?_⟩) ?_ ?_
                 rotate_left
                 · intro w'
                   go_simp
                   with_reducible rfl
                 rotate_left
                 · simp only [Act.put, List.setIfInBounds_toArray, List.set_cons_zero, List.set_cons_succ, i64_w, i32_w]
                   rfl
                 refine pure_ (i := 8) (N := some 18) (v := ?_) (a' := ?_) #[true, true, true, true, true, false, true, true, true, false, false, false, false, false] rfl rfl (any_of HT_.out (by kernel_rfl)) (fun _ _ _ h => h) (Or.inl ⟨by rfl, ?_⟩) ?_ ?_
                 rotate_left
                 · intro w'
                   go_simp
                   with_reducible rfl
                 rotate_left
                 · simp only [Act.put, List.setIfInBounds_toArray, List.set_cons_zero, List.set_cons_succ, i64_w, i32_w]
                   rfl
                 refine pure_ (i := 9) (N := some 19) (v := ?_) (a' := ?_) #[true, true, true, true, true, false, true, true, true, true, false, false, false, false] rfl rfl (any_of HT_.out (by kernel_rfl)) (fun _ _ _ h => h) (Or.inl ⟨by rfl, ?_⟩) ?_ ?_
                 rotate_left
                 · intro w'
                   go_simp
                   with_reducible rfl
                 rotate_left
                 · simp only [Act.put, List.setIfInBounds_toArray, List.set_cons_zero, List.set_cons_succ, i64_w, i32_w]
                   rfl
                 refine pure_ (i := 10) (N := some 20) (v := ?_) (a' := ?_) #[true, true, true, true, true, false, true, true, true, true, true, false, false, false] rfl rfl (any_of HT_.out (by kernel_rfl)) (fun _ _ _ h => h) (Or.inl ⟨by rfl, ?_⟩) ?_ ?_
                 rotate_left
                 · intro w'
                   go_simp
                   with_reducible rfl
                 rotate_left
                 · simp only [Act.put, List.setIfInBounds_toArray, List.set_cons_zero, List.set_cons_succ, i64_w, i32_w]
                   rfl
                 refine take_ (i := 5) (N := some 15) (v := ?_) (a' := ?_) #[true, true, true, true, true, true, true, true, true, true, true, false, false, false] rfl rfl (take_ofW HT_.out HW_.out (by kernel_rfl)) (fun _ _ _ h => h) (Or.inl ⟨by rfl, ?_⟩) hHeld ?_ ?_
                 rotate_left
                 · rintro w' ⟨s0, s1⟩
                   go_simp
                   with_reducible rfl
                 rotate_left
                 · simp only [Act.put, List.setIfInBounds_toArray, List.set_cons_zero, List.set_cons_succ, i64_w, i32_w]
                   rfl
                 refine take_ (i := 11) (N := some 21) (v := ?_) (a' := ?_) #[true, true, true, true, true, true, true, true, true, true, true, true, false, false] rfl rfl (take_ofW HT_.out HW_.out (by kernel_rfl)) (fun _ _ _ h => h) (Or.inl ⟨by rfl, ?_⟩) hHeld ?_ ?_
                 rotate_left
                 · rintro w' ⟨s0, s1⟩
                   go_simp
                   with_reducible rfl
                 rotate_left
                 · simp only [Act.put, List.setIfInBounds_toArray, List.set_cons_zero, List.set_cons_succ, i64_w, i32_w]
                   rfl
                 refine one_ (i := 12) (N := some 22) #[true, true, true, true, true, true, true, true, true, true, true, true, true, false] rfl rfl (one_of HT_.out (by kernel_rfl)) (by decide) (fun K hK => ?_)
                 refine goes_ Try.func131 (by kernel_rfl) rfl #[.int .i64 (rd l0 (ji3)), .int .i64 (rd l0 (ji6))] (by rfl) rfl rfl (by (try simp only [List.map_toArray, List.map_cons, List.map_nil]); first | done | (simp only [hji3, hji6]; rfl) | rfl | (simp only [List.length_drop, List.length_take]; rfl)) ?_
                 with_reducible refine (spec_l1Gcd.calls k1 (rd l0 (ji3)) (rd l0 (ji6)) t181 _ A9.out).mono ?_
                 rintro e w14 ⟨rfl, hb⟩
                 refine ⟨_, rfl, ?_⟩
                 have n0_ := Aside0.mk (below_step z10_ hb)
                 clear HB
                 have HB := n0_
                 clear n0_
                 (try clear hb)
                 (try clear hb2)
                 (try clear hk)
                 (try clear hi)
                 refine hK.out _ _ ⟨((HB.out.cell (World.block_lt_of_cell? w _ hw179_0)).trans hw179_0), ((HB.out.cell (World.block_lt_of_cell? w _ hw180_0)).trans hw180_0)⟩ (fun hHeld => ?_)
                 clear hK K
                 refine norm_ (a' := ?_) ?_ ?_
                 rotate_left
                 · show Act.put _ (some 22) _ = _
                   simp only [Act.put, List.setIfInBounds_toArray, List.set_cons_zero, List.set_cons_succ, i64_w, i32_w]
                   rfl
                 refine pure_ (i := 13) (N := some 5) (v := ?_) (a' := ?_) #[true, true, true, true, true, true, true, true, true, true, true, true, true, true] rfl rfl (any_of HT_.out (by kernel_rfl)) (fun _ _ _ h => h) (Or.inl ⟨by rfl, ?_⟩) ?_ ?_
                 rotate_left
                 · intro w'
                   go_simp
                   with_reducible rfl
                 rotate_left
                 · simp only [Act.put, List.setIfInBounds_toArray, List.set_cons_zero, List.set_cons_succ, i64_w, i32_w]
                   rfl
                 refine done_ (done_of HT_.out (by kernel_rfl)) ?_
                 try go_wp2_with (first | ((with_reducible refine gate_callee (f := 114) rfl ?_); refine goesL_ (some 26) rfl rfl Try.func114 (by kernel_rfl) rfl #[.int .i64 t181] rfl z8_ ?_; (with_reducible refine (spec_l1Primes.calls k1 t181 t182 _ A11.out).mono ?_); rintro e w15 ⟨v183, rfl, ho0, hb⟩; refine ⟨_, rfl, ?_⟩; have n0_ := Aside0.mk (Kd.R_lower ho0 (below_size z10_)); have n1_ := Aside0.mk (below_step z10_ hb); clear HB; have HO184 := n0_; have HB := n1_; clear n0_ n1_; (try clear hb); (try clear hb2); (try clear hk); (try clear hi); (try clear ho0); obtain ⟨Ao16, co16, eo16⟩ := Kd.R_slice HO184.out; subst eo16; have p185 : 0 ≤ (0 : Int) := (by omega); have q185 : 0 < (t182.length : Int) := of_decide_eq_true z21_; obtain ⟨ad185, e185, hx185_0⟩ := Kd.at_int (Kd.R_reads' HO184.out).2.2 0 p185 q185; cases e185; have qi185 : (0 < t182.length) = True := eq_true (by omega); (try rw [show ((0 : Int)).toNat = 0 from rfl] at hx185_0); (try rw [Addr.add_zero'] at hx185_0); replace p185 := eq_true p185; replace q185 := eq_true q185))
                 go_ret2
                 exact ⟨by first | rfl | (simp [errW_none, errW_some] <;> rfl) | (simp only [← hji3, ← hji6]; first | rfl | (simp [errW_none, errW_some] <;> rfl)) | (simp [*, errW_none, errW_some] <;> rfl), z10_⟩
               · rw [if_neg c12] at H
                 exact absurd H (by simp)
             · rw [if_neg c10] at H
               have c10b0 : decide (1 < t181) = false := decide_eq_false c10
               clear c10
               have H' := Aside0.mk H
               clear H
               try go_wp2
               have n0_ := Aside0.mk (below_drew1 HB.out)
               clear HB
               have HB := n0_
               clear n0_
               have p179 : 0 ≤ ((ji3) : Int) := of_decide_eq_true z21_
               have q179 : (ji3) < (l0.length : Int) := of_decide_eq_true z21_
               obtain ⟨ad179, e179, hx179_0⟩ := Kd.at_int HR0.out (ji3) p179 q179
               have hw179_0 := hx179_0
               cases e179
               replace hx179_0 := (HB.out.cell (World.block_lt_of_cell? w _ hx179_0)).trans hx179_0
               replace p179 := eq_true p179
               replace q179 := eq_true q179
               have p180 : 0 ≤ ((ji6) : Int) := of_decide_eq_true z21_
               have q180 : (ji6) < (l0.length : Int) := of_decide_eq_true z21_
               obtain ⟨ad180, e180, hx180_0⟩ := Kd.at_int HR0.out (ji6) p180 q180
               have hw180_0 := hx180_0
               obtain rfl : ad179 = ad180 := (by injection e180)
               replace hx180_0 := (HB.out.cell (World.block_lt_of_cell? w _ hx180_0)).trans hx180_0
               replace p180 := eq_true p180
               replace q180 := eq_true q180
               refine start_ (n := 14) (S := fun w' => w'.cell? (ad179.add ((ji3)).toNat) = some (.int .i64 (rd l0 (ji3))) ∧ w'.cell? (ad179.add ((ji6)).toNat) = some (.int .i64 (rd l0 (ji6)))) (ds := []) #[false, false, false, false, false, false, false, false, false, false, false, false, false, false] (by kernel_rfl) rfl rfl ⟨((HB.out.cell (World.block_lt_of_cell? w _ hw179_0)).trans hw179_0), ((HB.out.cell (World.block_lt_of_cell? w _ hw180_0)).trans hw180_0)⟩ (fun hHeld => ?_); refine with_tabW spec_l5Two.tab4 spec_l5Two.bits4 (fun HT_ HW_ => ?_)
               generalize wr.drew = w17 at HB hx179_0 hx180_0 hHeld ⊢
               refine pure_ (i := 0) (N := some 10) (v := ?_) (a' := ?_) #[true, false, false, false, false, false, false, false, false, false, false, false, false, false] rfl rfl (any_of HT_.out (by kernel_rfl)) (fun _ _ _ h => h) (Or.inl ⟨by rfl, ?_⟩) ?_ ?_
               rotate_left
               · intro w'
                 go_simp
                 with_reducible rfl
               rotate_left
               · simp only [Act.put, List.setIfInBounds_toArray, List.set_cons_zero, List.set_cons_succ, i64_w, i32_w]
                 rfl
               refine pure_ (i := 1) (N := some 11) (v := ?_) (a' := ?_) #[true, true, false, false, false, false, false, false, false, false, false, false, false, false] rfl rfl (any_of HT_.out (by kernel_rfl)) (fun _ _ _ h => h) (Or.inl ⟨by rfl, ?_⟩) ?_ ?_
               rotate_left
               · intro w'
                 go_simp
                 with_reducible rfl
               rotate_left
               · simp only [Act.put, List.setIfInBounds_toArray, List.set_cons_zero, List.set_cons_succ, i64_w, i32_w]
                 rfl
               refine pure_ (i := 2) (N := some 12) (v := ?_) (a' := ?_) #[true, true, true, false, false, false, false, false, false, false, false, false, false, false] rfl rfl (any_of HT_.out (by kernel_rfl)) (fun _ _ _ h => h) (Or.inl ⟨by rfl, ?_⟩) ?_ ?_
               rotate_left
               · intro w'
                 go_simp
                 with_reducible rfl
               rotate_left
               · simp only [Act.put, List.setIfInBounds_toArray, List.set_cons_zero, List.set_cons_succ, i64_w, i32_w]
                 rfl
               refine pure_ (i := 3) (N := some 13) (v := ?_) (a' := ?_) #[true, true, true, true, false, false, false, false, false, false, false, false, false, false] rfl rfl (any_of HT_.out (by kernel_rfl)) (fun _ _ _ h => h) (Or.inl ⟨by rfl, ?_⟩) ?_ ?_
               rotate_left
               · intro w'
                 go_simp
                 with_reducible rfl
               rotate_left
               · simp only [Act.put, List.setIfInBounds_toArray, List.set_cons_zero, List.set_cons_succ, i64_w, i32_w]
                 rfl
               refine pure_ (i := 4) (N := some 14) (v := ?_) (a' := ?_) #[true, true, true, true, true, false, false, false, false, false, false, false, false, false] rfl rfl (any_of HT_.out (by kernel_rfl)) (fun _ _ _ h => h) (Or.inl ⟨by rfl, ?_⟩) ?_ ?_
               rotate_left
               · intro w'
                 go_simp
                 with_reducible rfl
               rotate_left
               · simp only [Act.put, List.setIfInBounds_toArray, List.set_cons_zero, List.set_cons_succ, i64_w, i32_w]
                 rfl
               refine pure_ (i := 6) (N := some 16) (v := ?_) (a' := ?_) #[true, true, true, true, true, false, true, false, false, false, false, false, false, false] rfl rfl (any_of HT_.out (by kernel_rfl)) (fun _ _ _ h => h) (Or.inl ⟨by rfl, ?_⟩) ?_ ?_
               rotate_left
               · intro w'
                 go_simp
                 with_reducible rfl
               rotate_left
               · simp only [Act.put, List.setIfInBounds_toArray, List.set_cons_zero, List.set_cons_succ, i64_w, i32_w]
                 rfl
               refine pure_ (i := 7) (N := some 17) (v := ?_) (a' := ?_) #[true, true, true, true, true, false, true, true, false, false, false, false, false, false] rfl rfl (any_of HT_.out (by kernel_rfl)) (fun _ _ _ h => h) (Or.inl ⟨by rfl, ?_⟩) ?_ ?_
               rotate_left
               · intro w'
                 go_simp
                 with_reducible rfl
               rotate_left
               · simp only [Act.put, List.setIfInBounds_toArray, List.set_cons_zero, List.set_cons_succ, i64_w, i32_w]
                 rfl
               refine pure_ (i := 8) (N := some 18) (v := ?_) (a' := ?_) #[true, true, true, true, true, false, true, true, true, false, false, false, false, false] rfl rfl (any_of HT_.out (by kernel_rfl)) (fun _ _ _ h => h) (Or.inl ⟨by rfl, ?_⟩) ?_ ?_
               rotate_left
               · intro w'
                 go_simp
                 with_reducible rfl
               rotate_left
               · simp only [Act.put, List.setIfInBounds_toArray, List.set_cons_zero, List.set_cons_succ, i64_w, i32_w]
                 rfl
               refine pure_ (i := 9) (N := some 19) (v := ?_) (a' := ?_) #[true, true, true, true, true, false, true, true, true, true, false, false, false, false] rfl rfl (any_of HT_.out (by kernel_rfl)) (fun _ _ _ h => h) (Or.inl ⟨by rfl, ?_⟩) ?_ ?_
               rotate_left
               · intro w'
                 go_simp
                 with_reducible rfl
               rotate_left
               · simp only [Act.put, List.setIfInBounds_toArray, List.set_cons_zero, List.set_cons_succ, i64_w, i32_w]
                 rfl
               refine pure_ (i := 10) (N := some 20) (v := ?_) (a' := ?_) #[true, true, true, true, true, false, true, true, true, true, true, false, false, false] rfl rfl (any_of HT_.out (by kernel_rfl)) (fun _ _ _ h => h) (Or.inl ⟨by rfl, ?_⟩) ?_ ?_
               rotate_left
               · intro w'
                 go_simp
                 with_reducible rfl
               rotate_left
               · simp only [Act.put, List.setIfInBounds_toArray, List.set_cons_zero, List.set_cons_succ, i64_w, i32_w]
                 rfl
               refine take_ (i := 5) (N := some 15) (v := ?_) (a' := ?_) #[true, true, true, true, true, true, true, true, true, true, true, false, false, false] rfl rfl (take_ofW HT_.out HW_.out (by kernel_rfl)) (fun _ _ _ h => h) (Or.inl ⟨by rfl, ?_⟩) hHeld ?_ ?_
               rotate_left
               · rintro w' ⟨s0, s1⟩
                 go_simp
                 with_reducible rfl
               rotate_left
               · simp only [Act.put, List.setIfInBounds_toArray, List.set_cons_zero, List.set_cons_succ, i64_w, i32_w]
                 rfl
               refine take_ (i := 11) (N := some 21) (v := ?_) (a' := ?_) #[true, true, true, true, true, true, true, true, true, true, true, true, false, false] rfl rfl (take_ofW HT_.out HW_.out (by kernel_rfl)) (fun _ _ _ h => h) (Or.inl ⟨by rfl, ?_⟩) hHeld ?_ ?_
               rotate_left
               · rintro w' ⟨s0, s1⟩
                 go_simp
                 with_reducible rfl
               rotate_left
               · simp only [Act.put, List.setIfInBounds_toArray, List.set_cons_zero, List.set_cons_succ, i64_w, i32_w]
                 rfl
               refine one_ (i := 12) (N := some 22) #[true, true, true, true, true, true, true, true, true, true, true, true, true, false] rfl rfl (one_of HT_.out (by kernel_rfl)) (by decide) (fun K hK => ?_)
               refine goes_ Try.func131 (by kernel_rfl) rfl #[.int .i64 (rd l0 (ji3)), .int .i64 (rd l0 (ji6))] (by rfl) rfl rfl (by (try simp only [List.map_toArray, List.map_cons, List.map_nil]); first | done | (simp only [hji3, hji6]; rfl) | rfl | (simp only [List.length_drop, List.length_take]; rfl)) ?_
               with_reducible refine (spec_l1Gcd.calls k1 (rd l0 (ji3)) (rd l0 (ji6)) t181 _ A9.out).mono ?_
               rintro e w18 ⟨rfl, hb⟩
               refine ⟨_, rfl, ?_⟩
               have n0_ := Aside0.mk (below_step z10_ hb)
               clear HB
               have HB := n0_
               clear n0_
               (try clear hb)
               (try clear hb2)
               (try clear hk)
               (try clear hi)
               refine hK.out _ _ ⟨((HB.out.cell (World.block_lt_of_cell? w _ hw179_0)).trans hw179_0), ((HB.out.cell (World.block_lt_of_cell? w _ hw180_0)).trans hw180_0)⟩ (fun hHeld => ?_)
               clear hK K
               refine norm_ (a' := ?_) ?_ ?_
               rotate_left
               · show Act.put _ (some 22) _ = _
                 simp only [Act.put, List.setIfInBounds_toArray, List.set_cons_zero, List.set_cons_succ, i64_w, i32_w]
                 rfl
               refine pure_ (i := 13) (N := some 5) (v := ?_) (a' := ?_) #[true, true, true, true, true, true, true, true, true, true, true, true, true, true] rfl rfl (any_of HT_.out (by kernel_rfl)) (fun _ _ _ h => h) (Or.inl ⟨by rfl, ?_⟩) ?_ ?_
               rotate_left
               · intro w'
                 go_simp
                 with_reducible rfl
               rotate_left
               · simp only [Act.put, List.setIfInBounds_toArray, List.set_cons_zero, List.set_cons_succ, i64_w, i32_w]
                 rfl
               refine done_ (done_of HT_.out (by kernel_rfl)) ?_
               try go_wp2
               go_roundg k1
               case measure => have := HK1.out; omega
               case rel => exact ⟨(wrap64 (x4_1 - 1)), z22_, H', ⟨by have := HK1.out; omega⟩, ⟨z10_⟩⟩
           · rw [if_neg c8] at H
             exact absurd H (by simp)
         · rw [if_neg c7] at H
           exact absurd H (by simp)
       · rw [if_neg c5] at H
         exact absurd H (by simp)
     · rw [if_neg c4] at H
       exact absurd H (by simp)
   · rw [if_neg c2] at H
     have c2b0 : decide (0 ≤ x4_1) = false := decide_eq_false c2
     clear c2
     simp only [Option.some.injEq, Prod.mk.injEq] at H
     obtain ⟨rfl, rfl⟩ := H
     go_wp2
     go_ret2
     exact ⟨z19_, z10_⟩

/-! ### spec_l5Normal: function 74 -/
mutual
def spec_l5Normal.l0 : Nat → List Int → List Int → List Int → Int → Option (List Int × List Int)
 | 0, _, _, _, _ => none
 | k + 1, x0, x4, x5, x6 => if x6 < 3 then (if 0 ≤ x6 then (if x6 < (x0.length : Int) then ((spec_l1Core.f k (rd x0 x6)).bind fun bt193 => (if x4.length < 17592186044416 then (if 0 ≤ (Int.tmod (wrap64 (x6 + 1)) 3) then (if (Int.tmod (wrap64 (x6 + 1)) 3) < (x5.length : Int) then ((some (x5.set ((Int.tmod (wrap64 (x6 + 1)) 3) : Int).toNat (wrap64 ((rd x5 (Int.tmod (wrap64 (x6 + 1)) 3)) * bt193.2)) : List Int)).bind fun y199 => (if 0 ≤ (Int.tmod (wrap64 (x6 + 2)) 3) then (if (Int.tmod (wrap64 (x6 + 2)) 3) < (x5.length : Int) then (spec_l5Normal.l0 k x0 (x4 ++ [bt193.1]) (y199.set ((Int.tmod (wrap64 (x6 + 2)) 3) : Int).toNat (wrap64 ((rd y199 (Int.tmod (wrap64 (x6 + 2)) 3)) * bt193.2))) (wrap64 (x6 + 1))) else (none)) else (none))) else (none)) else (none)) else (none))) else (none)) else (none)) else ((spec_l5Two.f k x4).bind fun bt202 => (spec_l5Normal.l1 k x4 x5 bt202.1 bt202.2))
def spec_l5Normal.l1 : Nat → List Int → List Int → Int → Int → Option (List Int × List Int)
 | 0, _, _, _, _ => none
 | k + 1, x4, x5, x9, x10 => if x9 > 1 then (if 0 ≤ (Int.tmod (wrap64 (x10 + 1)) 3) then (if (Int.tmod (wrap64 (x10 + 1)) 3) < (x4.length : Int) then (if x9 = 0 then (none) else ((some (x4.set ((Int.tmod (wrap64 (x10 + 1)) 3) : Int).toNat (wrap64 (Int.tdiv (rd x4 (Int.tmod (wrap64 (x10 + 1)) 3)) x9)) : List Int)).bind fun y205 => (if 0 ≤ (Int.tmod (wrap64 (x10 + 2)) 3) then (if (Int.tmod (wrap64 (x10 + 2)) 3) < (x4.length : Int) then ((some (y205.set ((Int.tmod (wrap64 (x10 + 2)) 3) : Int).toNat (wrap64 (Int.tdiv (rd y205 (Int.tmod (wrap64 (x10 + 2)) 3)) x9)) : List Int)).bind fun y207 => (if 0 ≤ x10 then (if x10 < (x4.length : Int) then (if (Int.tmod (rd y207 x10) x9) = 0 then ((some (y207.set (x10 : Int).toNat (wrap64 (Int.tdiv (rd y207 x10) x9)) : List Int)).bind fun y210 => ((spec_l5Two.f k y210).bind fun bt211 => (spec_l5Normal.l1 k y210 x5 bt211.1 bt211.2))) else ((some (y207.set (x10 : Int).toNat (wrap64 ((rd y207 x10) * x9)) : List Int)).bind fun y214 => (if x10 < (x5.length : Int) then ((spec_l5Two.f k y214).bind fun bt217 => (spec_l5Normal.l1 k y214 (x5.set (x10 : Int).toNat (wrap64 ((rd x5 x10) * x9))) bt217.1 bt217.2)) else (none)))) else (none)) else (none))) else (none)) else (none)))) else (none)) else (none)) else (some (x4, x5))
end
def spec_l5Normal.f (k : Nat) (l0 : List Int) : Option (List Int × List Int) := spec_l5Normal.l0 k l0 (([] : List Int)) (([1, 1, 1] : List Int)) 0
theorem spec_l5Normal.mono_l : ∀ k, (∀ y0 y1 y2 y3, LeO (spec_l5Normal.l0 k y0 y1 y2 y3) (spec_l5Normal.l0 (k + 1) y0 y1 y2 y3)) ∧ (∀ y0 y1 y2 y3, LeO (spec_l5Normal.l1 k y0 y1 y2 y3) (spec_l5Normal.l1 (k + 1) y0 y1 y2 y3))
 | 0 => ⟨fun _ _ _ _ r h => by simp [spec_l5Normal.l0] at h, fun _ _ _ _ r h => by simp [spec_l5Normal.l1] at h⟩
 | k + 1 => by
  obtain ⟨ih0, ih1⟩ := spec_l5Normal.mono_l k
  refine ⟨?_, ?_⟩
  · intro y0 y1 y2 y3
    unfold spec_l5Normal.l0
    repeat' first
    | (with_reducible exact ih0 _ _ _ _)
    | (with_reducible exact ih1 _ _ _ _)
    | (with_reducible exact spec_l1Core.mono _ _)
    | (with_reducible exact spec_l5Two.mono _ _)
    | (with_reducible exact LeO.refl _)
    | (with_reducible exact LeO.none _)
    | (with_reducible refine LeO.ite ?_ ?_)
    | (with_reducible refine LeO.bind ?_ (fun _ => ?_))
    | exact ih0 _ _ _ _
    | exact ih1 _ _ _ _
    | exact spec_l1Core.mono _ _
    | exact spec_l5Two.mono _ _
    | exact LeO.none _
    | refine LeO.ite ?_ ?_
    | refine LeO.bind ?_ (fun _ => ?_)
  · intro y0 y1 y2 y3
    unfold spec_l5Normal.l1
    repeat' first
    | (with_reducible exact ih0 _ _ _ _)
    | (with_reducible exact ih1 _ _ _ _)
    | (with_reducible exact spec_l1Core.mono _ _)
    | (with_reducible exact spec_l5Two.mono _ _)
    | (with_reducible exact LeO.refl _)
    | (with_reducible exact LeO.none _)
    | (with_reducible refine LeO.ite ?_ ?_)
    | (with_reducible refine LeO.bind ?_ (fun _ => ?_))
    | exact ih0 _ _ _ _
    | exact ih1 _ _ _ _
    | exact spec_l1Core.mono _ _
    | exact spec_l5Two.mono _ _
    | exact LeO.none _
    | refine LeO.ite ?_ ?_
    | refine LeO.bind ?_ (fun _ => ?_)
theorem spec_l5Normal.mono : ∀ a0 k, LeO (spec_l5Normal.f k a0) (spec_l5Normal.f (k + 1) a0) := by
 intro a0 k
 obtain ⟨ih0, ih1⟩ := spec_l5Normal.mono_l k
 unfold spec_l5Normal.f
 repeat' first
  | (with_reducible exact ih0 _ _ _ _)
  | (with_reducible exact ih1 _ _ _ _)
  | (with_reducible exact spec_l1Core.mono _ _)
  | (with_reducible exact spec_l5Two.mono _ _)
  | (with_reducible exact LeO.refl _)
  | (with_reducible exact LeO.none _)
  | (with_reducible refine LeO.ite ?_ ?_)
  | (with_reducible refine LeO.bind ?_ (fun _ => ?_))
  | exact ih0 _ _ _ _
  | exact ih1 _ _ _ _
  | exact spec_l1Core.mono _ _
  | exact spec_l5Two.mono _ _
  | exact LeO.none _
  | refine LeO.ite ?_ ?_
  | refine LeO.bind ?_ (fun _ => ?_)
theorem spec_l5Normal.calls (k : Nat) (A0 : Option Addr) (c0 : Nat) (l0 : List Int) (r1 : List Int) (r2 : List Int) (w : World) (hr0 : Kd.C (Kd.int .i64) w A0 l0.length l0) (hc0 : l0.length ≤ c0) (h : spec_l5Normal.f k l0 = some (r1, r2)) :
 Calls Try.prog 74 #[.slice A0 l0.length c0] w fun e w' => ∃ v0_ v1_ : Value, e = .returned (.tuple #[v0_, v1_]) ∧ Kd.R (Kd.int .i64) 3 w' w.heap.size (fun k_ => some k_ ≠ (v1_ : Value).ownBlock) v0_ r1 ∧ Kd.R (Kd.int .i64) 3 w' w.heap.size (fun k_ => some k_ ≠ (v0_ : Value).ownBlock) v1_ r2 ∧ Below w.heap.size w w' := by
 have HR0 := Aside0.mk hr0
 have HC0 := Aside0.mk hc0
 clear hr0 hc0
 have HB := Aside0.mk (Below.refl w.heap.size w)
 have H : (spec_l5Normal.l0 k l0 (([] : List Int)) (([1, 1, 1] : List Int)) 0) = some (r1, r2) := h
 clear h
 obtain ⟨y186, hy186⟩ : ∃ y_ : List Int, y_ = (([] : List Int)) := ⟨_, rfl⟩
 replace H : (spec_l5Normal.l0 k l0 y186 (([1, 1, 1] : List Int)) 0) = some (r1, r2) := by first | (rw [hy186]; with_reducible exact H) | (have H2_ := (Option.bind_some _ _).symm.trans H; rw [hy186]; with_reducible exact H2_) | (have H2_ := (Option.bind_some _ _).symm.trans H; with_reducible exact H2_) | with_reducible exact H | (rw [hy186]; exact H) | exact H
 have Ny186 := Aside0.mk hy186
 clear hy186
 obtain ⟨y189, hy189⟩ : ∃ y_ : List Int, y_ = (([1, 1, 1] : List Int)) := ⟨_, rfl⟩
 replace H : (spec_l5Normal.l0 k l0 y186 y189 0) = some (r1, r2) := by first | (rw [hy189]; with_reducible exact H) | (have H2_ := (Option.bind_some _ _).symm.trans H; rw [hy189]; with_reducible exact H2_) | (have H2_ := (Option.bind_some _ _).symm.trans H; with_reducible exact H2_) | with_reducible exact H | (rw [hy189]; exact H) | exact H
 have Ny189 := Aside0.mk hy189
 clear hy189
 have H' := Aside0.mk H
 clear H
 go_enter Try.func74, Try.ntmps74
 go_wp2_with (first | ((with_reducible refine gate_dst (N := 11) rfl ?_); refine Kd.R_lit (Kd.int .i64) _ 3 ?hg (N := 11) ?hd (xs := ([] : List Int)) (inner := []) (ok := fun _ => True) (okp := fun _ => True) ?hr ?hp (fun _ hk => hk) trivial (Below.refl _ _) (Nat.le_refl _) (by simp) ?_; (case hd => rfl); (case hg => rfl); (case hr => first | (go_simp; done) | (go_simp; rfl)); (case hp => exact (Reps.none _ _)); intro v187 w2 ho3 hb hg_ hnew_; clear hg_ hnew_; (first | rw [← Ny186.out] at ho3 | (simp only [Int.reduceToNat] at ho3; rw [← Ny186.out] at ho3)); have n0_ := Aside0.mk (Kd.R_lower ho3 (below_size z10_)); have n1_ := Aside0.mk (below_step z10_ hb); clear HB; have HO188 := n0_; have HB := n1_; clear n0_ n1_; clear hb ho3) | ((with_reducible refine gate_dst (N := 12) rfl ?_); refine Kd.R_lit (Kd.int .i64) _ 3 ?hg (N := 12) ?hd (xs := ([1, 1, 1] : List Int)) (inner := [.int .i64 1, .int .i64 1, .int .i64 1]) (ok := fun _ => True) (okp := fun _ => True) ?hr ?hp (fun _ hk => hk) trivial (Below.refl _ _) (Nat.le_refl _) (by simp) ?_; (case hd => rfl); (case hg => rfl); (case hr => first | (go_simp; done) | (go_simp; rfl)); (case hp => exact (Reps.one (show Kd.M (Kd.int .i64) _ _ _ 1 [.int .i64 1] from rfl) (Reps.one (show Kd.M (Kd.int .i64) _ _ _ 1 [.int .i64 1] from rfl) (Reps.one (show Kd.M (Kd.int .i64) _ _ _ 1 [.int .i64 1] from rfl) (Reps.none _ _))))); intro v190 w4 ho5 hb hg_ hnew_; clear hg_ hnew_; (first | rw [← Ny189.out] at ho5 | (simp only [Int.reduceToNat] at ho5; rw [← Ny189.out] at ho5)); have n0_ := Aside0.mk (Kd.R_elder' (by (with_reducible repeat (first | apply Kd.R_alloc | apply Kd.R_drewN | apply Kd.R_drew)); exact HO188.out) (Kd.R_base ho5) hb); have n1_ := Aside0.mk (Kd.R_lower (Kd.R_new' ho5 (Kd.R_lt (by (with_reducible repeat (first | apply Kd.R_alloc | apply Kd.R_drewN | apply Kd.R_drew)); exact HO188.out))) (below_size z10_)); have n2_ := Aside0.mk (below_step z10_ hb); clear HO188; clear HB; have HO188 := n0_; have HO191 := n1_; have HB := n2_; clear n0_ n1_ n2_; clear hb ho5))
 go_loopg [4, 6] k (fun kq v4 v6 w' => ∃ (x4_1 : List Int) (x5_1 : List Int) (x6_1 : Int), v6 = .int .i64 x6_1 ∧ Aside0 (spec_l5Normal.l0 kq l0 x4_1 x5_1 x6_1 = some (r1, r2)) ∧ Aside0 (kq ≤ k) ∧ Aside0 (Kd.R (Kd.int .i64) 3 w' w.heap.size (fun k_ => some k_ ≠ (v190 : Value).ownBlock) v4 x4_1) ∧ Aside0 (Kd.R (Kd.int .i64) 3 w' w.heap.size (fun k_ => some k_ ≠ (v4 : Value).ownBlock) v190 x5_1) ∧ Aside0 (Below w.heap.size w w'))
 case atStart => exact ⟨(y186), (y189), (0), z22_, H', ⟨Nat.le_refl _⟩, ⟨by (with_reducible repeat (first | apply Kd.R_alloc | apply Kd.R_drewN | apply Kd.R_drew)); exact Kd.R_mono HO188.out (fun _ hk => hk.2)⟩, ⟨by (with_reducible repeat (first | apply Kd.R_alloc | apply Kd.R_drewN | apply Kd.R_drew)); exact Kd.R_mono HO191.out (fun _ hk => hk.2)⟩, ⟨z10_⟩⟩
 case round =>
  clear H'
  try clear p2
  obtain ⟨x4_1, x5_1, x6_1, rfl, HA, HK1, HO_4, HO_5, HB⟩ := hrel
  cases gk with
  | zero => exact absurd HA.out (by simp [spec_l5Normal.l0])
  | succ k1 =>
   have H := HA.out
   clear HA
   simp only [spec_l5Normal.l0] at H
   by_cases c6 : x6_1 < 3
   · rw [if_pos c6] at H
     have c6b0 : decide (x6_1 < 3) = true := decide_eq_true c6
     clear c6
     by_cases c7 : 0 ≤ x6_1
     · rw [if_pos c7] at H
       have c7b0 : decide (0 ≤ x6_1) = true := decide_eq_true c7
       clear c7
       by_cases c8 : x6_1 < (l0.length : Int)
       · rw [if_pos c8] at H
         have c8b0 : decide (x6_1 < (l0.length : Int)) = true := decide_eq_true c8
         clear c8
         replace H := Option.bind_eq_some_iff.mp H
         obtain ⟨⟨t193, t194⟩, A90, H⟩ := H
         replace H : (if x4_1.length < 17592186044416 then (if 0 ≤ (Int.tmod (wrap64 (x6_1 + 1)) 3) then (if (Int.tmod (wrap64 (x6_1 + 1)) 3) < (x5_1.length : Int) then ((some (x5_1.set ((Int.tmod (wrap64 (x6_1 + 1)) 3) : Int).toNat (wrap64 ((rd x5_1 (Int.tmod (wrap64 (x6_1 + 1)) 3)) * t194)) : List Int)).bind fun y199 => (if 0 ≤ (Int.tmod (wrap64 (x6_1 + 2)) 3) then (if (Int.tmod (wrap64 (x6_1 + 2)) 3) < (x5_1.length : Int) then (spec_l5Normal.l0 k1 l0 (x4_1 ++ [t193]) (y199.set ((Int.tmod (wrap64 (x6_1 + 2)) 3) : Int).toNat (wrap64 ((rd y199 (Int.tmod (wrap64 (x6_1 + 2)) 3)) * t194))) (wrap64 (x6_1 + 1))) else (none)) else (none))) else (none)) else (none)) else (none)) = some (r1, r2) := H
         have A9 := Aside0.mk A90
         clear A90
         by_cases c10 : x4_1.length < 17592186044416
         · rw [if_pos c10] at H
           have LMc10 := Aside0.mk c10
           clear c10
           obtain ⟨y195, hy195⟩ : ∃ y_ : List Int, y_ = (x4_1 ++ [t193]) := ⟨_, rfl⟩
           replace H : (if 0 ≤ (Int.tmod (wrap64 (x6_1 + 1)) 3) then (if (Int.tmod (wrap64 (x6_1 + 1)) 3) < (x5_1.length : Int) then ((some (x5_1.set ((Int.tmod (wrap64 (x6_1 + 1)) 3) : Int).toNat (wrap64 ((rd x5_1 (Int.tmod (wrap64 (x6_1 + 1)) 3)) * t194)) : List Int)).bind fun y199 => (if 0 ≤ (Int.tmod (wrap64 (x6_1 + 2)) 3) then (if (Int.tmod (wrap64 (x6_1 + 2)) 3) < (x5_1.length : Int) then (spec_l5Normal.l0 k1 l0 y195 (y199.set ((Int.tmod (wrap64 (x6_1 + 2)) 3) : Int).toNat (wrap64 ((rd y199 (Int.tmod (wrap64 (x6_1 + 2)) 3)) * t194))) (wrap64 (x6_1 + 1))) else (none)) else (none))) else (none)) else (none)) = some (r1, r2) := by first | (rw [hy195]; with_reducible exact H) | (have H2_ := (Option.bind_some _ _).symm.trans H; rw [hy195]; with_reducible exact H2_) | (have H2_ := (Option.bind_some _ _).symm.trans H; with_reducible exact H2_) | with_reducible exact H | (rw [hy195]; exact H) | exact H
           have Ny195 := Aside0.mk hy195
           clear hy195
           obtain ⟨ji11, hji11⟩ : ∃ j_ : Int, (Int.tmod (wrap64 (x6_1 + 1)) 3) = j_ := ⟨_, rfl⟩
           replace H : (if 0 ≤ (ji11) then (if (ji11) < (x5_1.length : Int) then ((some (x5_1.set ((ji11) : Int).toNat (wrap64 ((rd x5_1 (ji11)) * t194)) : List Int)).bind fun y199 => (if 0 ≤ (Int.tmod (wrap64 (x6_1 + 2)) 3) then (if (Int.tmod (wrap64 (x6_1 + 2)) 3) < (x5_1.length : Int) then (spec_l5Normal.l0 k1 l0 y195 (y199.set ((Int.tmod (wrap64 (x6_1 + 2)) 3) : Int).toNat (wrap64 ((rd y199 (Int.tmod (wrap64 (x6_1 + 2)) 3)) * t194))) (wrap64 (x6_1 + 1))) else (none)) else (none))) else (none)) else (none)) = some (r1, r2) := by first | (rw [hji11] at H; exact H) | (simp only [hji11] at H ⊢; exact H)
           (try rw [hji11] at A9)
           by_cases c12 : 0 ≤ (ji11)
           · rw [if_pos c12] at H
             have c12b0 : decide (0 ≤ (ji11)) = true := decide_eq_true c12
             clear c12
             by_cases c13 : (ji11) < (x5_1.length : Int)
             · rw [if_pos c13] at H
               have c13b0 : decide ((ji11) < (x5_1.length : Int)) = true := decide_eq_true c13
               clear c13
               obtain ⟨y199, hy199⟩ : ∃ y_ : List Int, y_ = (x5_1.set ((ji11) : Int).toNat (wrap64 ((rd x5_1 (ji11)) * t194))) := ⟨_, rfl⟩
               replace H : (if 0 ≤ (Int.tmod (wrap64 (x6_1 + 2)) 3) then (if (Int.tmod (wrap64 (x6_1 + 2)) 3) < (x5_1.length : Int) then (spec_l5Normal.l0 k1 l0 y195 (y199.set ((Int.tmod (wrap64 (x6_1 + 2)) 3) : Int).toNat (wrap64 ((rd y199 (Int.tmod (wrap64 (x6_1 + 2)) 3)) * t194))) (wrap64 (x6_1 + 1))) else (none)) else (none)) = some (r1, r2) := by first | (rw [hy199]; with_reducible exact H) | (have H2_ := (Option.bind_some _ _).symm.trans H; rw [hy199]; with_reducible exact H2_) | (have H2_ := (Option.bind_some _ _).symm.trans H; with_reducible exact H2_) | with_reducible exact H | (rw [hy199]; exact H) | exact H
               have Ny199 := Aside0.mk hy199
               clear hy199
               obtain ⟨ji15, hji15⟩ : ∃ j_ : Int, (Int.tmod (wrap64 (x6_1 + 2)) 3) = j_ := ⟨_, rfl⟩
               replace H : (if 0 ≤ (ji15) then (if (ji15) < (x5_1.length : Int) then (spec_l5Normal.l0 k1 l0 y195 (y199.set ((ji15) : Int).toNat (wrap64 ((rd y199 (ji15)) * t194))) (wrap64 (x6_1 + 1))) else (none)) else (none)) = some (r1, r2) := by first | (rw [hji15] at H; exact H) | (simp only [hji15] at H ⊢; exact H)
               (try rw [hji15] at A9)
               by_cases c16 : 0 ≤ (ji15)
               · rw [if_pos c16] at H
                 have c16b0 : decide (0 ≤ (ji15)) = true := decide_eq_true c16
                 clear c16
                 by_cases c17 : (ji15) < (x5_1.length : Int)
                 · rw [if_pos c17] at H
                   have c17b0 : decide ((ji15) < (x5_1.length : Int)) = true := decide_eq_true c17
                   clear c17
                   obtain ⟨y201, hy201⟩ : ∃ y_ : List Int, y_ = (y199.set ((ji15) : Int).toNat (wrap64 ((rd y199 (ji15)) * t194))) := ⟨_, rfl⟩
                   replace H : (spec_l5Normal.l0 k1 l0 y195 y201 (wrap64 (x6_1 + 1))) = some (r1, r2) := by first | (rw [hy201]; with_reducible exact H) | (have H2_ := (Option.bind_some _ _).symm.trans H; rw [hy201]; with_reducible exact H2_) | (have H2_ := (Option.bind_some _ _).symm.trans H; with_reducible exact H2_) | with_reducible exact H | (rw [hy201]; exact H) | exact H
                   have Ny201 := Aside0.mk hy201
                   clear hy201
                   have H' := Aside0.mk H
                   clear H
                   have p192 : 0 ≤ (x6_1 : Int) := of_decide_eq_true z21_
                   have q192 : x6_1 < (l0.length : Int) := of_decide_eq_true z21_
                   obtain ⟨ad192, e192, hx192_0⟩ := Kd.at_int HR0.out x6_1 p192 q192
                   cases e192
                   replace hx192_0 := (HB.out.cell (World.block_lt_of_cell? w _ hx192_0)).trans hx192_0
                   replace p192 := eq_true p192
                   replace q192 := eq_true q192
                   go_wp2_with (first | ((with_reducible refine gate_callee (f := 113) rfl ?_); refine goesL_ (some 22) rfl rfl Try.func113 (by kernel_rfl) rfl #[.int .i64 (rd l0 x6_1)] rfl z8_ ?_; (with_reducible refine (spec_l1Core.calls k1 (rd l0 x6_1) t193 t194 _ A9.out).mono ?_); rintro e w19 ⟨rfl, hb⟩; refine ⟨_, rfl, ?_⟩; have n0_ := Aside0.mk (Kd.R_below z17_ hb); have n1_ := Aside0.mk (Kd.R_below z18_ hb); have n2_ := Aside0.mk (below_step z10_ hb); clear HO_4; clear HO_5; clear HB; have HO_4 := n0_; have HO_5 := n1_; have HB := n2_; clear n0_ n1_ n2_; (try clear hb); (try clear hb2); (try clear hk); (try clear hi)) | ((with_reducible refine gate_builtin (b := .append) (xs := #[.tmp 25, .tmp 27]) rfl ?_); at_builtin; refine Kd.R_append (Kd.int .i64) (w0 := w) w.heap.size rfl (.tmp 25) (.tmp 27) 23 3 (.int .i64 0) 8 rfl Try.underlying23 info3 rfl (by decide) (by omega) u4 x4_1 t193 [.int .i64 t193] (fun k_ => some k_ ≠ (v190 : Value).ownBlock) (fun _ => False) rfl rfl ?aP (fun _ hk => hk.elim) ?aF ?aO ?aB ?aS ?aL ?_; (case aP => exact rfl); (case aB => exact z10_); (case aF => exact (fun k_ hk => Kd.fresh' (Kd.R_lt z18_) k_ hk)); (case aO => exact z17_); (case aS => exact (below_size z10_)); (case aL => have := LMc10.out; omega); intro v196 w20 ho hb hg hat; rw [← Ny195.out] at ho; have n0_ := Aside0.mk (Kd.R_after (ok := (fun _ => True)) (by (with_reducible repeat (first | apply Kd.R_alloc | apply Kd.R_drewN | apply Kd.R_drew)); exact Kd.R_mono HO_5.out (fun _ hk => ⟨trivial, hk⟩)) hg hat); have n1_ := Aside0.mk (hb); have n2_ := Aside0.mk (ho); clear HO_5; clear HB; clear HO_4; have HO_5 := n0_; have HB := n1_; have HO197 := n2_; clear n0_ n1_ n2_; clear ho hb hg hat; obtain ⟨Ao21, co21, eo21⟩ := Kd.R_slice HO_5.out; subst eo21; have p198 : 0 ≤ ((ji11) : Int) := of_decide_eq_true z21_; have q198 : (ji11) < (x5_1.length : Int) := of_decide_eq_true z21_; obtain ⟨ad198, e198, hx198_0⟩ := Kd.at_int (Kd.R_reads' HO_5.out).2.2 (ji11) p198 q198; cases e198; replace p198 := eq_true p198; replace q198 := eq_true q198; have p14 : 0 ≤ ((ji11) : Int) := of_decide_eq_true z21_; have q14 : ((ji11) : Int) < ((x5_1.length : Int) : Int) := of_decide_eq_true z21_; obtain ⟨go14, co14, eo14, gb14, gl14, cl14, HG14⟩ := Kd.R_form HO_5.out (by omega); (first | cases eo14 | (injection eo14 with ea_ en_ ec_; (first | subst ea_ | (injection ea_ with ea_; subst ea_)); subst ec_; clear en_)); have GB14 := Aside0.mk gb14; have GG14 := Aside0.mk HG14; clear gb14 gl14 HG14; (first | simp only [add_plain] at hx198_0 | skip); obtain ⟨hx14_0, hf14_0⟩ := Kd.R_celln 0 HO_5.out ((ji11) : Int) p14 q14; replace p14 := eq_true p14; replace q14 := eq_true q14; have n_ := Aside0.mk (Kd.R_mono (ok' := (fun k_ => some k_ ≠ (v196 : Value).ownBlock)) HO_5.out (fun k_ hk => hk.2)); clear HO_5; have HO_5 := n_; clear n_; obtain ⟨hy22_, hz22_⟩ := Kd.R_celln 0 HO_5.out ((ji11) : Int) (of_decide_eq_true z21_) (of_decide_eq_true z21_); have HP22 := Kd.R_putg HO_5.out ((ji11) : Int) (wrap64 ((rd x5_1 (ji11)) * t194))) | ((with_reducible refine gate_store (t := 3) (p := 41) rfl ?_); refine store_event (t := 3) (p := 41) (v := ?vo_w23) (w1 := (w20.setCell ⟨go14, ((ji11) : Int).toNat, none⟩ (.int .i64 (wrap64 ((rd x5_1 (ji11)) * t194))))) ?hg ?ho ?hn ?hr ?_; (case ho => rfl); (case hg => rfl); (case hn => rfl); (case hr => first | (go_simp; done) | (go_simp; rfl)); intro w23 hw; have hg : w20.grownBy w23 (some go14) := (by rw [hw]; exact HP22.2); have hp_ : Kd.R (Kd.int .i64) 3 w23 w.heap.size (fun k_ => some k_ ≠ (v196 : Value).ownBlock) (.slice (some ⟨go14, 0, none⟩) x5_1.length co21) y199 := (by rw [hw, Ny199.out]; exact HP22.1); clear HP22; have n0_ := Aside0.mk (hp_); have n1_ := Aside0.mk (Kd.R_after (v := (.slice (some ⟨go14, 0, none⟩) x5_1.length co21)) (v1 := (.slice (some ⟨go14, 0, none⟩) x5_1.length co21)) (ok := (fun _ => True)) (by (with_reducible repeat (first | apply Kd.R_alloc | apply Kd.R_drewN | apply Kd.R_drew)); exact Kd.R_mono HO197.out (fun _ hk => ⟨trivial, hk⟩)) hg (.inl rfl)); have n2_ := Aside0.mk ((by rw [hw]; exact below_set (HB.out) GB14.out : Below w.heap.size w w23)); clear HO_5; clear HO197; clear HB; have HO_5 := n0_; have HO197 := n1_; have HB := n2_; clear n0_ n1_ n2_; clear hg hw hp_; have p200 : 0 ≤ ((ji15) : Int) := of_decide_eq_true z21_; have q200 : (ji15) < (y199.length : Int) := (by have h_ : ((ji15) : Int) < ((x5_1.length : Int) : Int) := of_decide_eq_true z21_; first | (have e_ := (Kd.R_reads' HO_5.out).1; omega) | simpa only [Ny199.out, List.length_set] using h_); have ql200 : (((ji15) : Int) < ((x5_1.length : Int) : Int)) = True := eq_true (of_decide_eq_true z21_); obtain ⟨ad200, e200, hx200_0⟩ := Kd.at_int (Kd.R_reads' HO_5.out).2.2 (ji15) p200 q200; obtain rfl : (⟨go14, 0, none⟩ : Addr) = ad200 := (by injection e200); (first | simp only [add_plain] at hx200_0 | simp only [add_at] at hx200_0 | simp only [Addr.add, Nat.zero_add] at hx200_0 | skip); replace p200 := eq_true p200; replace q200 := eq_true q200; have p18 : 0 ≤ ((ji15) : Int) := of_decide_eq_true z21_; have q18 : ((ji15) : Int) < ((x5_1.length : Int) : Int) := of_decide_eq_true z21_; obtain ⟨hx18_0, hf18_0⟩ := Kd.R_celln 0 HO_5.out ((ji15) : Int) p18 q18; replace p18 := eq_true p18; replace q18 := eq_true q18; obtain ⟨hy24_, hz24_⟩ := Kd.R_celln 0 HO_5.out ((ji15) : Int) (of_decide_eq_true z21_) (of_decide_eq_true z21_); have HP24 := Kd.R_putg HO_5.out ((ji15) : Int) (wrap64 ((rd y199 (ji15)) * t194))) | ((with_reducible refine gate_store (t := 3) (p := 54) rfl ?_); refine store_event (t := 3) (p := 54) (v := ?vo_w25) (w1 := (w23.setCell ⟨go14, ((ji15) : Int).toNat, none⟩ (.int .i64 (wrap64 ((rd y199 (ji15)) * t194))))) ?hg ?ho ?hn ?hr ?_; (case ho => rfl); (case hg => rfl); (case hn => rfl); (case hr => first | (go_simp; done) | (go_simp; rfl)); intro w25 hw; have hg : w23.grownBy w25 (some go14) := (by rw [hw]; exact HP24.2); have hp_ : Kd.R (Kd.int .i64) 3 w25 w.heap.size (fun k_ => some k_ ≠ (v196 : Value).ownBlock) (.slice (some ⟨go14, 0, none⟩) x5_1.length co21) y201 := (by rw [hw, Ny201.out]; exact HP24.1); clear HP24; have n0_ := Aside0.mk (hp_); have n1_ := Aside0.mk (Kd.R_after (v := (.slice (some ⟨go14, 0, none⟩) x5_1.length co21)) (v1 := (.slice (some ⟨go14, 0, none⟩) x5_1.length co21)) (ok := (fun _ => True)) (by (with_reducible repeat (first | apply Kd.R_alloc | apply Kd.R_drewN | apply Kd.R_drew)); exact HO197.out) hg (.inl rfl)); have n2_ := Aside0.mk ((by rw [hw]; exact below_set (HB.out) GB14.out : Below w.heap.size w w25)); clear HO_5; clear HO197; clear HB; have HO_5 := n0_; have HO197 := n1_; have HB := n2_; clear n0_ n1_ n2_; clear hg hw hp_))
                   go_roundg k1
                   case measure => have := HK1.out; omega
                   case rel => exact ⟨(y195), (y201), (wrap64 (x6_1 + 1)), z22_, H', ⟨by have := HK1.out; omega⟩, ⟨by (with_reducible repeat (first | apply Kd.R_alloc | apply Kd.R_drewN | apply Kd.R_drew)); exact Kd.R_mono HO197.out (fun _ hk => hk.2)⟩, ⟨z18_⟩, ⟨z10_⟩⟩
                 · rw [if_neg c17] at H
                   exact absurd H (by simp)
               · rw [if_neg c16] at H
                 exact absurd H (by simp)
             · rw [if_neg c13] at H
               exact absurd H (by simp)
           · rw [if_neg c12] at H
             exact absurd H (by simp)
         · rw [if_neg c10] at H
           exact absurd H (by simp)
       · rw [if_neg c8] at H
         exact absurd H (by simp)
     · rw [if_neg c7] at H
       exact absurd H (by simp)
   · rw [if_neg c6] at H
     have c6b0 : decide (x6_1 < 3) = false := decide_eq_false c6
     clear c6
     replace H := Option.bind_eq_some_iff.mp H
     obtain ⟨⟨t202, t203⟩, A260, H⟩ := H
     replace H : (spec_l5Normal.l1 k1 x4_1 x5_1 t202 t203) = some (r1, r2) := H
     have A26 := Aside0.mk A260
     clear A260
     have H' := Aside0.mk H
     clear H
     obtain ⟨Ao27, co27, eo27⟩ := Kd.R_slice HO_4.out
     subst eo27
     go_wp2_with (first | ((with_reducible refine gate_callee (f := 117) rfl ?_); refine goesL_ (some 57) rfl rfl Try.func117 (by kernel_rfl) rfl #[.slice Ao27 x4_1.length co27] rfl z8_ ?_; (with_reducible refine (spec_l5Two.calls k1 _ _ x4_1 t202 t203 _ ?side1 ?side2 A26.out).mono ?_); (case side1 => repeat (first | exact (Kd.R_reads' HO_4.out).2.2 | (with_reducible refine Kd.C_alloc ?_ _) | (with_reducible refine Kd.C_drewN ?_ _) | (with_reducible refine Kd.C_drew ?_))); (case side2 => exact (Kd.R_reads' HO_4.out).2.1); rintro e w28 ⟨rfl, hb⟩; refine ⟨_, rfl, ?_⟩; have n0_ := Aside0.mk (Kd.R_below z17_ hb); have n1_ := Aside0.mk (Kd.R_below z18_ hb); have n2_ := Aside0.mk (below_step z10_ hb); clear HO_4; clear HO_5; clear HB; have HO_4 := n0_; have HO_5 := n1_; have HB := n2_; clear n0_ n1_ n2_; (try clear hb); (try clear hb2); (try clear hk); (try clear hi)))
     go_loopg [9, 10] k1 (fun kq v9 v10 w' => ∃ (x4_2 : List Int) (x5_2 : List Int) (x9_2 : Int) (x10_2 : Int), v9 = .int .i64 x9_2 ∧ v10 = .int .i64 x10_2 ∧ Aside0 (spec_l5Normal.l1 kq x4_2 x5_2 x9_2 x10_2 = some (r1, r2)) ∧ Aside0 (kq ≤ k1) ∧ Aside0 (Kd.R (Kd.int .i64) 3 w' w.heap.size (fun k_ => some k_ ≠ (v190 : Value).ownBlock) (.slice Ao27 x4_1.length co27) x4_2) ∧ Aside0 (Kd.R (Kd.int .i64) 3 w' w.heap.size (fun k_ => some k_ ≠ ((.slice Ao27 x4_1.length co27) : Value).ownBlock) v190 x5_2) ∧ Aside0 (Below w.heap.size w w'))
     case atStart => exact ⟨(x4_1), (x5_1), (t202), (t203), z22_, z22_, H', ⟨Nat.le_refl _⟩, ⟨z17_⟩, ⟨z18_⟩, ⟨z10_⟩⟩
     case round =>
      clear H'
      try clear c1
      try clear p1
      try clear q1
      try clear hx1
      try clear hf1
      try clear p2
      try clear q2
      try clear hx2
      try clear c6
      try clear c6b0
      try clear p6
      try clear c7
      try clear c7b0
      try clear c8
      try clear c8b0
      try clear c10
      try clear c11
      try clear c12
      try clear c12b0
      try clear c13
      try clear c13b0
      try clear p14
      try clear q14
      try clear hx14
      try clear hf14
      try clear c16
      try clear c16b0
      try clear c17
      try clear c17b0
      try clear p18
      try clear q18
      try clear hx18
      try clear hf18
      try clear p19
      try clear q19
      try clear hx19
      try clear p20
      try clear q20
      try clear hx20
      try clear hx14_0
      try clear hx18_0
      try clear hx192_0
      try clear hx198_0
      try clear hx200_0
      try clear p14
      try clear p18
      try clear p192
      try clear p198
      try clear p2
      try clear p200
      try clear q14
      try clear q18
      try clear q192
      try clear q198
      try clear q200
      obtain ⟨x4_2, x5_2, x9_2, x10_2, rfl, rfl, HA, HK2, HO_4, HO_5, HB⟩ := hrel
      have hl4_2 := (Kd.R_reads' HO_4.out).1
      rw [hl4_2] at HO_4
      (try simp only [hl4_2])
      (try simp only [hl4_2] at HO_5)
      cases gk with
      | zero => exact absurd HA.out (by simp [spec_l5Normal.l1])
      | succ k2 =>
       have H := HA.out
       clear HA
       simp only [spec_l5Normal.l1] at H
       by_cases c29 : x9_2 > 1
       · rw [if_pos c29] at H
         have c29b0 : decide (1 < x9_2) = true := decide_eq_true c29
         clear c29
         obtain ⟨ji30, hji30⟩ : ∃ j_ : Int, (Int.tmod (wrap64 (x10_2 + 1)) 3) = j_ := ⟨_, rfl⟩
         replace H : (if 0 ≤ (ji30) then (if (ji30) < (x4_2.length : Int) then (if x9_2 = 0 then (none) else ((some (x4_2.set ((ji30) : Int).toNat (wrap64 (Int.tdiv (rd x4_2 (ji30)) x9_2)) : List Int)).bind fun y205 => (if 0 ≤ (Int.tmod (wrap64 (x10_2 + 2)) 3) then (if (Int.tmod (wrap64 (x10_2 + 2)) 3) < (x4_2.length : Int) then ((some (y205.set ((Int.tmod (wrap64 (x10_2 + 2)) 3) : Int).toNat (wrap64 (Int.tdiv (rd y205 (Int.tmod (wrap64 (x10_2 + 2)) 3)) x9_2)) : List Int)).bind fun y207 => (if 0 ≤ x10_2 then (if x10_2 < (x4_2.length : Int) then (if (Int.tmod (rd y207 x10_2) x9_2) = 0 then ((some (y207.set (x10_2 : Int).toNat (wrap64 (Int.tdiv (rd y207 x10_2) x9_2)) : List Int)).bind fun y210 => ((spec_l5Two.f k2 y210).bind fun bt211 => (spec_l5Normal.l1 k2 y210 x5_2 bt211.1 bt211.2))) else ((some (y207.set (x10_2 : Int).toNat (wrap64 ((rd y207 x10_2) * x9_2)) : List Int)).bind fun y214 => (if x10_2 < (x5_2.length : Int) then ((spec_l5Two.f k2 y214).bind fun bt217 => (spec_l5Normal.l1 k2 y214 (x5_2.set (x10_2 : Int).toNat (wrap64 ((rd x5_2 x10_2) * x9_2))) bt217.1 bt217.2)) else (none)))) else (none)) else (none))) else (none)) else (none)))) else (none)) else (none)) = some (r1, r2) := by first | (rw [hji30] at H; exact H) | (simp only [hji30] at H ⊢; exact H)
         by_cases c31 : 0 ≤ (ji30)
         · rw [if_pos c31] at H
           have c31b0 : decide (0 ≤ (ji30)) = true := decide_eq_true c31
           clear c31
           by_cases c32 : (ji30) < (x4_2.length : Int)
           · rw [if_pos c32] at H
             have c32b0 : decide ((ji30) < (x4_2.length : Int)) = true := decide_eq_true c32
             clear c32
             by_cases c33 : x9_2 = 0
             · rw [if_pos c33] at H
               exact absurd H (by simp)
             · rw [if_neg c33] at H
               have c33b0 : (x9_2 == 0) = false := beq_eq_false_iff_ne.mpr c33
               have c33b1 : (x9_2 != 0) = true := bne_iff_ne.mpr c33
               obtain ⟨y205, hy205⟩ : ∃ y_ : List Int, y_ = (x4_2.set ((ji30) : Int).toNat (wrap64 (Int.tdiv (rd x4_2 (ji30)) x9_2))) := ⟨_, rfl⟩
               replace H : (if 0 ≤ (Int.tmod (wrap64 (x10_2 + 2)) 3) then (if (Int.tmod (wrap64 (x10_2 + 2)) 3) < (x4_2.length : Int) then ((some (y205.set ((Int.tmod (wrap64 (x10_2 + 2)) 3) : Int).toNat (wrap64 (Int.tdiv (rd y205 (Int.tmod (wrap64 (x10_2 + 2)) 3)) x9_2)) : List Int)).bind fun y207 => (if 0 ≤ x10_2 then (if x10_2 < (x4_2.length : Int) then (if (Int.tmod (rd y207 x10_2) x9_2) = 0 then ((some (y207.set (x10_2 : Int).toNat (wrap64 (Int.tdiv (rd y207 x10_2) x9_2)) : List Int)).bind fun y210 => ((spec_l5Two.f k2 y210).bind fun bt211 => (spec_l5Normal.l1 k2 y210 x5_2 bt211.1 bt211.2))) else ((some (y207.set (x10_2 : Int).toNat (wrap64 ((rd y207 x10_2) * x9_2)) : List Int)).bind fun y214 => (if x10_2 < (x5_2.length : Int) then ((spec_l5Two.f k2 y214).bind fun bt217 => (spec_l5Normal.l1 k2 y214 (x5_2.set (x10_2 : Int).toNat (wrap64 ((rd x5_2 x10_2) * x9_2))) bt217.1 bt217.2)) else (none)))) else (none)) else (none))) else (none)) else (none)) = some (r1, r2) := by first | (rw [hy205]; with_reducible exact H) | (have H2_ := (Option.bind_some _ _).symm.trans H; rw [hy205]; with_reducible exact H2_) | (have H2_ := (Option.bind_some _ _).symm.trans H; with_reducible exact H2_) | with_reducible exact H | (rw [hy205]; exact H) | exact H
               have Ny205 := Aside0.mk hy205
               clear hy205
               obtain ⟨ji35, hji35⟩ : ∃ j_ : Int, (Int.tmod (wrap64 (x10_2 + 2)) 3) = j_ := ⟨_, rfl⟩
               replace H : (if 0 ≤ (ji35) then (if (ji35) < (x4_2.length : Int) then ((some (y205.set ((ji35) : Int).toNat (wrap64 (Int.tdiv (rd y205 (ji35)) x9_2)) : List Int)).bind fun y207 => (if 0 ≤ x10_2 then (if x10_2 < (x4_2.length : Int) then (if (Int.tmod (rd y207 x10_2) x9_2) = 0 then ((some (y207.set (x10_2 : Int).toNat (wrap64 (Int.tdiv (rd y207 x10_2) x9_2)) : List Int)).bind fun y210 => ((spec_l5Two.f k2 y210).bind fun bt211 => (spec_l5Normal.l1 k2 y210 x5_2 bt211.1 bt211.2))) else ((some (y207.set (x10_2 : Int).toNat (wrap64 ((rd y207 x10_2) * x9_2)) : List Int)).bind fun y214 => (if x10_2 < (x5_2.length : Int) then ((spec_l5Two.f k2 y214).bind fun bt217 => (spec_l5Normal.l1 k2 y214 (x5_2.set (x10_2 : Int).toNat (wrap64 ((rd x5_2 x10_2) * x9_2))) bt217.1 bt217.2)) else (none)))) else (none)) else (none))) else (none)) else (none)) = some (r1, r2) := by first | (rw [hji35] at H; exact H) | (simp only [hji35] at H ⊢; exact H)
               by_cases c36 : 0 ≤ (ji35)
               · rw [if_pos c36] at H
                 have c36b0 : decide (0 ≤ (ji35)) = true := decide_eq_true c36
                 clear c36
                 by_cases c37 : (ji35) < (x4_2.length : Int)
                 · rw [if_pos c37] at H
                   have c37b0 : decide ((ji35) < (x4_2.length : Int)) = true := decide_eq_true c37
                   clear c37
                   obtain ⟨y207, hy207⟩ : ∃ y_ : List Int, y_ = (y205.set ((ji35) : Int).toNat (wrap64 (Int.tdiv (rd y205 (ji35)) x9_2))) := ⟨_, rfl⟩
                   replace H : (if 0 ≤ x10_2 then (if x10_2 < (x4_2.length : Int) then (if (Int.tmod (rd y207 x10_2) x9_2) = 0 then ((some (y207.set (x10_2 : Int).toNat (wrap64 (Int.tdiv (rd y207 x10_2) x9_2)) : List Int)).bind fun y210 => ((spec_l5Two.f k2 y210).bind fun bt211 => (spec_l5Normal.l1 k2 y210 x5_2 bt211.1 bt211.2))) else ((some (y207.set (x10_2 : Int).toNat (wrap64 ((rd y207 x10_2) * x9_2)) : List Int)).bind fun y214 => (if x10_2 < (x5_2.length : Int) then ((spec_l5Two.f k2 y214).bind fun bt217 => (spec_l5Normal.l1 k2 y214 (x5_2.set (x10_2 : Int).toNat (wrap64 ((rd x5_2 x10_2) * x9_2))) bt217.1 bt217.2)) else (none)))) else (none)) else (none)) = some (r1, r2) := by first | (rw [hy207]; with_reducible exact H) | (have H2_ := (Option.bind_some _ _).symm.trans H; rw [hy207]; with_reducible exact H2_) | (have H2_ := (Option.bind_some _ _).symm.trans H; with_reducible exact H2_) | with_reducible exact H | (rw [hy207]; exact H) | exact H
                   have Ny207 := Aside0.mk hy207
                   clear hy207
                   by_cases c39 : 0 ≤ x10_2
                   · rw [if_pos c39] at H
                     have c39b0 : decide (0 ≤ x10_2) = true := decide_eq_true c39
                     clear c39
                     by_cases c40 : x10_2 < (x4_2.length : Int)
                     · rw [if_pos c40] at H
                       have c40b0 : decide (x10_2 < (x4_2.length : Int)) = true := decide_eq_true c40
                       clear c40
                       by_cases c41 : (Int.tmod (rd y207 x10_2) x9_2) = 0
                       · rw [if_pos c41] at H
                         have c41b0 : ((Int.tmod (rd y207 x10_2) x9_2) == 0) = true := beq_iff_eq.mpr c41
                         have c41b1 : ((Int.tmod (rd y207 x10_2) x9_2) != 0) = false := bne_eq_false_iff_eq.mpr c41
                         clear c41
                         obtain ⟨y210, hy210⟩ : ∃ y_ : List Int, y_ = (y207.set (x10_2 : Int).toNat (wrap64 (Int.tdiv (rd y207 x10_2) x9_2))) := ⟨_, rfl⟩
                         replace H : ((spec_l5Two.f k2 y210).bind fun bt211 => (spec_l5Normal.l1 k2 y210 x5_2 bt211.1 bt211.2)) = some (r1, r2) := by first | (rw [hy210]; with_reducible exact H) | (have H2_ := (Option.bind_some _ _).symm.trans H; rw [hy210]; with_reducible exact H2_) | (have H2_ := (Option.bind_some _ _).symm.trans H; with_reducible exact H2_) | with_reducible exact H | (rw [hy210]; exact H) | exact H
                         have Ny210 := Aside0.mk hy210
                         clear hy210
                         replace H := Option.bind_eq_some_iff.mp H
                         obtain ⟨⟨t211, t212⟩, A430, H⟩ := H
                         replace H : (spec_l5Normal.l1 k2 y210 x5_2 t211 t212) = some (r1, r2) := H
                         have A43 := Aside0.mk A430
                         clear A430
                         have H' := Aside0.mk H
                         clear H
                         have p204 : 0 ≤ ((ji30) : Int) := of_decide_eq_true z21_
                         have q204 : (ji30) < (x4_2.length : Int) := of_decide_eq_true z21_
                         obtain ⟨ad204, e204, hx204_0⟩ := Kd.at_int (Kd.R_reads' HO_4.out).2.2 (ji30) p204 q204
                         cases e204
                         replace p204 := eq_true p204
                         replace q204 := eq_true q204
                         have p34 : 0 ≤ ((ji30) : Int) := of_decide_eq_true z21_
                         have q34 : ((ji30) : Int) < ((x4_2.length : Int) : Int) := of_decide_eq_true z21_
                         obtain ⟨go34, co34, eo34, gb34, gl34, cl34, HG34⟩ := Kd.R_form HO_4.out (by omega)
                         (first | cases eo34 | (injection eo34 with ea_ en_ ec_; (first | subst ea_ | (injection ea_ with ea_; subst ea_)); subst ec_; clear en_))
                         have GB34 := Aside0.mk gb34
                         have GG34 := Aside0.mk HG34
                         clear gb34 gl34 HG34
                         (first | simp only [add_plain] at hx204_0 | skip)
                         obtain ⟨hx34_0, hf34_0⟩ := Kd.R_celln 0 HO_4.out ((ji30) : Int) p34 q34
                         replace p34 := eq_true p34
                         replace q34 := eq_true q34
                         have HP44 := Kd.R_putg HO_4.out ((ji30) : Int) (wrap64 (Int.tdiv (rd x4_2 (ji30)) x9_2))
                         go_wp2_with (first | ((with_reducible refine gate_store (t := 3) (p := 74) rfl ?_); refine store_event (t := 3) (p := 74) (v := ?vo_w45) (w1 := (wr.setCell ⟨go34, ((ji30) : Int).toNat, none⟩ (.int .i64 (wrap64 (Int.tdiv (rd x4_2 (ji30)) x9_2))))) ?hg ?ho ?hn ?hr ?_; (case ho => rfl); (case hg => rfl); (case hn => rfl); (case hr => first | (go_simp; done) | (go_simp; rfl)); intro w45 hw; have hg : wr.grownBy w45 (some go34) := (by rw [hw]; exact HP44.2); have hp_ : Kd.R (Kd.int .i64) 3 w45 w.heap.size (fun k_ => some k_ ≠ (v190 : Value).ownBlock) (.slice (some ⟨go34, 0, none⟩) x4_2.length co27) y205 := (by rw [hw, Ny205.out]; exact HP44.1); clear HP44; have n0_ := Aside0.mk (hp_); have n1_ := Aside0.mk (Kd.R_after (v := (.slice (some ⟨go34, 0, none⟩) x4_2.length co27)) (v1 := (.slice (some ⟨go34, 0, none⟩) x4_2.length co27)) (ok := (fun _ => True)) (by (with_reducible repeat (first | apply Kd.R_alloc | apply Kd.R_drewN | apply Kd.R_drew)); exact Kd.R_mono HO_5.out (fun _ hk => ⟨trivial, hk⟩)) hg (.inl rfl)); have n2_ := Aside0.mk ((by rw [hw]; exact below_set (HB.out) GB34.out : Below w.heap.size w w45)); clear HO_4; clear HO_5; clear HB; have HO_4 := n0_; have HO_5 := n1_; have HB := n2_; clear n0_ n1_ n2_; clear hg hw hp_; have p206 : 0 ≤ ((ji35) : Int) := of_decide_eq_true z21_; have q206 : (ji35) < (y205.length : Int) := (by have h_ : ((ji35) : Int) < ((x4_2.length : Int) : Int) := of_decide_eq_true z21_; first | (have e_ := (Kd.R_reads' HO_4.out).1; omega) | simpa only [Ny205.out, List.length_set] using h_); have ql206 : (((ji35) : Int) < ((x4_2.length : Int) : Int)) = True := eq_true (of_decide_eq_true z21_); obtain ⟨ad206, e206, hx206_0⟩ := Kd.at_int (Kd.R_reads' HO_4.out).2.2 (ji35) p206 q206; obtain rfl : (⟨go34, 0, none⟩ : Addr) = ad206 := (by injection e206); (first | simp only [add_plain] at hx206_0 | simp only [add_at] at hx206_0 | simp only [Addr.add, Nat.zero_add] at hx206_0 | skip); replace p206 := eq_true p206; replace q206 := eq_true q206; have p38 : 0 ≤ ((ji35) : Int) := of_decide_eq_true z21_; have q38 : ((ji35) : Int) < ((x4_2.length : Int) : Int) := of_decide_eq_true z21_; obtain ⟨hx38_0, hf38_0⟩ := Kd.R_celln 0 HO_4.out ((ji35) : Int) p38 q38; replace p38 := eq_true p38; replace q38 := eq_true q38; obtain ⟨hy46_, hz46_⟩ := Kd.R_celln 0 HO_4.out ((ji35) : Int) (of_decide_eq_true z21_) (of_decide_eq_true z21_); have HP46 := Kd.R_putg HO_4.out ((ji35) : Int) (wrap64 (Int.tdiv (rd y205 (ji35)) x9_2))) | ((with_reducible refine gate_store (t := 3) (p := 87) rfl ?_); refine store_event (t := 3) (p := 87) (v := ?vo_w47) (w1 := (w45.setCell ⟨go34, ((ji35) : Int).toNat, none⟩ (.int .i64 (wrap64 (Int.tdiv (rd y205 (ji35)) x9_2))))) ?hg ?ho ?hn ?hr ?_; (case ho => rfl); (case hg => rfl); (case hn => rfl); (case hr => first | (go_simp; done) | (go_simp; rfl)); intro w47 hw; have hg : w45.grownBy w47 (some go34) := (by rw [hw]; exact HP46.2); have hp_ : Kd.R (Kd.int .i64) 3 w47 w.heap.size (fun k_ => some k_ ≠ (v190 : Value).ownBlock) (.slice (some ⟨go34, 0, none⟩) x4_2.length co27) y207 := (by rw [hw, Ny207.out]; exact HP46.1); clear HP46; have n0_ := Aside0.mk (hp_); have n1_ := Aside0.mk (Kd.R_after (v := (.slice (some ⟨go34, 0, none⟩) x4_2.length co27)) (v1 := (.slice (some ⟨go34, 0, none⟩) x4_2.length co27)) (ok := (fun _ => True)) z18_ hg (.inl rfl)); have n2_ := Aside0.mk ((by rw [hw]; exact below_set (HB.out) GB34.out : Below w.heap.size w w47)); clear HO_4; clear HO_5; clear HB; have HO_4 := n0_; have HO_5 := n1_; have HB := n2_; clear n0_ n1_ n2_; clear hg hw hp_; have p208 : 0 ≤ (x10_2 : Int) := of_decide_eq_true z21_; have q208 : x10_2 < (y207.length : Int) := (by have h_ : (x10_2 : Int) < ((x4_2.length : Int) : Int) := of_decide_eq_true z21_; first | (have e_ := (Kd.R_reads' HO_4.out).1; omega) | simpa only [Ny205.out, Ny207.out, List.length_set] using h_); have ql208 : ((x10_2 : Int) < ((x4_2.length : Int) : Int)) = True := eq_true (of_decide_eq_true z21_); obtain ⟨ad208, e208, hx208_0⟩ := Kd.at_int (Kd.R_reads' HO_4.out).2.2 x10_2 p208 q208; obtain rfl : (⟨go34, 0, none⟩ : Addr) = ad208 := (by injection e208); (first | simp only [add_plain] at hx208_0 | simp only [add_at] at hx208_0 | simp only [Addr.add, Nat.zero_add] at hx208_0 | skip); replace p208 := eq_true p208; replace q208 := eq_true q208; have p209 : 0 ≤ (x10_2 : Int) := of_decide_eq_true z21_; have q209 : x10_2 < (y207.length : Int) := (by have h_ : (x10_2 : Int) < ((x4_2.length : Int) : Int) := of_decide_eq_true z21_; first | (have e_ := (Kd.R_reads' HO_4.out).1; omega) | simpa only [Ny205.out, Ny207.out, List.length_set] using h_); have ql209 : ((x10_2 : Int) < ((x4_2.length : Int) : Int)) = True := eq_true (of_decide_eq_true z21_); obtain ⟨ad209, e209, hx209_0⟩ := Kd.at_int (Kd.R_reads' HO_4.out).2.2 x10_2 p209 q209; obtain rfl : (⟨go34, 0, none⟩ : Addr) = ad209 := (by injection e209); (first | simp only [add_plain] at hx209_0 | simp only [add_at] at hx209_0 | simp only [Addr.add, Nat.zero_add] at hx209_0 | skip); replace p209 := eq_true p209; replace q209 := eq_true q209; have p42 : 0 ≤ (x10_2 : Int) := of_decide_eq_true z21_; have q42 : (x10_2 : Int) < ((x4_2.length : Int) : Int) := of_decide_eq_true z21_; obtain ⟨hx42_0, hf42_0⟩ := Kd.R_celln 0 HO_4.out (x10_2 : Int) p42 q42; replace p42 := eq_true p42; replace q42 := eq_true q42; obtain ⟨hy48_, hz48_⟩ := Kd.R_celln 0 HO_4.out (x10_2 : Int) (of_decide_eq_true z21_) (of_decide_eq_true z21_); have HP48 := Kd.R_putg HO_4.out (x10_2 : Int) (wrap64 (Int.tdiv (rd y207 x10_2) x9_2))) | ((with_reducible refine gate_store (t := 3) (p := 103) rfl ?_); refine store_event (t := 3) (p := 103) (v := ?vo_w49) (w1 := (w47.setCell ⟨go34, (x10_2 : Int).toNat, none⟩ (.int .i64 (wrap64 (Int.tdiv (rd y207 x10_2) x9_2))))) ?hg ?ho ?hn ?hr ?_; (case ho => rfl); (case hg => rfl); (case hn => rfl); (case hr => first | (go_simp; done) | (go_simp; rfl)); intro w49 hw; have hg : w47.grownBy w49 (some go34) := (by rw [hw]; exact HP48.2); have hp_ : Kd.R (Kd.int .i64) 3 w49 w.heap.size (fun k_ => some k_ ≠ (v190 : Value).ownBlock) (.slice (some ⟨go34, 0, none⟩) x4_2.length co27) y210 := (by rw [hw, Ny210.out]; exact HP48.1); clear HP48; have n0_ := Aside0.mk (hp_); have n1_ := Aside0.mk (Kd.R_after (v := (.slice (some ⟨go34, 0, none⟩) x4_2.length co27)) (v1 := (.slice (some ⟨go34, 0, none⟩) x4_2.length co27)) (ok := (fun _ => True)) z18_ hg (.inl rfl)); have n2_ := Aside0.mk ((by rw [hw]; exact below_set (HB.out) GB34.out : Below w.heap.size w w49)); clear HO_4; clear HO_5; clear HB; have HO_4 := n0_; have HO_5 := n1_; have HB := n2_; clear n0_ n1_ n2_; clear hg hw hp_) | ((with_reducible refine gate_callee (f := 117) rfl ?_); refine goesL_ (some 124) rfl rfl Try.func117 (by kernel_rfl) rfl #[.slice (some ⟨go34, 0, none⟩) y210.length co27] rfl (by (try simp only [List.map_toArray, List.map_cons, List.map_nil]); first | done | (rw [show y210.length = x4_2.length from (Kd.R_reads' HO_4.out).1.symm] <;> rfl) | rfl | (simp only [List.length_drop, List.length_take]; rfl)) ?_; (with_reducible refine (spec_l5Two.calls k2 _ _ y210 t211 t212 _ ?side1 ?side2 A43.out).mono ?_); (case side1 => repeat (first | exact (Kd.R_reads' HO_4.out).2.2 | (with_reducible refine Kd.C_alloc ?_ _) | (with_reducible refine Kd.C_drewN ?_ _) | (with_reducible refine Kd.C_drew ?_))); (case side2 => rw [show y210.length = x4_2.length from (Kd.R_reads' HO_4.out).1.symm]; exact (Kd.R_reads' HO_4.out).2.1); rintro e w50 ⟨rfl, hb⟩; refine ⟨_, rfl, ?_⟩; have n0_ := Aside0.mk (Kd.R_below z17_ hb); have n1_ := Aside0.mk (Kd.R_below z18_ hb); have n2_ := Aside0.mk (below_step z10_ hb); clear HO_4; clear HO_5; clear HB; have HO_4 := n0_; have HO_5 := n1_; have HB := n2_; clear n0_ n1_ n2_; (try clear hb); (try clear hb2); (try clear hk); (try clear hi)))
                         (try simp only [← hl4_2])
                         go_roundg k2
                         case measure => have := HK1.out; have := HK2.out; omega
                         case rel => exact ⟨(y210), (x5_2), (t211), (t212), z22_, z22_, H', ⟨by have := HK1.out; have := HK2.out; omega⟩, ⟨by (try simp only [hl4_2]); (with_reducible repeat (first | apply Kd.R_alloc | apply Kd.R_drewN | apply Kd.R_drew)); exact HO_4.out⟩, ⟨by (try simp only [hl4_2]); (with_reducible repeat (first | apply Kd.R_alloc | apply Kd.R_drewN | apply Kd.R_drew)); exact Kd.R_mono HO_5.out (fun _ hk => hk.2)⟩, ⟨z10_⟩⟩
                       · rw [if_neg c41] at H
                         have c41b0 : ((Int.tmod (rd y207 x10_2) x9_2) == 0) = false := beq_eq_false_iff_ne.mpr c41
                         have c41b1 : ((Int.tmod (rd y207 x10_2) x9_2) != 0) = true := bne_iff_ne.mpr c41
                         obtain ⟨y214, hy214⟩ : ∃ y_ : List Int, y_ = (y207.set (x10_2 : Int).toNat (wrap64 ((rd y207 x10_2) * x9_2))) := ⟨_, rfl⟩
                         replace H : (if x10_2 < (x5_2.length : Int) then ((spec_l5Two.f k2 y214).bind fun bt217 => (spec_l5Normal.l1 k2 y214 (x5_2.set (x10_2 : Int).toNat (wrap64 ((rd x5_2 x10_2) * x9_2))) bt217.1 bt217.2)) else (none)) = some (r1, r2) := by first | (rw [hy214]; with_reducible exact H) | (have H2_ := (Option.bind_some _ _).symm.trans H; rw [hy214]; with_reducible exact H2_) | (have H2_ := (Option.bind_some _ _).symm.trans H; with_reducible exact H2_) | with_reducible exact H | (rw [hy214]; exact H) | exact H
                         have Ny214 := Aside0.mk hy214
                         clear hy214
                         by_cases c52 : x10_2 < (x5_2.length : Int)
                         · rw [if_pos c52] at H
                           have c52b0 : decide (x10_2 < (x5_2.length : Int)) = true := decide_eq_true c52
                           clear c52
                           obtain ⟨y216, hy216⟩ : ∃ y_ : List Int, y_ = (x5_2.set (x10_2 : Int).toNat (wrap64 ((rd x5_2 x10_2) * x9_2))) := ⟨_, rfl⟩
                           replace H : ((spec_l5Two.f k2 y214).bind fun bt217 => (spec_l5Normal.l1 k2 y214 y216 bt217.1 bt217.2)) = some (r1, r2) := by first | (rw [hy216]; with_reducible exact H) | (have H2_ := (Option.bind_some _ _).symm.trans H; rw [hy216]; with_reducible exact H2_) | (have H2_ := (Option.bind_some _ _).symm.trans H; with_reducible exact H2_) | with_reducible exact H | (rw [hy216]; exact H) | exact H
                           have Ny216 := Aside0.mk hy216
                           clear hy216
                           replace H := Option.bind_eq_some_iff.mp H
                           obtain ⟨⟨t217, t218⟩, A540, H⟩ := H
                           replace H : (spec_l5Normal.l1 k2 y214 y216 t217 t218) = some (r1, r2) := H
                           have A54 := Aside0.mk A540
                           clear A540
                           have H' := Aside0.mk H
                           clear H
                           have p204 : 0 ≤ ((ji30) : Int) := of_decide_eq_true z21_
                           have q204 : (ji30) < (x4_2.length : Int) := of_decide_eq_true z21_
                           obtain ⟨ad204, e204, hx204_0⟩ := Kd.at_int (Kd.R_reads' HO_4.out).2.2 (ji30) p204 q204
                           cases e204
                           replace p204 := eq_true p204
                           replace q204 := eq_true q204
                           have p34 : 0 ≤ ((ji30) : Int) := of_decide_eq_true z21_
                           have q34 : ((ji30) : Int) < ((x4_2.length : Int) : Int) := of_decide_eq_true z21_
                           obtain ⟨go34, co34, eo34, gb34, gl34, cl34, HG34⟩ := Kd.R_form HO_4.out (by omega)
                           (first | cases eo34 | (injection eo34 with ea_ en_ ec_; (first | subst ea_ | (injection ea_ with ea_; subst ea_)); subst ec_; clear en_))
                           have GB34 := Aside0.mk gb34
                           have GG34 := Aside0.mk HG34
                           clear gb34 gl34 HG34
                           (first | simp only [add_plain] at hx204_0 | skip)
                           obtain ⟨hx34_0, hf34_0⟩ := Kd.R_celln 0 HO_4.out ((ji30) : Int) p34 q34
                           replace p34 := eq_true p34
                           replace q34 := eq_true q34
                           have HP55 := Kd.R_putg HO_4.out ((ji30) : Int) (wrap64 (Int.tdiv (rd x4_2 (ji30)) x9_2))
                           go_wp2_with (first | ((with_reducible refine gate_store (t := 3) (p := 74) rfl ?_); refine store_event (t := 3) (p := 74) (v := ?vo_w56) (w1 := (wr.setCell ⟨go34, ((ji30) : Int).toNat, none⟩ (.int .i64 (wrap64 (Int.tdiv (rd x4_2 (ji30)) x9_2))))) ?hg ?ho ?hn ?hr ?_; (case ho => rfl); (case hg => rfl); (case hn => rfl); (case hr => first | (go_simp; done) | (go_simp; rfl)); intro w56 hw; have hg : wr.grownBy w56 (some go34) := (by rw [hw]; exact HP55.2); have hp_ : Kd.R (Kd.int .i64) 3 w56 w.heap.size (fun k_ => some k_ ≠ (v190 : Value).ownBlock) (.slice (some ⟨go34, 0, none⟩) x4_2.length co27) y205 := (by rw [hw, Ny205.out]; exact HP55.1); clear HP55; have n0_ := Aside0.mk (hp_); have n1_ := Aside0.mk (Kd.R_after (v := (.slice (some ⟨go34, 0, none⟩) x4_2.length co27)) (v1 := (.slice (some ⟨go34, 0, none⟩) x4_2.length co27)) (ok := (fun _ => True)) (by (with_reducible repeat (first | apply Kd.R_alloc | apply Kd.R_drewN | apply Kd.R_drew)); exact Kd.R_mono HO_5.out (fun _ hk => ⟨trivial, hk⟩)) hg (.inl rfl)); have n2_ := Aside0.mk ((by rw [hw]; exact below_set (HB.out) GB34.out : Below w.heap.size w w56)); clear HO_4; clear HO_5; clear HB; have HO_4 := n0_; have HO_5 := n1_; have HB := n2_; clear n0_ n1_ n2_; clear hg hw hp_; have p206 : 0 ≤ ((ji35) : Int) := of_decide_eq_true z21_; have q206 : (ji35) < (y205.length : Int) := (by have h_ : ((ji35) : Int) < ((x4_2.length : Int) : Int) := of_decide_eq_true z21_; first | (have e_ := (Kd.R_reads' HO_4.out).1; omega) | simpa only [Ny205.out, List.length_set] using h_); have ql206 : (((ji35) : Int) < ((x4_2.length : Int) : Int)) = True := eq_true (of_decide_eq_true z21_); obtain ⟨ad206, e206, hx206_0⟩ := Kd.at_int (Kd.R_reads' HO_4.out).2.2 (ji35) p206 q206; obtain rfl : (⟨go34, 0, none⟩ : Addr) = ad206 := (by injection e206); (first | simp only [add_plain] at hx206_0 | simp only [add_at] at hx206_0 | simp only [Addr.add, Nat.zero_add] at hx206_0 | skip); replace p206 := eq_true p206; replace q206 := eq_true q206; have p38 : 0 ≤ ((ji35) : Int) := of_decide_eq_true z21_; have q38 : ((ji35) : Int) < ((x4_2.length : Int) : Int) := of_decide_eq_true z21_; obtain ⟨hx38_0, hf38_0⟩ := Kd.R_celln 0 HO_4.out ((ji35) : Int) p38 q38; replace p38 := eq_true p38; replace q38 := eq_true q38; obtain ⟨hy57_, hz57_⟩ := Kd.R_celln 0 HO_4.out ((ji35) : Int) (of_decide_eq_true z21_) (of_decide_eq_true z21_); have HP57 := Kd.R_putg HO_4.out ((ji35) : Int) (wrap64 (Int.tdiv (rd y205 (ji35)) x9_2))) | ((with_reducible refine gate_store (t := 3) (p := 87) rfl ?_); refine store_event (t := 3) (p := 87) (v := ?vo_w58) (w1 := (w56.setCell ⟨go34, ((ji35) : Int).toNat, none⟩ (.int .i64 (wrap64 (Int.tdiv (rd y205 (ji35)) x9_2))))) ?hg ?ho ?hn ?hr ?_; (case ho => rfl); (case hg => rfl); (case hn => rfl); (case hr => first | (go_simp; done) | (go_simp; rfl)); intro w58 hw; have hg : w56.grownBy w58 (some go34) := (by rw [hw]; exact HP57.2); have hp_ : Kd.R (Kd.int .i64) 3 w58 w.heap.size (fun k_ => some k_ ≠ (v190 : Value).ownBlock) (.slice (some ⟨go34, 0, none⟩) x4_2.length co27) y207 := (by rw [hw, Ny207.out]; exact HP57.1); clear HP57; have n0_ := Aside0.mk (hp_); have n1_ := Aside0.mk (Kd.R_after (v := (.slice (some ⟨go34, 0, none⟩) x4_2.length co27)) (v1 := (.slice (some ⟨go34, 0, none⟩) x4_2.length co27)) (ok := (fun _ => True)) z18_ hg (.inl rfl)); have n2_ := Aside0.mk ((by rw [hw]; exact below_set (HB.out) GB34.out : Below w.heap.size w w58)); clear HO_4; clear HO_5; clear HB; have HO_4 := n0_; have HO_5 := n1_; have HB := n2_; clear n0_ n1_ n2_; clear hg hw hp_; have p208 : 0 ≤ (x10_2 : Int) := of_decide_eq_true z21_; have q208 : x10_2 < (y207.length : Int) := (by have h_ : (x10_2 : Int) < ((x4_2.length : Int) : Int) := of_decide_eq_true z21_; first | (have e_ := (Kd.R_reads' HO_4.out).1; omega) | simpa only [Ny205.out, Ny207.out, List.length_set] using h_); have ql208 : ((x10_2 : Int) < ((x4_2.length : Int) : Int)) = True := eq_true (of_decide_eq_true z21_); obtain ⟨ad208, e208, hx208_0⟩ := Kd.at_int (Kd.R_reads' HO_4.out).2.2 x10_2 p208 q208; obtain rfl : (⟨go34, 0, none⟩ : Addr) = ad208 := (by injection e208); (first | simp only [add_plain] at hx208_0 | simp only [add_at] at hx208_0 | simp only [Addr.add, Nat.zero_add] at hx208_0 | skip); replace p208 := eq_true p208; replace q208 := eq_true q208; have p213 : 0 ≤ (x10_2 : Int) := of_decide_eq_true z21_; have q213 : x10_2 < (y207.length : Int) := (by have h_ : (x10_2 : Int) < ((x4_2.length : Int) : Int) := of_decide_eq_true z21_; first | (have e_ := (Kd.R_reads' HO_4.out).1; omega) | simpa only [Ny205.out, Ny207.out, List.length_set] using h_); have ql213 : ((x10_2 : Int) < ((x4_2.length : Int) : Int)) = True := eq_true (of_decide_eq_true z21_); obtain ⟨ad213, e213, hx213_0⟩ := Kd.at_int (Kd.R_reads' HO_4.out).2.2 x10_2 p213 q213; obtain rfl : (⟨go34, 0, none⟩ : Addr) = ad213 := (by injection e213); (first | simp only [add_plain] at hx213_0 | simp only [add_at] at hx213_0 | simp only [Addr.add, Nat.zero_add] at hx213_0 | skip); replace p213 := eq_true p213; replace q213 := eq_true q213; have p51 : 0 ≤ (x10_2 : Int) := of_decide_eq_true z21_; have q51 : (x10_2 : Int) < ((x4_2.length : Int) : Int) := of_decide_eq_true z21_; obtain ⟨hx51_0, hf51_0⟩ := Kd.R_celln 0 HO_4.out (x10_2 : Int) p51 q51; replace p51 := eq_true p51; replace q51 := eq_true q51; obtain ⟨hy59_, hz59_⟩ := Kd.R_celln 0 HO_4.out (x10_2 : Int) (of_decide_eq_true z21_) (of_decide_eq_true z21_); have HP59 := Kd.R_putg HO_4.out (x10_2 : Int) (wrap64 ((rd y207 x10_2) * x9_2))) | ((with_reducible refine gate_store (t := 3) (p := 112) rfl ?_); refine store_event (t := 3) (p := 112) (v := ?vo_w60) (w1 := (w58.setCell ⟨go34, (x10_2 : Int).toNat, none⟩ (.int .i64 (wrap64 ((rd y207 x10_2) * x9_2))))) ?hg ?ho ?hn ?hr ?_; (case ho => rfl); (case hg => rfl); (case hn => rfl); (case hr => first | (go_simp; done) | (go_simp; rfl)); intro w60 hw; have hg : w58.grownBy w60 (some go34) := (by rw [hw]; exact HP59.2); have hp_ : Kd.R (Kd.int .i64) 3 w60 w.heap.size (fun k_ => some k_ ≠ (v190 : Value).ownBlock) (.slice (some ⟨go34, 0, none⟩) x4_2.length co27) y214 := (by rw [hw, Ny214.out]; exact HP59.1); clear HP59; have n0_ := Aside0.mk (hp_); have n1_ := Aside0.mk (Kd.R_after (v := (.slice (some ⟨go34, 0, none⟩) x4_2.length co27)) (v1 := (.slice (some ⟨go34, 0, none⟩) x4_2.length co27)) (ok := (fun _ => True)) z18_ hg (.inl rfl)); have n2_ := Aside0.mk ((by rw [hw]; exact below_set (HB.out) GB34.out : Below w.heap.size w w60)); clear HO_4; clear HO_5; clear HB; have HO_4 := n0_; have HO_5 := n1_; have HB := n2_; clear n0_ n1_ n2_; clear hg hw hp_; obtain ⟨Ao61, co61, eo61⟩ := Kd.R_slice HO_5.out; subst eo61; have p215 : 0 ≤ (x10_2 : Int) := of_decide_eq_true z21_; have q215 : x10_2 < (x5_2.length : Int) := of_decide_eq_true z21_; obtain ⟨ad215, e215, hx215_0⟩ := Kd.at_int (Kd.R_reads' HO_5.out).2.2 x10_2 p215 q215; cases e215; replace p215 := eq_true p215; replace q215 := eq_true q215; have p53 : 0 ≤ (x10_2 : Int) := of_decide_eq_true z21_; have q53 : (x10_2 : Int) < ((x5_2.length : Int) : Int) := of_decide_eq_true z21_; obtain ⟨go53, co53, eo53, gb53, gl53, cl53, HG53⟩ := Kd.R_form HO_5.out (by omega); (first | cases eo53 | (injection eo53 with ea_ en_ ec_; (first | subst ea_ | (injection ea_ with ea_; subst ea_)); subst ec_; clear en_)); have GB53 := Aside0.mk gb53; have GG53 := Aside0.mk HG53; clear gb53 gl53 HG53; (first | simp only [add_plain] at hx215_0 | skip); obtain ⟨hx53_0, hf53_0⟩ := Kd.R_celln 0 HO_5.out (x10_2 : Int) p53 q53; replace p53 := eq_true p53; replace q53 := eq_true q53; have n_ := Aside0.mk (Kd.R_mono (ok' := (fun k_ => some k_ ≠ (.slice (some ⟨go34, 0, none⟩) x4_2.length co27 : Value).ownBlock)) HO_5.out (fun k_ hk => hk.2)); clear HO_5; have HO_5 := n_; clear n_; obtain ⟨hy62_, hz62_⟩ := Kd.R_celln 0 HO_5.out (x10_2 : Int) (of_decide_eq_true z21_) (of_decide_eq_true z21_); have HP62 := Kd.R_putg HO_5.out (x10_2 : Int) (wrap64 ((rd x5_2 x10_2) * x9_2))) | ((with_reducible refine gate_store (t := 3) (p := 121) rfl ?_); refine store_event (t := 3) (p := 121) (v := ?vo_w63) (w1 := (w60.setCell ⟨go53, (x10_2 : Int).toNat, none⟩ (.int .i64 (wrap64 ((rd x5_2 x10_2) * x9_2))))) ?hg ?ho ?hn ?hr ?_; (case ho => rfl); (case hg => rfl); (case hn => rfl); (case hr => first | (go_simp; done) | (go_simp; rfl)); intro w63 hw; have hg : w60.grownBy w63 (some go53) := (by rw [hw]; exact HP62.2); have hp_ : Kd.R (Kd.int .i64) 3 w63 w.heap.size (fun k_ => some k_ ≠ (.slice (some ⟨go34, 0, none⟩) x4_2.length co27 : Value).ownBlock) (.slice (some ⟨go53, 0, none⟩) x5_2.length co61) y216 := (by rw [hw, Ny216.out]; exact HP62.1); clear HP62; have n0_ := Aside0.mk (Kd.R_after (v := (.slice (some ⟨go53, 0, none⟩) x5_2.length co61)) (v1 := (.slice (some ⟨go53, 0, none⟩) x5_2.length co61)) (ok := (fun _ => True)) (by (with_reducible repeat (first | apply Kd.R_alloc | apply Kd.R_drewN | apply Kd.R_drew)); exact Kd.R_mono HO_4.out (fun _ hk => ⟨trivial, hk⟩)) hg (.inl rfl)); have n1_ := Aside0.mk (hp_); have n2_ := Aside0.mk ((by rw [hw]; exact below_set (HB.out) GB53.out : Below w.heap.size w w63)); clear HO_4; clear HO_5; clear HB; have HO_4 := n0_; have HO_5 := n1_; have HB := n2_; clear n0_ n1_ n2_; clear hg hw hp_) | ((with_reducible refine gate_callee (f := 117) rfl ?_); refine goesL_ (some 124) rfl rfl Try.func117 (by kernel_rfl) rfl #[.slice (some ⟨go34, 0, none⟩) y214.length co27] rfl (by (try simp only [List.map_toArray, List.map_cons, List.map_nil]); first | done | (rw [show y214.length = x4_2.length from (Kd.R_reads' HO_4.out).1.symm] <;> rfl) | rfl | (simp only [List.length_drop, List.length_take]; rfl)) ?_; (with_reducible refine (spec_l5Two.calls k2 _ _ y214 t217 t218 _ ?side1 ?side2 A54.out).mono ?_); (case side1 => repeat (first | exact (Kd.R_reads' HO_4.out).2.2 | (with_reducible refine Kd.C_alloc ?_ _) | (with_reducible refine Kd.C_drewN ?_ _) | (with_reducible refine Kd.C_drew ?_))); (case side2 => rw [show y214.length = x4_2.length from (Kd.R_reads' HO_4.out).1.symm]; exact (Kd.R_reads' HO_4.out).2.1); rintro e w64 ⟨rfl, hb⟩; refine ⟨_, rfl, ?_⟩; have n0_ := Aside0.mk (Kd.R_below z17_ hb); have n1_ := Aside0.mk (Kd.R_below z18_ hb); have n2_ := Aside0.mk (below_step z10_ hb); clear HO_4; clear HO_5; clear HB; have HO_4 := n0_; have HO_5 := n1_; have HB := n2_; clear n0_ n1_ n2_; (try clear hb); (try clear hb2); (try clear hk); (try clear hi)))
                           (try simp only [← hl4_2])
                           go_roundg k2
                           case measure => have := HK1.out; have := HK2.out; omega
                           case rel => exact ⟨(y214), (y216), (t217), (t218), z22_, z22_, H', ⟨by have := HK1.out; have := HK2.out; omega⟩, ⟨by (try simp only [hl4_2]); (with_reducible repeat (first | apply Kd.R_alloc | apply Kd.R_drewN | apply Kd.R_drew)); exact Kd.R_mono HO_4.out (fun _ hk => hk.2)⟩, ⟨by (try simp only [hl4_2]); (with_reducible repeat (first | apply Kd.R_alloc | apply Kd.R_drewN | apply Kd.R_drew)); exact HO_5.out⟩, ⟨z10_⟩⟩
                         · rw [if_neg c52] at H
                           exact absurd H (by simp)
                     · rw [if_neg c40] at H
                       exact absurd H (by simp)
                   · rw [if_neg c39] at H
                     exact absurd H (by simp)
                 · rw [if_neg c37] at H
                   exact absurd H (by simp)
               · rw [if_neg c36] at H
                 exact absurd H (by simp)
           · rw [if_neg c32] at H
             exact absurd H (by simp)
         · rw [if_neg c31] at H
           exact absurd H (by simp)
       · rw [if_neg c29] at H
         have c29b0 : decide (1 < x9_2) = false := decide_eq_false c29
         clear c29
         simp only [Option.some.injEq, Prod.mk.injEq] at H
         obtain ⟨rfl, rfl⟩ := H
         go_wp2
         go_ret2
         exact ⟨_, _, z19_, z17_, z18_, z10_⟩

end Go.Proofs.Ytdeahlommlgceaa.PFnSearch

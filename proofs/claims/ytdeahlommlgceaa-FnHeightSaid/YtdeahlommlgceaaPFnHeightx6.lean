-- Written by a program of this repo (wip/gen/gen.py) over the kit's print.
-- (slim)
import Derived.Test.YtdeahlommlgceaaPFnHeightx0
import Derived.Test.YtdeahlommlgceaaPFnHeightx3
import Derived.Test.YtdeahlommlgceaaPFnHeightx4
import Derived.Test.YtdeahlommlgceaaPFnHeightx5
namespace Go.Proofs.Ytdeahlommlgceaa.PFnHeight
open Go.RowKit Go.Proofs.YtdeahlommlgceaaW.PrintWords Go.Proofs.YtdeahlommlgceaaW.PrintLast Go.Proofs.YtdeahlommlgceaaW.PrintMore
attribute [local go_sem] max2_int min2_int max_two min_two max_three min_three max_four min_four   -- for this text's walks alone
set_option linter.unusedVariables false
set_option maxHeartbeats 8000000
set_option maxRecDepth 100000
set_option linter.unusedSimpArgs false

/-! ### spec_l5Three: function 139 -/
def spec_l5Three.f (k : Nat) (l0 : List Int) : Option (List Int × Bool) := (spec_l5Normal.f k l0).bind fun bt238 => ((spec_l5Search.f k bt238.1).bind fun bt244 => (if bt244.2 = true then (if 0 < (bt238.2.length : Int) then (if 0 < (bt244.1.length : Int) then (if 1 < (bt238.2.length : Int) then (if 1 < (bt244.1.length : Int) then (if 2 < (bt238.2.length : Int) then (if 2 < (bt244.1.length : Int) then ((spec_l5Plain.f k (([wrap64 ((rd bt238.2 0) * (rd bt244.1 0)), wrap64 ((rd bt238.2 1) * (rd bt244.1 1)), wrap64 ((rd bt238.2 2) * (rd bt244.1 2))] : List Int))).bind fun t257 => (some (t257, true))) else (none)) else (none)) else (none)) else (none)) else (none)) else (none)) else (some ((([] : List Int)), false))))
theorem spec_l5Three.mono : ∀ a0 k, LeO (spec_l5Three.f k a0) (spec_l5Three.f (k + 1) a0) := by
 intro a0 k
 unfold spec_l5Three.f
 repeat' first
  | (with_reducible exact spec_l5Normal.mono _ _)
  | (with_reducible exact spec_l5Plain.mono _ _)
  | (with_reducible exact spec_l5Search.mono _ _)
  | (with_reducible exact LeO.refl _)
  | (with_reducible exact LeO.none _)
  | (with_reducible refine LeO.ite ?_ ?_)
  | (with_reducible refine LeO.bind ?_ (fun _ => ?_))
  | exact spec_l5Normal.mono _ _
  | exact spec_l5Plain.mono _ _
  | exact spec_l5Search.mono _ _
  | exact LeO.none _
  | refine LeO.ite ?_ ?_
  | refine LeO.bind ?_ (fun _ => ?_)
def spec_l5Three.T5 : Bool × List (List Nat × List Nat) := (true, [([], []), ([0], [0]), ([1], [1]), ([], []), ([3], [3]), ([4], [4]), ([2, 5], [2, 5]), ([], []), ([7], [7]), ([8], [8]), ([], []), ([10], [10]), ([11], [11]), ([9, 12], [9, 12]), ([], []), ([14], [14]), ([15], [15]), ([], []), ([17], [17]), ([18], [18]), ([16, 19], [16, 19]), ([6, 13, 20], [6, 13, 20]), ([21], [21]), ([22, 22, 0, 1, 2, 3, 4, 5, 6, 7, 8, 9, 10, 11, 12, 13, 14, 15, 16, 17, 18, 19, 20, 21, 22], [22]), ([23, 0, 1, 2, 3, 4, 5, 6, 7, 8, 9, 10, 11, 12, 13, 14, 15, 16, 17, 18, 19, 20, 21, 22, 23], [])])
def spec_l5Three.B5 : List Nat := [0, 1, 3, 0, 8, 24, 63, 0, 128, 384, 0, 1024, 3072, 8064, 0, 16384, 49152, 0, 131072, 393216, 1032192, 2097151, 4194303, 8388607, 16777215]
theorem spec_l5Three.tab5 : rtab .any (opsOf Try.f139 5) = spec_l5Three.T5 := by kernel_rfl
theorem spec_l5Three.bits5 : waitsOk spec_l5Three.T5.2 spec_l5Three.B5 = true := by kernel_rfl
theorem spec_l5Three.calls (k : Nat) (A0 : Option Addr) (c0 : Nat) (l0 : List Int) (r1 : List Int) (r2 : Bool) (w : World) (hr0 : Kd.C (Kd.int .i64) w A0 l0.length l0) (hc0 : l0.length ≤ c0) (h : spec_l5Three.f k l0 = some (r1, r2)) :
 Calls Try.prog 139 #[.slice A0 l0.length c0] w fun e w' => ∃ v0_ : Value, e = .returned (.tuple #[v0_, .bool r2]) ∧ Kd.R (Kd.int .i64) 3 w' w.heap.size (fun _ => True) v0_ r1 ∧ Below w.heap.size w w' := by
 have HR0 := Aside0.mk hr0
 have HC0 := Aside0.mk hc0
 clear hr0 hc0
 have HB := Aside0.mk (Below.refl w.heap.size w)
 have H : ((spec_l5Normal.f k l0).bind fun bt238 => ((spec_l5Search.f k bt238.1).bind fun bt244 => (if bt244.2 = true then (if 0 < (bt238.2.length : Int) then (if 0 < (bt244.1.length : Int) then (if 1 < (bt238.2.length : Int) then (if 1 < (bt244.1.length : Int) then (if 2 < (bt238.2.length : Int) then (if 2 < (bt244.1.length : Int) then ((spec_l5Plain.f k (([wrap64 ((rd bt238.2 0) * (rd bt244.1 0)), wrap64 ((rd bt238.2 1) * (rd bt244.1 1)), wrap64 ((rd bt238.2 2) * (rd bt244.1 2))] : List Int))).bind fun t257 => (some (t257, true))) else (none)) else (none)) else (none)) else (none)) else (none)) else (none)) else (some ((([] : List Int)), false))))) = some (r1, r2) := h
 clear h
 replace H := Option.bind_eq_some_iff.mp H
 obtain ⟨⟨t238, t239⟩, A20, H⟩ := H
 replace H : ((spec_l5Search.f k t238).bind fun bt244 => (if bt244.2 = true then (if 0 < (t239.length : Int) then (if 0 < (bt244.1.length : Int) then (if 1 < (t239.length : Int) then (if 1 < (bt244.1.length : Int) then (if 2 < (t239.length : Int) then (if 2 < (bt244.1.length : Int) then ((spec_l5Plain.f k (([wrap64 ((rd t239 0) * (rd bt244.1 0)), wrap64 ((rd t239 1) * (rd bt244.1 1)), wrap64 ((rd t239 2) * (rd bt244.1 2))] : List Int))).bind fun t257 => (some (t257, true))) else (none)) else (none)) else (none)) else (none)) else (none)) else (none)) else (some ((([] : List Int)), false)))) = some (r1, r2) := H
 have A2 := Aside0.mk A20
 clear A20
 replace H := Option.bind_eq_some_iff.mp H
 obtain ⟨⟨t244, t245⟩, A30, H⟩ := H
 replace H : (if t245 = true then (if 0 < (t239.length : Int) then (if 0 < (t244.length : Int) then (if 1 < (t239.length : Int) then (if 1 < (t244.length : Int) then (if 2 < (t239.length : Int) then (if 2 < (t244.length : Int) then ((spec_l5Plain.f k (([wrap64 ((rd t239 0) * (rd t244 0)), wrap64 ((rd t239 1) * (rd t244 1)), wrap64 ((rd t239 2) * (rd t244 2))] : List Int))).bind fun t257 => (some (t257, true))) else (none)) else (none)) else (none)) else (none)) else (none)) else (none)) else (some ((([] : List Int)), false))) = some (r1, r2) := H
 have A3 := Aside0.mk A30
 clear A30
 by_cases c4 : t245 = true
 · subst c4
   have H1 : (if 0 < (t239.length : Int) then (if 0 < (t244.length : Int) then (if 1 < (t239.length : Int) then (if 1 < (t244.length : Int) then (if 2 < (t239.length : Int) then (if 2 < (t244.length : Int) then ((spec_l5Plain.f k (([wrap64 ((rd t239 0) * (rd t244 0)), wrap64 ((rd t239 1) * (rd t244 1)), wrap64 ((rd t239 2) * (rd t244 2))] : List Int))).bind fun t257 => (some (t257, true))) else (none)) else (none)) else (none)) else (none)) else (none)) else (none)) = some (r1, r2) := by rw [if_pos rfl] at H; exact H
   clear H
   have H := H1
   clear H1
   by_cases c5 : 0 < (t239.length : Int)
   · rw [if_pos c5] at H
     have c5b0 : decide (0 < (t239.length : Int)) = true := decide_eq_true c5
     have c5b1 : decide (0 < t239.length) = true := decide_eq_true (by omega)
     clear c5
     by_cases c6 : 0 < (t244.length : Int)
     · rw [if_pos c6] at H
       have c6b0 : decide (0 < (t244.length : Int)) = true := decide_eq_true c6
       have c6b1 : decide (0 < t244.length) = true := decide_eq_true (by omega)
       clear c6
       by_cases c7 : 1 < (t239.length : Int)
       · rw [if_pos c7] at H
         have c7b0 : decide (1 < (t239.length : Int)) = true := decide_eq_true c7
         have c7b1 : decide (1 < t239.length) = true := decide_eq_true (by omega)
         clear c7
         by_cases c8 : 1 < (t244.length : Int)
         · rw [if_pos c8] at H
           have c8b0 : decide (1 < (t244.length : Int)) = true := decide_eq_true c8
           have c8b1 : decide (1 < t244.length) = true := decide_eq_true (by omega)
           clear c8
           by_cases c9 : 2 < (t239.length : Int)
           · rw [if_pos c9] at H
             have c9b0 : decide (2 < (t239.length : Int)) = true := decide_eq_true c9
             have c9b1 : decide (2 < t239.length) = true := decide_eq_true (by omega)
             clear c9
             by_cases c10 : 2 < (t244.length : Int)
             · rw [if_pos c10] at H
               have c10b0 : decide (2 < (t244.length : Int)) = true := decide_eq_true c10
               have c10b1 : decide (2 < t244.length) = true := decide_eq_true (by omega)
               clear c10
               obtain ⟨y254, hy254⟩ : ∃ y_ : List Int, y_ = (([wrap64 ((rd t239 0) * (rd t244 0)), wrap64 ((rd t239 1) * (rd t244 1)), wrap64 ((rd t239 2) * (rd t244 2))] : List Int)) := ⟨_, rfl⟩
               replace H : ((spec_l5Plain.f k y254).bind fun t257 => (some (t257, true))) = some (r1, r2) := by first | (rw [hy254]; with_reducible exact H) | (have H2_ := (Option.bind_some _ _).symm.trans H; rw [hy254]; with_reducible exact H2_) | (have H2_ := (Option.bind_some _ _).symm.trans H; with_reducible exact H2_) | with_reducible exact H | (rw [hy254]; exact H) | exact H
               have Ny254 := Aside0.mk hy254
               clear hy254
               replace H := Option.bind_eq_some_iff.mp H
               obtain ⟨t257, A110, H⟩ := H
               replace H : (some (t257, true)) = some (r1, r2) := H
               have A11 := Aside0.mk A110
               clear A110
               simp only [Option.some.injEq, Prod.mk.injEq] at H
               obtain ⟨rfl, rfl⟩ := H
               go_enter Try.func139, Try.ntmps139
               try go_wp2_with (first | ((with_reducible refine gate_callee (f := 74) rfl ?_); refine goesL_ (some 10) rfl rfl Try.func74 (by kernel_rfl) rfl #[.slice A0 l0.length c0] rfl z5_ ?_; (with_reducible refine (spec_l5Normal.calls k _ _ l0 t238 t239 _ ?side1 ?side2 A2.out).mono ?_); (case side1 => repeat (first | exact HR0.out | (with_reducible refine Kd.C_alloc ?_ _) | (with_reducible refine Kd.C_drewN ?_ _) | (with_reducible refine Kd.C_drew ?_))); (case side2 => exact HC0.out); rintro e w12 ⟨v240, v242, rfl, ho0, ho1, hb⟩; refine ⟨_, rfl, ?_⟩; have n0_ := Aside0.mk (Kd.R_lower ho0 (below_size z7_)); have n1_ := Aside0.mk (Kd.R_lower ho1 (below_size z7_)); have n2_ := Aside0.mk (below_step z7_ hb); clear HB; have HO241 := n0_; have HO243 := n1_; have HB := n2_; clear n0_ n1_ n2_; (try clear hb); (try clear hb2); (try clear hk); (try clear hi); (try clear ho0); (try clear ho1); obtain ⟨Ao13, co13, eo13⟩ := Kd.R_slice HO241.out; subst eo13) | ((with_reducible refine gate_callee (f := 88) rfl ?_); refine goesL_ (some 15) rfl rfl Try.func88 (by kernel_rfl) rfl #[.slice Ao13 t238.length co13] rfl z5_ ?_; (with_reducible refine (spec_l5Search.calls k _ _ t238 t244 true _ ?side1 ?side2 A3.out).mono ?_); (case side1 => repeat (first | exact (Kd.R_reads' HO241.out).2.2 | (with_reducible refine Kd.C_alloc ?_ _) | (with_reducible refine Kd.C_drewN ?_ _) | (with_reducible refine Kd.C_drew ?_))); (case side2 => exact (Kd.R_reads' HO241.out).2.1); rintro e w14 ⟨v246, rfl, ho0, hb⟩; refine ⟨_, rfl, ?_⟩; have n0_ := Aside0.mk (Kd.R_elder' z11_ (Kd.R_base ho0) hb); have n1_ := Aside0.mk (Kd.R_elder' z12_ (Kd.R_base ho0) hb); have n2_ := Aside0.mk (Kd.R_lower (Kd.R_new' (Kd.R_new' ho0 (Kd.R_lt z11_)) (Kd.R_lt z12_)) (below_size z7_)); have n3_ := Aside0.mk (below_step z7_ hb); clear HO241; clear HO243; clear HB; have HO241 := n0_; have HO243 := n1_; have HO247 := n2_; have HB := n3_; clear n0_ n1_ n2_ n3_; (try clear hb); (try clear hb2); (try clear hk); (try clear hi); (try clear ho0)))
               have n0_ := Aside0.mk (Kd.R_drew HO241.out)
               have n1_ := Aside0.mk (Kd.R_drew HO243.out)
               have n2_ := Aside0.mk (Kd.R_drew HO247.out)
               have n3_ := Aside0.mk (below_drew1 HB.out)
               clear HO241
               clear HO243
               clear HO247
               clear HB
               have HO241 := n0_
               have HO243 := n1_
               have HO247 := n2_
               have HB := n3_
               clear n0_ n1_ n2_ n3_
               obtain ⟨Ao16, co16, eo16⟩ := Kd.R_slice HO243.out
               (first | subst eo16 | (injection eo16 with f1_ f2_ f3_; have f4_ := f1_.symm; have f5_ := f3_.symm; clear f1_ f2_ f3_; subst f4_; subst f5_))
               have p248 : 0 ≤ (0 : Int) := (by omega)
               have q248 : 0 < (t239.length : Int) := of_decide_eq_true z22_
               obtain ⟨ad248, e248, hx248_0⟩ := Kd.at_int (Kd.R_reads' HO243.out).2.2 0 p248 q248
               cases e248
               have qi248 : (0 < t239.length) = True := eq_true (by omega)
               (try rw [show ((0 : Int)).toNat = 0 from rfl] at hx248_0)
               (try rw [Addr.add_zero'] at hx248_0)
               replace p248 := eq_true p248
               replace q248 := eq_true q248
               obtain ⟨Ao17, co17, eo17⟩ := Kd.R_slice HO247.out
               (first | subst eo17 | (injection eo17 with f1_ f2_ f3_; have f4_ := f1_.symm; have f5_ := f3_.symm; clear f1_ f2_ f3_; subst f4_; subst f5_))
               have p249 : 0 ≤ (0 : Int) := (by omega)
               have q249 : 0 < (t244.length : Int) := of_decide_eq_true z22_
               obtain ⟨ad249, e249, hx249_0⟩ := Kd.at_int (Kd.R_reads' HO247.out).2.2 0 p249 q249
               cases e249
               have qi249 : (0 < t244.length) = True := eq_true (by omega)
               (try rw [show ((0 : Int)).toNat = 0 from rfl] at hx249_0)
               (try rw [Addr.add_zero'] at hx249_0)
               replace p249 := eq_true p249
               replace q249 := eq_true q249
               have p250 : 0 ≤ (1 : Int) := (by omega)
               have q250 : 1 < (t239.length : Int) := of_decide_eq_true z22_
               obtain ⟨ad250, e250, hx250_0⟩ := Kd.at_int (Kd.R_reads' HO243.out).2.2 1 p250 q250
               obtain rfl : ad248 = ad250 := (by injection e250)
               (try simp only [show (1 : Int).toNat = 1 from rfl, Nat.reduceMul, Nat.reduceEqDiff, Go.Addr.add, ↓reduceIte] at hx250_0)
               have qi250 : (1 < t239.length) = True := eq_true (by omega)
               (try rw [show ((1 : Int)).toNat = 1 from rfl] at hx250_0)
               replace p250 := eq_true p250
               replace q250 := eq_true q250
               have p251 : 0 ≤ (1 : Int) := (by omega)
               have q251 : 1 < (t244.length : Int) := of_decide_eq_true z22_
               obtain ⟨ad251, e251, hx251_0⟩ := Kd.at_int (Kd.R_reads' HO247.out).2.2 1 p251 q251
               obtain rfl : ad249 = ad251 := (by injection e251)
               (try simp only [show (1 : Int).toNat = 1 from rfl, Nat.reduceMul, Nat.reduceEqDiff, Go.Addr.add, ↓reduceIte] at hx251_0)
               have qi251 : (1 < t244.length) = True := eq_true (by omega)
               (try rw [show ((1 : Int)).toNat = 1 from rfl] at hx251_0)
               replace p251 := eq_true p251
               replace q251 := eq_true q251
               have p252 : 0 ≤ (2 : Int) := (by omega)
               have q252 : 2 < (t239.length : Int) := of_decide_eq_true z22_
               obtain ⟨ad252, e252, hx252_0⟩ := Kd.at_int (Kd.R_reads' HO243.out).2.2 2 p252 q252
               obtain rfl : ad248 = ad252 := (by injection e252)
               (try simp only [show (2 : Int).toNat = 2 from rfl, Nat.reduceMul, Nat.reduceEqDiff, Go.Addr.add, ↓reduceIte] at hx252_0)
               have qi252 : (2 < t239.length) = True := eq_true (by omega)
               (try rw [show ((2 : Int)).toNat = 2 from rfl] at hx252_0)
               replace p252 := eq_true p252
               replace q252 := eq_true q252
               have p253 : 0 ≤ (2 : Int) := (by omega)
               have q253 : 2 < (t244.length : Int) := of_decide_eq_true z22_
               obtain ⟨ad253, e253, hx253_0⟩ := Kd.at_int (Kd.R_reads' HO247.out).2.2 2 p253 q253
               obtain rfl : ad249 = ad253 := (by injection e253)
               (try simp only [show (2 : Int).toNat = 2 from rfl, Nat.reduceMul, Nat.reduceEqDiff, Go.Addr.add, ↓reduceIte] at hx253_0)
               have qi253 : (2 < t244.length) = True := eq_true (by omega)
               (try rw [show ((2 : Int)).toNat = 2 from rfl] at hx253_0)
               replace p253 := eq_true p253
               replace q253 := eq_true q253
               refine start_ (n := 25) (S := fun w' => w'.cell? ad248 = some (.int .i64 (rd t239 0)) ∧ w'.cell? ad249 = some (.int .i64 (rd t244 0)) ∧ w'.cell? ⟨ad248.block, ad248.off + 1, none⟩ = some (.int .i64 (rd t239 1)) ∧ w'.cell? ⟨ad249.block, ad249.off + 1, none⟩ = some (.int .i64 (rd t244 1)) ∧ w'.cell? ⟨ad248.block, ad248.off + 2, none⟩ = some (.int .i64 (rd t239 2)) ∧ w'.cell? ⟨ad249.block, ad249.off + 2, none⟩ = some (.int .i64 (rd t244 2))) (ds := []) #[false, false, false, false, false, false, false, false, false, false, false, false, false, false, false, false, false, false, false, false, false, false, false, false, false] (by kernel_rfl) rfl rfl ⟨hx248_0, hx249_0, hx250_0, hx251_0, hx252_0, hx253_0⟩ (fun hHeld => ?_); refine with_tabW spec_l5Three.tab5 spec_l5Three.bits5 (fun HT_ HW_ => ?_)
               generalize w14.drew = w15 at HO241 HO243 HO247 HB hx248_0 hx249_0 hx250_0 hx251_0 hx252_0 hx253_0 hHeld ⊢
               refine pure_ (i := 0) (N := some 21) (v := ?_) (a' := ?_) #[true, false, false, false, false, false, false, false, false, false, false, false, false, false, false, false, false, false, false, false, false, false, false, false, false] rfl rfl (any_of HT_.out (by kernel_rfl)) (fun _ _ _ h => h) (Or.inl ⟨by rfl, ?_⟩) ?_ ?_
               rotate_left
               · intro w'
                 go_simp
                 with_reducible rfl
               rotate_left
               · simp only [Act.put, List.setIfInBounds_toArray, List.set_cons_zero, List.set_cons_succ, i64_w, i32_w]
                 rfl
               refine pure_ (i := 1) (N := some 22) (v := ?_) (a' := ?_) #[true, true, false, false, false, false, false, false, false, false, false, false, false, false, false, false, false, false, false, false, false, false, false, false, false] rfl rfl (any_of HT_.out (by kernel_rfl)) (fun _ _ _ h => h) (Or.inl ⟨by rfl, ?_⟩) ?_ ?_
               rotate_left
               · intro w'
                 go_simp
                 with_reducible rfl
               rotate_left
               · simp only [Act.put, List.setIfInBounds_toArray, List.set_cons_zero, List.set_cons_succ, i64_w, i32_w]
                 rfl
               refine pure_ (i := 3) (N := some 24) (v := ?_) (a' := ?_) #[true, true, false, true, false, false, false, false, false, false, false, false, false, false, false, false, false, false, false, false, false, false, false, false, false] rfl rfl (any_of HT_.out (by kernel_rfl)) (fun _ _ _ h => h) (Or.inl ⟨by rfl, ?_⟩) ?_ ?_
               rotate_left
               · intro w'
                 go_simp
                 with_reducible rfl
               rotate_left
               · simp only [Act.put, List.setIfInBounds_toArray, List.set_cons_zero, List.set_cons_succ, i64_w, i32_w]
                 rfl
               refine pure_ (i := 4) (N := some 25) (v := ?_) (a' := ?_) #[true, true, false, true, true, false, false, false, false, false, false, false, false, false, false, false, false, false, false, false, false, false, false, false, false] rfl rfl (any_of HT_.out (by kernel_rfl)) (fun _ _ _ h => h) (Or.inl ⟨by rfl, ?_⟩) ?_ ?_
               rotate_left
               · intro w'
                 go_simp
                 with_reducible rfl
               rotate_left
               · simp only [Act.put, List.setIfInBounds_toArray, List.set_cons_zero, List.set_cons_succ, i64_w, i32_w]
                 rfl
               refine pure_ (i := 7) (N := some 28) (v := ?_) (a' := ?_) #[true, true, false, true, true, false, false, true, false, false, false, false, false, false, false, false, false, false, false, false, false, false, false, false, false] rfl rfl (any_of HT_.out (by kernel_rfl)) (fun _ _ _ h => h) (Or.inl ⟨by rfl, ?_⟩) ?_ ?_
               rotate_left
               · intro w'
                 go_simp
                 with_reducible rfl
               rotate_left
               · simp only [Act.put, List.setIfInBounds_toArray, List.set_cons_zero, List.set_cons_succ, i64_w, i32_w]
                 rfl
               refine pure_ (i := 8) (N := some 29) (v := ?_) (a' := ?_) #[true, true, false, true, true, false, false, true, true, false, false, false, false, false, false, false, false, false, false, false, false, false, false, false, false] rfl rfl (any_of HT_.out (by kernel_rfl)) (fun _ _ _ h => h) (Or.inl ⟨by rfl, ?_⟩) ?_ ?_
               rotate_left
               · intro w'
                 go_simp
                 with_reducible rfl
               rotate_left
               · simp only [Act.put, List.setIfInBounds_toArray, List.set_cons_zero, List.set_cons_succ, i64_w, i32_w]
                 rfl
               refine pure_ (i := 10) (N := some 31) (v := ?_) (a' := ?_) #[true, true, false, true, true, false, false, true, true, false, true, false, false, false, false, false, false, false, false, false, false, false, false, false, false] rfl rfl (any_of HT_.out (by kernel_rfl)) (fun _ _ _ h => h) (Or.inl ⟨by rfl, ?_⟩) ?_ ?_
               rotate_left
               · intro w'
                 go_simp
                 with_reducible rfl
               rotate_left
               · simp only [Act.put, List.setIfInBounds_toArray, List.set_cons_zero, List.set_cons_succ, i64_w, i32_w]
                 rfl
               refine pure_ (i := 11) (N := some 32) (v := ?_) (a' := ?_) #[true, true, false, true, true, false, false, true, true, false, true, true, false, false, false, false, false, false, false, false, false, false, false, false, false] rfl rfl (any_of HT_.out (by kernel_rfl)) (fun _ _ _ h => h) (Or.inl ⟨by rfl, ?_⟩) ?_ ?_
               rotate_left
               · intro w'
                 go_simp
                 with_reducible rfl
               rotate_left
               · simp only [Act.put, List.setIfInBounds_toArray, List.set_cons_zero, List.set_cons_succ, i64_w, i32_w]
                 rfl
               refine pure_ (i := 14) (N := some 35) (v := ?_) (a' := ?_) #[true, true, false, true, true, false, false, true, true, false, true, true, false, false, true, false, false, false, false, false, false, false, false, false, false] rfl rfl (any_of HT_.out (by kernel_rfl)) (fun _ _ _ h => h) (Or.inl ⟨by rfl, ?_⟩) ?_ ?_
               rotate_left
               · intro w'
                 go_simp
                 with_reducible rfl
               rotate_left
               · simp only [Act.put, List.setIfInBounds_toArray, List.set_cons_zero, List.set_cons_succ, i64_w, i32_w]
                 rfl
               refine pure_ (i := 15) (N := some 36) (v := ?_) (a' := ?_) #[true, true, false, true, true, false, false, true, true, false, true, true, false, false, true, true, false, false, false, false, false, false, false, false, false] rfl rfl (any_of HT_.out (by kernel_rfl)) (fun _ _ _ h => h) (Or.inl ⟨by rfl, ?_⟩) ?_ ?_
               rotate_left
               · intro w'
                 go_simp
                 with_reducible rfl
               rotate_left
               · simp only [Act.put, List.setIfInBounds_toArray, List.set_cons_zero, List.set_cons_succ, i64_w, i32_w]
                 rfl
               refine pure_ (i := 17) (N := some 38) (v := ?_) (a' := ?_) #[true, true, false, true, true, false, false, true, true, false, true, true, false, false, true, true, false, true, false, false, false, false, false, false, false] rfl rfl (any_of HT_.out (by kernel_rfl)) (fun _ _ _ h => h) (Or.inl ⟨by rfl, ?_⟩) ?_ ?_
               rotate_left
               · intro w'
                 go_simp
                 with_reducible rfl
               rotate_left
               · simp only [Act.put, List.setIfInBounds_toArray, List.set_cons_zero, List.set_cons_succ, i64_w, i32_w]
                 rfl
               refine pure_ (i := 18) (N := some 39) (v := ?_) (a' := ?_) #[true, true, false, true, true, false, false, true, true, false, true, true, false, false, true, true, false, true, true, false, false, false, false, false, false] rfl rfl (any_of HT_.out (by kernel_rfl)) (fun _ _ _ h => h) (Or.inl ⟨by rfl, ?_⟩) ?_ ?_
               rotate_left
               · intro w'
                 go_simp
                 with_reducible rfl
               rotate_left
               · simp only [Act.put, List.setIfInBounds_toArray, List.set_cons_zero, List.set_cons_succ, i64_w, i32_w]
                 rfl
               refine take_ (i := 2) (N := some 23) (v := ?_) (a' := ?_) #[true, true, true, true, true, false, false, true, true, false, true, true, false, false, true, true, false, true, true, false, false, false, false, false, false] rfl rfl (take_ofW HT_.out HW_.out (by kernel_rfl)) (fun _ _ _ h => h) (Or.inl ⟨by rfl, ?_⟩) hHeld ?_ ?_
               rotate_left
               · rintro w' ⟨s0, s1, s2, s3, s4, s5⟩
                 go_simp
                 with_reducible rfl
               rotate_left
               · simp only [Act.put, List.setIfInBounds_toArray, List.set_cons_zero, List.set_cons_succ, i64_w, i32_w]
                 rfl
               refine take_ (i := 5) (N := some 26) (v := ?_) (a' := ?_) #[true, true, true, true, true, true, false, true, true, false, true, true, false, false, true, true, false, true, true, false, false, false, false, false, false] rfl rfl (take_ofW HT_.out HW_.out (by kernel_rfl)) (fun _ _ _ h => h) (Or.inl ⟨by rfl, ?_⟩) hHeld ?_ ?_
               rotate_left
               · rintro w' ⟨s0, s1, s2, s3, s4, s5⟩
                 go_simp
                 with_reducible rfl
               rotate_left
               · simp only [Act.put, List.setIfInBounds_toArray, List.set_cons_zero, List.set_cons_succ, i64_w, i32_w]
                 rfl
               refine pure_ (i := 6) (N := some 27) (v := ?_) (a' := ?_) #[true, true, true, true, true, true, true, true, true, false, true, true, false, false, true, true, false, true, true, false, false, false, false, false, false] rfl rfl (any_of HT_.out (by kernel_rfl)) (fun _ _ _ h => h) (Or.inl ⟨by rfl, ?_⟩) ?_ ?_
               rotate_left
               · intro w'
                 go_simp
                 with_reducible rfl
               rotate_left
               · simp only [Act.put, List.setIfInBounds_toArray, List.set_cons_zero, List.set_cons_succ, i64_w, i32_w]
                 rfl
               refine take_ (i := 9) (N := some 30) (v := ?_) (a' := ?_) #[true, true, true, true, true, true, true, true, true, true, true, true, false, false, true, true, false, true, true, false, false, false, false, false, false] rfl rfl (take_ofW HT_.out HW_.out (by kernel_rfl)) (fun _ _ _ h => h) (Or.inl ⟨by rfl, ?_⟩) hHeld ?_ ?_
               rotate_left
               · rintro w' ⟨s0, s1, s2, s3, s4, s5⟩
                 go_simp
                 with_reducible rfl
               rotate_left
               · simp only [Act.put, List.setIfInBounds_toArray, List.set_cons_zero, List.set_cons_succ, i64_w, i32_w]
                 rfl
               refine take_ (i := 12) (N := some 33) (v := ?_) (a' := ?_) #[true, true, true, true, true, true, true, true, true, true, true, true, true, false, true, true, false, true, true, false, false, false, false, false, false] rfl rfl (take_ofW HT_.out HW_.out (by kernel_rfl)) (fun _ _ _ h => h) (Or.inl ⟨by rfl, ?_⟩) hHeld ?_ ?_
               rotate_left
               · rintro w' ⟨s0, s1, s2, s3, s4, s5⟩
                 go_simp
                 with_reducible rfl
               rotate_left
               · simp only [Act.put, List.setIfInBounds_toArray, List.set_cons_zero, List.set_cons_succ, i64_w, i32_w]
                 rfl
               refine pure_ (i := 13) (N := some 34) (v := ?_) (a' := ?_) #[true, true, true, true, true, true, true, true, true, true, true, true, true, true, true, true, false, true, true, false, false, false, false, false, false] rfl rfl (any_of HT_.out (by kernel_rfl)) (fun _ _ _ h => h) (Or.inl ⟨by rfl, ?_⟩) ?_ ?_
               rotate_left
               · intro w'
                 go_simp
                 with_reducible rfl
               rotate_left
               · simp only [Act.put, List.setIfInBounds_toArray, List.set_cons_zero, List.set_cons_succ, i64_w, i32_w]
                 rfl
               refine take_ (i := 16) (N := some 37) (v := ?_) (a' := ?_) #[true, true, true, true, true, true, true, true, true, true, true, true, true, true, true, true, true, true, true, false, false, false, false, false, false] rfl rfl (take_ofW HT_.out HW_.out (by kernel_rfl)) (fun _ _ _ h => h) (Or.inl ⟨by rfl, ?_⟩) hHeld ?_ ?_
               rotate_left
               · rintro w' ⟨s0, s1, s2, s3, s4, s5⟩
                 go_simp
                 with_reducible rfl
               rotate_left
               · simp only [Act.put, List.setIfInBounds_toArray, List.set_cons_zero, List.set_cons_succ, i64_w, i32_w]
                 rfl
               refine take_ (i := 19) (N := some 40) (v := ?_) (a' := ?_) #[true, true, true, true, true, true, true, true, true, true, true, true, true, true, true, true, true, true, true, true, false, false, false, false, false] rfl rfl (take_ofW HT_.out HW_.out (by kernel_rfl)) (fun _ _ _ h => h) (Or.inl ⟨by rfl, ?_⟩) hHeld ?_ ?_
               rotate_left
               · rintro w' ⟨s0, s1, s2, s3, s4, s5⟩
                 go_simp
                 with_reducible rfl
               rotate_left
               · simp only [Act.put, List.setIfInBounds_toArray, List.set_cons_zero, List.set_cons_succ, i64_w, i32_w]
                 rfl
               refine pure_ (i := 20) (N := some 41) (v := ?_) (a' := ?_) #[true, true, true, true, true, true, true, true, true, true, true, true, true, true, true, true, true, true, true, true, true, false, false, false, false] rfl rfl (any_of HT_.out (by kernel_rfl)) (fun _ _ _ h => h) (Or.inl ⟨by rfl, ?_⟩) ?_ ?_
               rotate_left
               · intro w'
                 go_simp
                 with_reducible rfl
               rotate_left
               · simp only [Act.put, List.setIfInBounds_toArray, List.set_cons_zero, List.set_cons_succ, i64_w, i32_w]
                 rfl
               refine one_ (i := 21) (N := some 42) #[true, true, true, true, true, true, true, true, true, true, true, true, true, true, true, true, true, true, true, true, true, true, false, false, false] rfl rfl (one_of HT_.out (by kernel_rfl)) (by decide) (fun K hK => ?_)
               refine Kd.R_lit_step (Kd.int .i64) _ 3 ?hg (N := 42) ?hd (xs := ([wrap64 ((rd t239 0) * (rd t244 0)), wrap64 ((rd t239 1) * (rd t244 1)), wrap64 ((rd t239 2) * (rd t244 2))] : List Int)) (inner := [.int .i64 (wrap64 ((rd t239 0) * (rd t244 0))), .int .i64 (wrap64 ((rd t239 1) * (rd t244 1))), .int .i64 (wrap64 ((rd t239 2) * (rd t244 2)))]) (ok := fun _ => True) (okp := fun _ => True) ?hr ?hp (fun _ hk => hk) trivial (Below.refl _ _) (Nat.le_refl _) (by simp) ?_; (case hd => rfl); (case hg => rfl); (case hr => first | (go_simp; done) | (go_simp; rfl)); (case hp => exact (Reps.one (show Kd.M (Kd.int .i64) _ _ _ (wrap64 ((rd t239 0) * (rd t244 0))) [.int .i64 (wrap64 ((rd t239 0) * (rd t244 0)))] from rfl) (Reps.one (show Kd.M (Kd.int .i64) _ _ _ (wrap64 ((rd t239 1) * (rd t244 1))) [.int .i64 (wrap64 ((rd t239 1) * (rd t244 1)))] from rfl) (Reps.one (show Kd.M (Kd.int .i64) _ _ _ (wrap64 ((rd t239 2) * (rd t244 2))) [.int .i64 (wrap64 ((rd t239 2) * (rd t244 2)))] from rfl) (Reps.none _ _)))))
               intro v255 w18 ho19 hb hg_ hnew_
               have HS0_ := (hb.cell (World.block_lt_of_cell? _ _ (hHeld.1))).trans (hHeld.1)
               have HS1_ := (hb.cell (World.block_lt_of_cell? _ _ (hHeld.2.1))).trans (hHeld.2.1)
               have HS2_ := (hb.cell (World.block_lt_of_cell? _ _ (hHeld.2.2.1))).trans (hHeld.2.2.1)
               have HS3_ := (hb.cell (World.block_lt_of_cell? _ _ (hHeld.2.2.2.1))).trans (hHeld.2.2.2.1)
               have HS4_ := (hb.cell (World.block_lt_of_cell? _ _ (hHeld.2.2.2.2.1))).trans (hHeld.2.2.2.2.1)
               have HS5_ := (hb.cell (World.block_lt_of_cell? _ _ (hHeld.2.2.2.2.2))).trans (hHeld.2.2.2.2.2)
               clear hg_ hnew_
               (first | rw [← Ny254.out] at ho19 | (simp only [Int.reduceToNat] at ho19; rw [← Ny254.out] at ho19))
               have n0_ := Aside0.mk (Kd.R_elder' z11_ (Kd.R_base ho19) hb)
               have n1_ := Aside0.mk (Kd.R_elder' z12_ (Kd.R_base ho19) hb)
               have n2_ := Aside0.mk (Kd.R_elder' z13_ (Kd.R_base ho19) hb)
               have n3_ := Aside0.mk (Kd.R_lower (Kd.R_new' (Kd.R_new' (Kd.R_new' ho19 (Kd.R_lt z11_)) (Kd.R_lt z12_)) (Kd.R_lt z13_)) (below_size z7_))
               have n4_ := Aside0.mk (below_step z7_ hb)
               clear HO241
               clear HO243
               clear HO247
               clear HB
               have HO241 := n0_
               have HO243 := n1_
               have HO247 := n2_
               have HO256 := n3_
               have HB := n4_
               clear n0_ n1_ n2_ n3_ n4_
               clear hb ho19
               obtain ⟨Ao20, co20, eo20⟩ := Kd.R_slice HO256.out
               (first | subst eo20 | (injection eo20 with f1_ f2_ f3_; have f4_ := f1_.symm; have f5_ := f3_.symm; clear f1_ f2_ f3_; subst f4_; subst f5_))
               refine hK.out _ _ ⟨HS0_, HS1_, HS2_, HS3_, HS4_, HS5_⟩ (fun hHeld => ?_)
               clear hK K
               refine norm_ (a' := ?_) ?_ ?_
               rotate_left
               · show Act.put _ (some 42) _ = _
                 simp only [Act.put, List.setIfInBounds_toArray, List.set_cons_zero, List.set_cons_succ, i64_w, i32_w]
                 rfl
               refine one_ (i := 22) (N := some 43) #[true, true, true, true, true, true, true, true, true, true, true, true, true, true, true, true, true, true, true, true, true, true, true, false, false] rfl rfl (one_of HT_.out (by kernel_rfl)) (by decide) (fun K hK => ?_)
               refine goes_ Try.func106 (by kernel_rfl) rfl #[.slice Ao20 y254.length co20] (by rfl) rfl rfl z5_ ?_
               with_reducible refine (spec_l5Plain.calls k _ _ y254 t257 _ ?side1 ?side2 A11.out).mono ?_
               (case side1 => repeat (first | exact (Kd.R_reads' HO256.out).2.2 | (with_reducible refine Kd.C_alloc ?_ _) | (with_reducible refine Kd.C_drewN ?_ _) | (with_reducible refine Kd.C_drew ?_)))
               (case side2 => exact (Kd.R_reads' HO256.out).2.1)
               rintro e w21 ⟨v258, rfl, ho0, hb⟩
               have HS0_ := (hb.cell (World.block_lt_of_cell? _ _ (hHeld.1))).trans (hHeld.1)
               have HS1_ := (hb.cell (World.block_lt_of_cell? _ _ (hHeld.2.1))).trans (hHeld.2.1)
               have HS2_ := (hb.cell (World.block_lt_of_cell? _ _ (hHeld.2.2.1))).trans (hHeld.2.2.1)
               have HS3_ := (hb.cell (World.block_lt_of_cell? _ _ (hHeld.2.2.2.1))).trans (hHeld.2.2.2.1)
               have HS4_ := (hb.cell (World.block_lt_of_cell? _ _ (hHeld.2.2.2.2.1))).trans (hHeld.2.2.2.2.1)
               have HS5_ := (hb.cell (World.block_lt_of_cell? _ _ (hHeld.2.2.2.2.2))).trans (hHeld.2.2.2.2.2)
               refine ⟨_, rfl, ?_⟩
               have n0_ := Aside0.mk (Kd.R_elder' z11_ (Kd.R_base ho0) hb)
               have n1_ := Aside0.mk (Kd.R_elder' z12_ (Kd.R_base ho0) hb)
               have n2_ := Aside0.mk (Kd.R_elder' z13_ (Kd.R_base ho0) hb)
               have n3_ := Aside0.mk (Kd.R_elder' (by (with_reducible repeat (first | apply Kd.R_alloc | apply Kd.R_drewN | apply Kd.R_drew)); exact HO256.out) (Kd.R_base ho0) hb)
               have n4_ := Aside0.mk (Kd.R_lower (Kd.R_new' (Kd.R_new' (Kd.R_new' (Kd.R_new' ho0 (Kd.R_lt z11_)) (Kd.R_lt z12_)) (Kd.R_lt z13_)) (Kd.R_lt (by (with_reducible repeat (first | apply Kd.R_alloc | apply Kd.R_drewN | apply Kd.R_drew)); exact HO256.out))) (below_size z7_))
               have n5_ := Aside0.mk (below_step z7_ hb)
               clear HO241
               clear HO243
               clear HO247
               clear HO256
               clear HB
               have HO241 := n0_
               have HO243 := n1_
               have HO247 := n2_
               have HO256 := n3_
               have HO259 := n4_
               have HB := n5_
               clear n0_ n1_ n2_ n3_ n4_ n5_
               (try clear hb)
               (try clear hb2)
               (try clear hk)
               (try clear hi)
               (try clear ho0)
               refine hK.out _ _ ⟨HS0_, HS1_, HS2_, HS3_, HS4_, HS5_⟩ (fun hHeld => ?_)
               clear hK K
               refine norm_ (a' := ?_) ?_ ?_
               rotate_left
               · show Act.put _ (some 43) _ = _
                 simp only [Act.put, List.setIfInBounds_toArray, List.set_cons_zero, List.set_cons_succ, i64_w, i32_w]
                 rfl
               refine pure_ (i := 23) (N := some 2) (v := ?_) (a' := ?_) #[true, true, true, true, true, true, true, true, true, true, true, true, true, true, true, true, true, true, true, true, true, true, true, true, false] rfl rfl (any_of HT_.out (by kernel_rfl)) (fun _ _ _ h => h) (Or.inl ⟨by rfl, ?_⟩) ?_ ?_
               rotate_left
               · intro w'
                 go_simp
                 with_reducible rfl
               rotate_left
               · simp only [Act.put, List.setIfInBounds_toArray, List.set_cons_zero, List.set_cons_succ, i64_w, i32_w]
                 rfl
               refine pure_ (i := 24) (N := some 3) (v := ?_) (a' := ?_) #[true, true, true, true, true, true, true, true, true, true, true, true, true, true, true, true, true, true, true, true, true, true, true, true, true] rfl rfl (any_of HT_.out (by kernel_rfl)) (fun _ _ _ h => h) (Or.inl ⟨by rfl, ?_⟩) ?_ ?_
               rotate_left
               · intro w'
                 go_simp
                 with_reducible rfl
               rotate_left
               · simp only [Act.put, List.setIfInBounds_toArray, List.set_cons_zero, List.set_cons_succ, i64_w, i32_w]
                 rfl
               refine done_ (done_of HT_.out (by kernel_rfl)) ?_
               try go_wp2
               go_ret2
               exact ⟨_, z20_, by (with_reducible repeat (first | apply Kd.R_alloc | apply Kd.R_drewN | apply Kd.R_drew)); exact Kd.R_mono HO259.out (fun _ hk => trivial), z7_⟩
             · rw [if_neg c10] at H
               exact absurd H (by simp)
           · rw [if_neg c9] at H
             exact absurd H (by simp)
         · rw [if_neg c8] at H
           exact absurd H (by simp)
       · rw [if_neg c7] at H
         exact absurd H (by simp)
     · rw [if_neg c6] at H
       exact absurd H (by simp)
   · rw [if_neg c5] at H
     exact absurd H (by simp)
 · replace c4 := Bool.eq_false_iff.mpr c4
   subst c4
   have H1 : (some ((([] : List Int)), false)) = some (r1, r2) := by rw [if_neg (show ¬ (false = true) by decide)] at H; exact H
   clear H
   have H := H1
   clear H1
   obtain ⟨y260, hy260⟩ : ∃ y_ : List Int, y_ = (([] : List Int)) := ⟨_, rfl⟩
   replace H : (some (y260, false)) = some (r1, r2) := by first | (rw [hy260]; with_reducible exact H) | (have H2_ := (Option.bind_some _ _).symm.trans H; rw [hy260]; with_reducible exact H2_) | (have H2_ := (Option.bind_some _ _).symm.trans H; with_reducible exact H2_) | with_reducible exact H | (rw [hy260]; exact H) | exact H
   have Ny260 := Aside0.mk hy260
   clear hy260
   simp only [Option.some.injEq, Prod.mk.injEq] at H
   obtain ⟨rfl, rfl⟩ := H
   go_enter Try.func139, Try.ntmps139
   go_wp2_with (first | ((with_reducible refine gate_callee (f := 74) rfl ?_); refine goesL_ (some 10) rfl rfl Try.func74 (by kernel_rfl) rfl #[.slice A0 l0.length c0] rfl z5_ ?_; (with_reducible refine (spec_l5Normal.calls k _ _ l0 t238 t239 _ ?side1 ?side2 A2.out).mono ?_); (case side1 => repeat (first | exact HR0.out | (with_reducible refine Kd.C_alloc ?_ _) | (with_reducible refine Kd.C_drewN ?_ _) | (with_reducible refine Kd.C_drew ?_))); (case side2 => exact HC0.out); rintro e w22 ⟨v240, v242, rfl, ho0, ho1, hb⟩; refine ⟨_, rfl, ?_⟩; have n0_ := Aside0.mk (Kd.R_lower ho0 (below_size z7_)); have n1_ := Aside0.mk (Kd.R_lower ho1 (below_size z7_)); have n2_ := Aside0.mk (below_step z7_ hb); clear HB; have HO241 := n0_; have HO243 := n1_; have HB := n2_; clear n0_ n1_ n2_; (try clear hb); (try clear hb2); (try clear hk); (try clear hi); (try clear ho0); (try clear ho1); obtain ⟨Ao23, co23, eo23⟩ := Kd.R_slice HO241.out; subst eo23) | ((with_reducible refine gate_callee (f := 88) rfl ?_); refine goesL_ (some 15) rfl rfl Try.func88 (by kernel_rfl) rfl #[.slice Ao23 t238.length co23] rfl z5_ ?_; (with_reducible refine (spec_l5Search.calls k _ _ t238 t244 false _ ?side1 ?side2 A3.out).mono ?_); (case side1 => repeat (first | exact (Kd.R_reads' HO241.out).2.2 | (with_reducible refine Kd.C_alloc ?_ _) | (with_reducible refine Kd.C_drewN ?_ _) | (with_reducible refine Kd.C_drew ?_))); (case side2 => exact (Kd.R_reads' HO241.out).2.1); rintro e w24 ⟨v246, rfl, ho0, hb⟩; refine ⟨_, rfl, ?_⟩; have n0_ := Aside0.mk (Kd.R_elder' z11_ (Kd.R_base ho0) hb); have n1_ := Aside0.mk (Kd.R_elder' z12_ (Kd.R_base ho0) hb); have n2_ := Aside0.mk (Kd.R_lower (Kd.R_new' (Kd.R_new' ho0 (Kd.R_lt z11_)) (Kd.R_lt z12_)) (below_size z7_)); have n3_ := Aside0.mk (below_step z7_ hb); clear HO241; clear HO243; clear HB; have HO241 := n0_; have HO243 := n1_; have HO247 := n2_; have HB := n3_; clear n0_ n1_ n2_ n3_; (try clear hb); (try clear hb2); (try clear hk); (try clear hi); (try clear ho0)) | ((with_reducible refine gate_dst (N := 20) rfl ?_); refine Kd.R_lit (Kd.int .i64) _ 3 ?hg (N := 20) ?hd (xs := ([] : List Int)) (inner := []) (ok := fun _ => True) (okp := fun _ => True) ?hr ?hp (fun _ hk => hk) trivial (Below.refl _ _) (Nat.le_refl _) (by simp) ?_; (case hd => rfl); (case hg => rfl); (case hr => first | (go_simp; done) | (go_simp; rfl)); (case hp => exact (Reps.none _ _)); intro v261 w25 ho26 hb hg_ hnew_; clear hg_ hnew_; (first | rw [← Ny260.out] at ho26 | (simp only [Int.reduceToNat] at ho26; rw [← Ny260.out] at ho26)); have n0_ := Aside0.mk (Kd.R_elder' z11_ (Kd.R_base ho26) hb); have n1_ := Aside0.mk (Kd.R_elder' z12_ (Kd.R_base ho26) hb); have n2_ := Aside0.mk (Kd.R_elder' z13_ (Kd.R_base ho26) hb); have n3_ := Aside0.mk (Kd.R_lower (Kd.R_new' (Kd.R_new' (Kd.R_new' ho26 (Kd.R_lt z11_)) (Kd.R_lt z12_)) (Kd.R_lt z13_)) (below_size z7_)); have n4_ := Aside0.mk (below_step z7_ hb); clear HO241; clear HO243; clear HO247; clear HB; have HO241 := n0_; have HO243 := n1_; have HO247 := n2_; have HO262 := n3_; have HB := n4_; clear n0_ n1_ n2_ n3_ n4_; clear hb ho26))
   go_ret2
   exact ⟨_, z20_, by (with_reducible repeat (first | apply Kd.R_alloc | apply Kd.R_drewN | apply Kd.R_drew)); exact Kd.R_mono HO262.out (fun _ hk => trivial), z7_⟩

end Go.Proofs.Ytdeahlommlgceaa.PFnHeight

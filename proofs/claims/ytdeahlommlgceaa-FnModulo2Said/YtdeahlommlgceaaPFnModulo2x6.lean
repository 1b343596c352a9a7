-- Written by a program of this repo (wip/gen/gen.py) over the kit's print.
-- (slim)
import Derived.Test.YtdeahlommlgceaaPFnModulo2x0
import Derived.Test.YtdeahlommlgceaaPFnModulo2x1
import Derived.Test.YtdeahlommlgceaaPFnModulo2x2
import Derived.Test.YtdeahlommlgceaaPFnModulo2x5
namespace Go.Proofs.Ytdeahlommlgceaa.PFnModulo2
open Go.RowKit Go.Proofs.YtdeahlommlgceaaW.PrintWords Go.Proofs.YtdeahlommlgceaaW.PrintLast Go.Proofs.YtdeahlommlgceaaW.PrintMore
attribute [local go_sem] max2_int min2_int max_two min_two max_three min_three max_four min_four   -- for this text's walks alone
set_option linter.unusedVariables false
set_option linter.unusedSimpArgs false

/-! ### impl_ZeroModulo: function 37 -/
mutual
def impl_ZeroModulo_1.l0 : Nat → List Int → Int → Int → Int → List Int → Option (Bool × List Int)
 | 0, _, _, _, _, _ => none
 | k + 1, l0, x1, x3, x0, y => if 0 ≤ x0 then (if x0 < (y.length : Int) then (if rd y x0 < x3 then ((impl_ZeroModulo_1.f k l0 x1 x3 (wrap64 (x0 + 1)) y).bind fun t => (if t.2.length = y.length then (if t.1 = true then (some (true, t.2)) else (impl_ZeroModulo_1.l0 k l0 x1 x3 x0 (t.2.set (x0 : Int).toNat (wrap64 (rd t.2 x0 + 1))))) else (none))) else (some (false, y))) else (none)) else (none)
def impl_ZeroModulo_1.f : Nat → List Int → Int → Int → Int → List Int → Option (Bool × List Int)
 | 0, _, _, _, _, _ => none
 | k + 1, l0, x1, x3, a0, y => if a0 = (y.length : Int) then ((impl_gcd.f k y).bind fun t1 => (if x1 = 0 then (none) else (if Int.tmod t1 x1 = 0 then (some (false, y)) else ((impl_pair.f k l0 y y).bind fun t2 => (if x3 = 0 then (none) else (some (Int.tmod t2 x3 == 0, y))))))) else (if 0 ≤ a0 then (if a0 < (y.length : Int) then (impl_ZeroModulo_1.l0 k l0 x1 x3 a0 (y.set (a0 : Int).toNat 0)) else (none)) else (none))
end
theorem impl_ZeroModulo_1.mono_l : ∀ k, (∀ y0 y1 y2 y3 y4, LeO (impl_ZeroModulo_1.l0 k y0 y1 y2 y3 y4) (impl_ZeroModulo_1.l0 (k + 1) y0 y1 y2 y3 y4)) ∧ (∀ y0 y1 y2 y3 y4, LeO (impl_ZeroModulo_1.f k y0 y1 y2 y3 y4) (impl_ZeroModulo_1.f (k + 1) y0 y1 y2 y3 y4))
 | 0 => ⟨fun _ _ _ _ _ r h => by simp [impl_ZeroModulo_1.l0] at h, fun _ _ _ _ _ r h => by simp [impl_ZeroModulo_1.f] at h⟩
 | k + 1 => by
  obtain ⟨ih0, ih1⟩ := impl_ZeroModulo_1.mono_l k
  refine ⟨?_, ?_⟩
  · intro y0 y1 y2 y3 y4
    unfold impl_ZeroModulo_1.l0
    repeat' first
    | (with_reducible exact ih0 _ _ _ _ _)
    | (with_reducible exact ih1 _ _ _ _ _)
    | (with_reducible exact LeO.refl _)
    | (with_reducible exact LeO.none _)
    | (with_reducible refine LeO.ite ?_ ?_)
    | (with_reducible refine LeO.bind ?_ (fun _ => ?_))
  · intro y0 y1 y2 y3 y4
    unfold impl_ZeroModulo_1.f
    repeat' first
    | (with_reducible exact ih0 _ _ _ _ _)
    | (with_reducible exact impl_gcd.mono _ _)
    | (with_reducible exact impl_pair.mono _ _ _ _)
    | (with_reducible exact LeO.refl _)
    | (with_reducible exact LeO.none _)
    | (with_reducible refine LeO.ite ?_ ?_)
    | (with_reducible refine LeO.bind ?_ (fun _ => ?_))
/-- What the closure has captured: the cells of the variables v, p, form, m, try; none of them lies in v's row. -/
structure Caps (w : World) (bv bp bf bm bt g n c : Nat) (A0 : Option Addr) (n0 c0 : Nat) (x1 x3 : Int) : Prop where
 hv : w.cell? ⟨bv, 0, none⟩ = some (.slice (some ⟨g, 0, none⟩) n c)
 hp : w.cell? ⟨bp, 0, none⟩ = some (.int .i64 x1)
 hf : w.cell? ⟨bf, 0, none⟩ = some (.slice A0 n0 c0)
 hm : w.cell? ⟨bm, 0, none⟩ = some (.int .i64 x3)
 ht : w.cell? ⟨bt, 0, none⟩ = some (.func (.func 92) #[] #[.pointer (some ⟨bv, 0, none⟩), .pointer (some ⟨bp, 0, none⟩), .pointer (some ⟨bf, 0, none⟩), .pointer (some ⟨bm, 0, none⟩), .pointer (some ⟨bt, 0, none⟩)])
 nv : bv ≠ g
 np : bp ≠ g
 nf : bf ≠ g
 nm : bm ≠ g
 nt : bt ≠ g
theorem Caps.kept {w w' : World} {bv bp bf bm bt g n c : Nat} {A0 : Option Addr} {n0 c0 : Nat} {x1 x3 : Int} (h : Caps w bv bp bf bm bt g n c A0 n0 c0 x1 x3) (hk : Kept w w' (fun k_ => k_ = g)) : Caps w' bv bp bf bm bt g n c A0 n0 c0 x1 x3 :=
 ⟨cell_kept h.hv hk h.nv, cell_kept h.hp hk h.np, cell_kept h.hf hk h.nf, cell_kept h.hm hk h.nm, cell_kept h.ht hk h.nt, h.nv, h.np, h.nf, h.nm, h.nt⟩
set_option maxHeartbeats 8000000 in
set_option maxRecDepth 100000 in
theorem impl_ZeroModulo_1.calls (k : Nat) : ∀ (A0 : Option Addr) (c0 : Nat) (l0 : List Int) (x1 x3 a0 : Int) (y y' : List Int) (r : Bool) (bv bp bf bm bt g c : Nat) (w0 w : World) (hB : Below w0.heap.size w0 w) (hr0 : Kd.C (Kd.int .i64) w0 A0 l0.length l0) (hc0 : l0.length ≤ c0) (hC : Caps w bv bp bf bm bt g y.length c A0 l0.length c0 x1 x3) (hR : Kd.R (Kd.int .i64) 3 w w0.heap.size (fun k_ => k_ = g) (.slice (some ⟨g, 0, none⟩) y.length c) y) (h : impl_ZeroModulo_1.f k l0 x1 x3 a0 y = some (r, y')),
 Calls Try.prog 92 #[.int .i64 a0, .pointer (some ⟨bv, 0, none⟩), .pointer (some ⟨bp, 0, none⟩), .pointer (some ⟨bf, 0, none⟩), .pointer (some ⟨bm, 0, none⟩), .pointer (some ⟨bt, 0, none⟩)] w fun e w' => e = .returned (.bool r) ∧ y'.length = y.length ∧ Kd.R (Kd.int .i64) 3 w' w0.heap.size (fun k_ => k_ = g) (.slice (some ⟨g, 0, none⟩) y.length c) y' ∧ Below w0.heap.size w0 w' ∧ Kept w w' (fun k_ => k_ = g) := by
 induction k using Nat.strongRecOn with
 | _ k ih =>
 intro A0 c0 l0 x1 x3 a0 y y' r bv bp bf bm bt g c w0 w hB hr0 hc0 hC hR h
 cases k with
 | zero => exact absurd h (by simp [impl_ZeroModulo_1.f])
 | succ k =>
 simp only [impl_ZeroModulo_1.f] at h
 have hv := hC.hv
 have hp := hC.hp
 have hf := hC.hf
 have hm := hC.hm
 have HC := Aside0.mk hC
 have HR := Aside0.mk hR
 have HB := Aside0.mk hB
 have HR0 := Aside0.mk (Kd.C_below hr0 hB)
 have HR00 := Aside0.mk hr0
 have HC0 := Aside0.mk hc0
 clear hC hR hB hr0 hc0
 by_cases c5 : a0 = (y.length : Int)
 · rw [if_pos c5] at h
   subst c5
   obtain ⟨t1, A1, h⟩ := Option.bind_eq_some_iff.mp h
   have A1 := Aside0.mk A1
   by_cases c6 : x1 = 0
   · rw [if_pos c6] at h
     exact absurd h (by simp)
   · rw [if_neg c6] at h
     have c6b0 : (x1 == 0) = false := beq_eq_false_iff_ne.mpr c6
     by_cases c7 : Int.tmod t1 x1 = 0
     · rw [if_pos c7] at h
       have c7b0 : (Int.tmod t1 x1 == 0) = true := beq_iff_eq.mpr c7
       have c7b1 : (Int.tmod t1 x1 != 0) = false := by simp [c7]
       injection h with h
       injection h with h1 h2
       subst h1 h2
       go_enter Try.func92, Try.ntmps92
       go_wp2
       refine start_ (n := 15) (S := (fun w' => w'.cell? ⟨bv, 0, none⟩ = some (.slice (some ⟨g, 0, none⟩) y.length c) ∧ w'.cell? ⟨bp, 0, none⟩ = some (.int .i64 x1) ∧ w'.cell? ⟨bf, 0, none⟩ = some (.slice A0 l0.length c0) ∧ w'.cell? ⟨bm, 0, none⟩ = some (.int .i64 x3))) (ds := []) #[false, false, false, false, false, false, false, false, false, false, false, false, false, false, false] (by kernel_rfl) rfl rfl ⟨hv, hp, hf, hm⟩ (fun hHeld => ?_)
       have HRd := Aside0.mk (Kd.R_drew HR.out)
       have HBd := Aside0.mk (below_drew1 HB.out)
       have HFd := Aside0.mk (Kd.C_drew HR0.out)
       have HKd := Aside0.mk ((Kept.refl w (fun k_ => k_ = g)).drew)
       generalize w.drew = w1 at HRd HBd HFd HKd hHeld ⊢
       refine take_ (i := 0) (N := some 12) (v := ?_) (a' := ?_) #[true, false, false, false, false, false, false, false, false, false, false, false, false, false, false] rfl rfl (by kernel_rfl) (fun _ _ _ h => h) (Or.inl ⟨by rfl, ?_⟩) hHeld ?_ ?_
       rotate_left
       · intro w' ⟨s0, s1, s2, s3⟩
         go_simp
         try with_reducible rfl
       rotate_left
       · simp only [Act.put, List.setIfInBounds_toArray, List.set_cons_zero, List.set_cons_succ, i64_w, i32_w]
         rfl
       refine take_ (i := 2) (N := some 14) (v := ?_) (a' := ?_) #[true, false, true, false, false, false, false, false, false, false, false, false, false, false, false] rfl rfl (by kernel_rfl) (fun _ _ _ h => h) (Or.inl ⟨by rfl, ?_⟩) hHeld ?_ ?_
       rotate_left
       · intro w' ⟨s0, s1, s2, s3⟩
         go_simp
         try with_reducible rfl
       rotate_left
       · simp only [Act.put, List.setIfInBounds_toArray, List.set_cons_zero, List.set_cons_succ, i64_w, i32_w]
         rfl
       refine one_ (i := 1) (N := some 13) #[true, true, true, false, false, false, false, false, false, false, false, false, false, false, false] rfl rfl (by kernel_rfl) (by decide) (fun K hK => ?_)
       refine goes_ Try.func79 (by kernel_rfl) rfl #[.slice (some ⟨g, 0, none⟩) y.length c] (by rfl) rfl rfl (by simp only [List.map_toArray, List.map_cons, List.map_nil]; rfl) ?_
       with_reducible refine (impl_gcd.calls k _ _ y t1 _ ?side1 ?side2 A1.out).mono ?_
       case side1 => exact (Kd.R_reads' HRd.out).2.2
       case side2 => exact (Kd.R_reads' HRd.out).2.1
       rintro e w2 ⟨rfl, hb⟩
       have HS_ := (⟨(hb.cell (World.block_lt_of_cell? _ _ hHeld.1)).trans hHeld.1, (hb.cell (World.block_lt_of_cell? _ _ hHeld.2.1)).trans hHeld.2.1, (hb.cell (World.block_lt_of_cell? _ _ hHeld.2.2.1)).trans hHeld.2.2.1, (hb.cell (World.block_lt_of_cell? _ _ hHeld.2.2.2)).trans hHeld.2.2.2⟩ : _ ∧ _ ∧ _ ∧ _)
       refine ⟨_, rfl, ?_⟩
       have n_ := Aside0.mk (Kd.R_below HRd.out hb)
       clear HRd
       have HRd := n_
       clear n_
       have n_ := Aside0.mk (below_step HBd.out hb)
       clear HBd
       have HBd := n_
       clear n_
       have n_ := Aside0.mk (HKd.out.below hb)
       clear HKd
       have HKd := n_
       clear n_
       have n_ := Aside0.mk (Kd.C_below HFd.out hb)
       clear HFd
       have HFd := n_
       clear n_
       clear hb
       refine hK.out _ _ HS_ (fun hHeld => ?_)
       clear hK K
       refine norm_ (a' := ?_) ?_ ?_
       rotate_left
       · show Act.put _ (some 13) _ = _
         simp only [Act.put, List.setIfInBounds_toArray, List.set_cons_zero, List.set_cons_succ, i64_w, i32_w]
         rfl
       refine pure_ (i := 3) (N := some 15) (v := ?_) (a' := ?_) #[true, true, true, true, false, false, false, false, false, false, false, false, false, false, false] rfl rfl (by kernel_rfl) (fun _ _ _ h => h) (Or.inl ⟨by rfl, ?_⟩) ?_ ?_
       rotate_left
       · intro w'
         go_simp
         try with_reducible rfl
       rotate_left
       · simp only [Act.put, List.setIfInBounds_toArray, List.set_cons_zero, List.set_cons_succ, i64_w, i32_w]
         rfl
       refine pure_ (i := 4) (N := some 16) (v := ?_) (a' := ?_) #[true, true, true, true, true, false, false, false, false, false, false, false, false, false, false] rfl rfl (by kernel_rfl) (fun _ _ _ h => h) (Or.inl ⟨by rfl, ?_⟩) ?_ ?_
       rotate_left
       · intro w'
         go_simp
         try with_reducible rfl
       rotate_left
       · simp only [Act.put, List.setIfInBounds_toArray, List.set_cons_zero, List.set_cons_succ, i64_w, i32_w]
         rfl
       refine pure_ (i := 5) (N := some 17) (v := ?_) (a' := ?_) #[true, true, true, true, true, true, false, false, false, false, false, false, false, false, false] rfl rfl (by kernel_rfl) (fun _ _ _ h => h) (Or.inl ⟨by rfl, ?_⟩) ?_ ?_
       rotate_left
       · intro w'
         go_simp
         try with_reducible rfl
       rotate_left
       · simp only [Act.put, List.setIfInBounds_toArray, List.set_cons_zero, List.set_cons_succ, i64_w, i32_w]
         rfl
       refine pure_ (i := 6) (N := some 18) (v := undef) (a' := ?_) #[true, true, true, true, true, true, true, false, false, false, false, false, false, false, false] rfl rfl (by kernel_rfl) (fun _ _ _ h => h) (Or.inr ⟨by rfl, rfl⟩) ?_ ?_
       rotate_left
       · simp only [Act.put, List.setIfInBounds_toArray, List.set_cons_zero, List.set_cons_succ, i64_w, i32_w]
         rfl
       refine pure_ (i := 7) (N := some 19) (v := undef) (a' := ?_) #[true, true, true, true, true, true, true, true, false, false, false, false, false, false, false] rfl rfl (by kernel_rfl) (fun _ _ _ h => h) (Or.inr ⟨by rfl, rfl⟩) ?_ ?_
       rotate_left
       · simp only [Act.put, List.setIfInBounds_toArray, List.set_cons_zero, List.set_cons_succ, i64_w, i32_w]
         rfl
       refine pure_ (i := 8) (N := some 20) (v := undef) (a' := ?_) #[true, true, true, true, true, true, true, true, true, false, false, false, false, false, false] rfl rfl (by kernel_rfl) (fun _ _ _ h => h) (Or.inr ⟨by rfl, rfl⟩) ?_ ?_
       rotate_left
       · simp only [Act.put, List.setIfInBounds_toArray, List.set_cons_zero, List.set_cons_succ, i64_w, i32_w]
         rfl
       refine pure_ (i := 9) (N := some 21) (v := undef) (a' := ?_) #[true, true, true, true, true, true, true, true, true, true, false, false, false, false, false] rfl rfl (by kernel_rfl) (fun _ _ _ h => h) (Or.inr ⟨by rfl, rfl⟩) ?_ ?_
       rotate_left
       · simp only [Act.put, List.setIfInBounds_toArray, List.set_cons_zero, List.set_cons_succ, i64_w, i32_w]
         rfl
       refine pure_ (i := 10) (N := some 22) (v := undef) (a' := ?_) #[true, true, true, true, true, true, true, true, true, true, true, false, false, false, false] rfl rfl (by kernel_rfl) (fun _ _ _ h => h) (Or.inr ⟨by rfl, rfl⟩) ?_ ?_
       rotate_left
       · simp only [Act.put, List.setIfInBounds_toArray, List.set_cons_zero, List.set_cons_succ, i64_w, i32_w]
         rfl
       refine pure_ (i := 11) (N := some 23) (v := undef) (a' := ?_) #[true, true, true, true, true, true, true, true, true, true, true, true, false, false, false] rfl rfl (by kernel_rfl) (fun _ _ _ h => h) (Or.inr ⟨by rfl, rfl⟩) ?_ ?_
       rotate_left
       · simp only [Act.put, List.setIfInBounds_toArray, List.set_cons_zero, List.set_cons_succ, i64_w, i32_w]
         rfl
       refine pure_ (i := 12) (N := some 24) (v := undef) (a' := ?_) #[true, true, true, true, true, true, true, true, true, true, true, true, true, false, false] rfl rfl (by kernel_rfl) (fun _ _ _ h => h) (Or.inr ⟨by rfl, rfl⟩) ?_ ?_
       rotate_left
       · simp only [Act.put, List.setIfInBounds_toArray, List.set_cons_zero, List.set_cons_succ, i64_w, i32_w]
         rfl
       refine pure_ (i := 13) (N := some 25) (v := ?_) (a' := ?_) #[true, true, true, true, true, true, true, true, true, true, true, true, true, true, false] rfl rfl (by kernel_rfl) (fun _ _ _ h => h) (Or.inl ⟨by rfl, ?_⟩) ?_ ?_
       rotate_left
       · intro w'
         go_simp
         try with_reducible rfl
       rotate_left
       · simp only [Act.put, List.setIfInBounds_toArray, List.set_cons_zero, List.set_cons_succ, i64_w, i32_w]
         rfl
       refine pure_ (i := 14) (N := some 7) (v := ?_) (a' := ?_) #[true, true, true, true, true, true, true, true, true, true, true, true, true, true, true] rfl rfl (by kernel_rfl) (fun _ _ _ h => h) (Or.inl ⟨by rfl, ?_⟩) ?_ ?_
       rotate_left
       · intro w'
         go_simp
         try with_reducible rfl
       rotate_left
       · simp only [Act.put, List.setIfInBounds_toArray, List.set_cons_zero, List.set_cons_succ, i64_w, i32_w]
         rfl
       refine done_ (by kernel_rfl) ?_
       go_wp2
       go_ret
       exact ⟨rfl, by simp, HRd.out, HBd.out, HKd.out⟩
     · rw [if_neg c7] at h
       have c7b0 : (Int.tmod t1 x1 == 0) = false := beq_eq_false_iff_ne.mpr c7
       have c7b1 : (Int.tmod t1 x1 != 0) = true := bne_iff_ne.mpr c7
       obtain ⟨t2, A2, h⟩ := Option.bind_eq_some_iff.mp h
       have A2 := Aside0.mk A2
       by_cases c8 : x3 = 0
       · rw [if_pos c8] at h
         exact absurd h (by simp)
       · rw [if_neg c8] at h
         have c8b0 : (x3 == 0) = false := beq_eq_false_iff_ne.mpr c8
         injection h with h
         injection h with h1 h2
         subst h1 h2
         go_enter Try.func92, Try.ntmps92
         go_wp2
         refine start_ (n := 15) (S := (fun w' => w'.cell? ⟨bv, 0, none⟩ = some (.slice (some ⟨g, 0, none⟩) y.length c) ∧ w'.cell? ⟨bp, 0, none⟩ = some (.int .i64 x1) ∧ w'.cell? ⟨bf, 0, none⟩ = some (.slice A0 l0.length c0) ∧ w'.cell? ⟨bm, 0, none⟩ = some (.int .i64 x3))) (ds := []) #[false, false, false, false, false, false, false, false, false, false, false, false, false, false, false] (by kernel_rfl) rfl rfl ⟨hv, hp, hf, hm⟩ (fun hHeld => ?_)
         have HRd := Aside0.mk (Kd.R_drew HR.out)
         have HBd := Aside0.mk (below_drew1 HB.out)
         have HFd := Aside0.mk (Kd.C_drew HR0.out)
         have HKd := Aside0.mk ((Kept.refl w (fun k_ => k_ = g)).drew)
         generalize w.drew = w1 at HRd HBd HFd HKd hHeld ⊢
         refine take_ (i := 0) (N := some 12) (v := ?_) (a' := ?_) #[true, false, false, false, false, false, false, false, false, false, false, false, false, false, false] rfl rfl (by kernel_rfl) (fun _ _ _ h => h) (Or.inl ⟨by rfl, ?_⟩) hHeld ?_ ?_
         rotate_left
         · intro w' ⟨s0, s1, s2, s3⟩
           go_simp
           try with_reducible rfl
         rotate_left
         · simp only [Act.put, List.setIfInBounds_toArray, List.set_cons_zero, List.set_cons_succ, i64_w, i32_w]
           rfl
         refine take_ (i := 2) (N := some 14) (v := ?_) (a' := ?_) #[true, false, true, false, false, false, false, false, false, false, false, false, false, false, false] rfl rfl (by kernel_rfl) (fun _ _ _ h => h) (Or.inl ⟨by rfl, ?_⟩) hHeld ?_ ?_
         rotate_left
         · intro w' ⟨s0, s1, s2, s3⟩
           go_simp
           try with_reducible rfl
         rotate_left
         · simp only [Act.put, List.setIfInBounds_toArray, List.set_cons_zero, List.set_cons_succ, i64_w, i32_w]
           rfl
         refine one_ (i := 1) (N := some 13) #[true, true, true, false, false, false, false, false, false, false, false, false, false, false, false] rfl rfl (by kernel_rfl) (by decide) (fun K hK => ?_)
         refine goes_ Try.func79 (by kernel_rfl) rfl #[.slice (some ⟨g, 0, none⟩) y.length c] (by rfl) rfl rfl (by simp only [List.map_toArray, List.map_cons, List.map_nil]; rfl) ?_
         with_reducible refine (impl_gcd.calls k _ _ y t1 _ ?side1 ?side2 A1.out).mono ?_
         case side1 => exact (Kd.R_reads' HRd.out).2.2
         case side2 => exact (Kd.R_reads' HRd.out).2.1
         rintro e w2 ⟨rfl, hb⟩
         have HS_ := (⟨(hb.cell (World.block_lt_of_cell? _ _ hHeld.1)).trans hHeld.1, (hb.cell (World.block_lt_of_cell? _ _ hHeld.2.1)).trans hHeld.2.1, (hb.cell (World.block_lt_of_cell? _ _ hHeld.2.2.1)).trans hHeld.2.2.1, (hb.cell (World.block_lt_of_cell? _ _ hHeld.2.2.2)).trans hHeld.2.2.2⟩ : _ ∧ _ ∧ _ ∧ _)
         refine ⟨_, rfl, ?_⟩
         have n_ := Aside0.mk (Kd.R_below HRd.out hb)
         clear HRd
         have HRd := n_
         clear n_
         have n_ := Aside0.mk (below_step HBd.out hb)
         clear HBd
         have HBd := n_
         clear n_
         have n_ := Aside0.mk (HKd.out.below hb)
         clear HKd
         have HKd := n_
         clear n_
         have n_ := Aside0.mk (Kd.C_below HFd.out hb)
         clear HFd
         have HFd := n_
         clear n_
         clear hb
         refine hK.out _ _ HS_ (fun hHeld => ?_)
         clear hK K
         refine norm_ (a' := ?_) ?_ ?_
         rotate_left
         · show Act.put _ (some 13) _ = _
           simp only [Act.put, List.setIfInBounds_toArray, List.set_cons_zero, List.set_cons_succ, i64_w, i32_w]
           rfl
         refine pure_ (i := 3) (N := some 15) (v := ?_) (a' := ?_) #[true, true, true, true, false, false, false, false, false, false, false, false, false, false, false] rfl rfl (by kernel_rfl) (fun _ _ _ h => h) (Or.inl ⟨by rfl, ?_⟩) ?_ ?_
         rotate_left
         · intro w'
           go_simp
           try with_reducible rfl
         rotate_left
         · simp only [Act.put, List.setIfInBounds_toArray, List.set_cons_zero, List.set_cons_succ, i64_w, i32_w]
           rfl
         refine pure_ (i := 4) (N := some 16) (v := ?_) (a' := ?_) #[true, true, true, true, true, false, false, false, false, false, false, false, false, false, false] rfl rfl (by kernel_rfl) (fun _ _ _ h => h) (Or.inl ⟨by rfl, ?_⟩) ?_ ?_
         rotate_left
         · intro w'
           go_simp
           try with_reducible rfl
         rotate_left
         · simp only [Act.put, List.setIfInBounds_toArray, List.set_cons_zero, List.set_cons_succ, i64_w, i32_w]
           rfl
         refine pure_ (i := 5) (N := some 17) (v := ?_) (a' := ?_) #[true, true, true, true, true, true, false, false, false, false, false, false, false, false, false] rfl rfl (by kernel_rfl) (fun _ _ _ h => h) (Or.inl ⟨by rfl, ?_⟩) ?_ ?_
         rotate_left
         · intro w'
           go_simp
           try with_reducible rfl
         rotate_left
         · simp only [Act.put, List.setIfInBounds_toArray, List.set_cons_zero, List.set_cons_succ, i64_w, i32_w]
           rfl
         refine take_ (i := 6) (N := some 18) (v := ?_) (a' := ?_) #[true, true, true, true, true, true, true, false, false, false, false, false, false, false, false] rfl rfl (by kernel_rfl) (fun _ _ _ h => h) (Or.inl ⟨by rfl, ?_⟩) hHeld ?_ ?_
         rotate_left
         · intro w' ⟨s0, s1, s2, s3⟩
           go_simp
           try with_reducible rfl
         rotate_left
         · simp only [Act.put, List.setIfInBounds_toArray, List.set_cons_zero, List.set_cons_succ, i64_w, i32_w]
           rfl
         refine take_ (i := 7) (N := some 19) (v := ?_) (a' := ?_) #[true, true, true, true, true, true, true, true, false, false, false, false, false, false, false] rfl rfl (by kernel_rfl) (fun _ _ _ h => h) (Or.inl ⟨by rfl, ?_⟩) hHeld ?_ ?_
         rotate_left
         · intro w' ⟨s0, s1, s2, s3⟩
           go_simp
           try with_reducible rfl
         rotate_left
         · simp only [Act.put, List.setIfInBounds_toArray, List.set_cons_zero, List.set_cons_succ, i64_w, i32_w]
           rfl
         refine take_ (i := 8) (N := some 20) (v := ?_) (a' := ?_) #[true, true, true, true, true, true, true, true, true, false, false, false, false, false, false] rfl rfl (by kernel_rfl) (fun _ _ _ h => h) (Or.inl ⟨by rfl, ?_⟩) hHeld ?_ ?_
         rotate_left
         · intro w' ⟨s0, s1, s2, s3⟩
           go_simp
           try with_reducible rfl
         rotate_left
         · simp only [Act.put, List.setIfInBounds_toArray, List.set_cons_zero, List.set_cons_succ, i64_w, i32_w]
           rfl
         refine take_ (i := 10) (N := some 22) (v := ?_) (a' := ?_) #[true, true, true, true, true, true, true, true, true, false, true, false, false, false, false] rfl rfl (by kernel_rfl) (fun _ _ _ h => h) (Or.inl ⟨by rfl, ?_⟩) hHeld ?_ ?_
         rotate_left
         · intro w' ⟨s0, s1, s2, s3⟩
           go_simp
           try with_reducible rfl
         rotate_left
         · simp only [Act.put, List.setIfInBounds_toArray, List.set_cons_zero, List.set_cons_succ, i64_w, i32_w]
           rfl
         refine one_ (i := 9) (N := some 21) #[true, true, true, true, true, true, true, true, true, true, true, false, false, false, false] rfl rfl (by kernel_rfl) (by decide) (fun K hK => ?_)
         refine goes_ Try.func83 (by kernel_rfl) rfl #[.slice A0 l0.length c0, .slice (some ⟨g, 0, none⟩) y.length c, .slice (some ⟨g, 0, none⟩) y.length c] (by rfl) rfl rfl (by simp only [List.map_toArray, List.map_cons, List.map_nil]; rfl) ?_
         with_reducible refine (impl_pair.calls k _ _ l0 _ _ y _ _ y t2 _ ?side1 ?side2 ?side3 ?side4 ?side5 ?side6 A2.out).mono ?_
         case side1 => exact HFd.out
         case side2 => exact HC0.out
         case side3 => exact (Kd.R_reads' HRd.out).2.2
         case side4 => exact (Kd.R_reads' HRd.out).2.1
         case side5 => exact (Kd.R_reads' HRd.out).2.2
         case side6 => exact (Kd.R_reads' HRd.out).2.1
         rintro e w3_ ⟨rfl, ⟨nd_, rfl⟩⟩
         have hb := pw_below_drewN (Below.refl w2.heap.size w2) nd_
         have HS_ := (⟨(hb.cell (World.block_lt_of_cell? _ _ hHeld.1)).trans hHeld.1, (hb.cell (World.block_lt_of_cell? _ _ hHeld.2.1)).trans hHeld.2.1, (hb.cell (World.block_lt_of_cell? _ _ hHeld.2.2.1)).trans hHeld.2.2.1, (hb.cell (World.block_lt_of_cell? _ _ hHeld.2.2.2)).trans hHeld.2.2.2⟩ : _ ∧ _ ∧ _ ∧ _)
         refine ⟨_, rfl, ?_⟩
         have n_ := Aside0.mk (Kd.R_below HRd.out hb)
         clear HRd
         have HRd := n_
         clear n_
         have n_ := Aside0.mk (below_step HBd.out hb)
         clear HBd
         have HBd := n_
         clear n_
         have n_ := Aside0.mk (HKd.out.below hb)
         clear HKd
         have HKd := n_
         clear n_
         have n_ := Aside0.mk (Kd.C_below HFd.out hb)
         clear HFd
         have HFd := n_
         clear n_
         clear hb
         refine hK.out _ _ HS_ (fun hHeld => ?_)
         clear hK K
         refine norm_ (a' := ?_) ?_ ?_
         rotate_left
         · show Act.put _ (some 21) _ = _
           simp only [Act.put, List.setIfInBounds_toArray, List.set_cons_zero, List.set_cons_succ, i64_w, i32_w]
           rfl
         refine pure_ (i := 11) (N := some 23) (v := ?_) (a' := ?_) #[true, true, true, true, true, true, true, true, true, true, true, true, false, false, false] rfl rfl (by kernel_rfl) (fun _ _ _ h => h) (Or.inl ⟨by rfl, ?_⟩) ?_ ?_
         rotate_left
         · intro w'
           go_simp
           try with_reducible rfl
         rotate_left
         · simp only [Act.put, List.setIfInBounds_toArray, List.set_cons_zero, List.set_cons_succ, i64_w, i32_w]
           rfl
         refine pure_ (i := 12) (N := some 24) (v := ?_) (a' := ?_) #[true, true, true, true, true, true, true, true, true, true, true, true, true, false, false] rfl rfl (by kernel_rfl) (fun _ _ _ h => h) (Or.inl ⟨by rfl, ?_⟩) ?_ ?_
         rotate_left
         · intro w'
           go_simp
           try with_reducible rfl
         rotate_left
         · simp only [Act.put, List.setIfInBounds_toArray, List.set_cons_zero, List.set_cons_succ, i64_w, i32_w]
           rfl
         refine pure_ (i := 13) (N := some 25) (v := ?_) (a' := ?_) #[true, true, true, true, true, true, true, true, true, true, true, true, true, true, false] rfl rfl (by kernel_rfl) (fun _ _ _ h => h) (Or.inl ⟨by rfl, ?_⟩) ?_ ?_
         rotate_left
         · intro w'
           go_simp
           try with_reducible rfl
         rotate_left
         · simp only [Act.put, List.setIfInBounds_toArray, List.set_cons_zero, List.set_cons_succ, i64_w, i32_w]
           rfl
         refine pure_ (i := 14) (N := some 7) (v := ?_) (a' := ?_) #[true, true, true, true, true, true, true, true, true, true, true, true, true, true, true] rfl rfl (by kernel_rfl) (fun _ _ _ h => h) (Or.inl ⟨by rfl, ?_⟩) ?_ ?_
         rotate_left
         · intro w'
           go_simp
           try with_reducible rfl
         rotate_left
         · simp only [Act.put, List.setIfInBounds_toArray, List.set_cons_zero, List.set_cons_succ, i64_w, i32_w]
           rfl
         refine done_ (by kernel_rfl) ?_
         go_wp2
         go_ret
         exact ⟨by first | rfl | simp, by simp, HRd.out, HBd.out, HKd.out⟩
 · rw [if_neg c5] at h
   have c5b0 : (a0 == (y.length : Int)) = false := beq_eq_false_iff_ne.mpr c5
   have c5b1 : (a0 != (y.length : Int)) = true := bne_iff_ne.mpr c5
   by_cases c6 : 0 ≤ a0
   · rw [if_pos c6] at h
     by_cases c7 : a0 < (y.length : Int)
     · rw [if_pos c7] at h
       obtain ⟨hx_0, hf_0⟩ := Kd.R_celln (0 : Int) HR.out a0 c6 c7
       have HP := Kd.R_putg HR.out a0 (0 : Int)
       have HG : Aside0 (w0.heap.size ≤ g) := by
        obtain ⟨g_, c_, e_, hg_, _⟩ := Kd.R_form HR.out (by omega)
        injection e_ with e_
        injection e_ with e_
        injection e_ with e_
        subst e_
        exact ⟨hg_⟩
       have H := Aside0.mk h
       clear h
       have p6 := eq_true c6
       have q6 := eq_true c7
       go_enter Try.func92, Try.ntmps92
       go_wp2_with (first | ((with_reducible refine gate_store (t := 3) (p := 28) rfl ?_); refine store_event (t := 3) (p := 28) (v := ?vo_w1) (w1 := (w.setCell ⟨g, (a0 : Int).toNat, none⟩ (.int .i64 0))) ?hg ?ho ?hn ?hr ?_; (case ho => rfl); (case hg => rfl); (case hn => rfl); (case hr => first | (go_simp; done) | (go_simp; rfl)); intro w1 hw))
       have hg1 : w.grownBy w1 (some g) := by rw [hw]; exact HP.2
       have HR1 : Aside0 (Kd.R (Kd.int .i64) 3 w1 w0.heap.size (fun k_ => k_ = g) (.slice (some ⟨g, 0, none⟩) y.length c) (y.set (a0 : Int).toNat 0)) := ⟨by rw [hw]; exact HP.1⟩
       have HB1 : Aside0 (Below w0.heap.size w0 w1) := ⟨by rw [hw]; exact below_set HB.out HG.out⟩
       have HK1 := Aside0.mk (Kept.of_grown hg1 (Kept.refl w (fun k_ => k_ = g)) (fun k_ hk => .inl (Option.some.inj hk).symm))
       clear hg1 hw HP hx_0 hf_0
       go_loopg [] k (fun kq w' => ∃ (x_1 : List Int), Aside0 (x_1.length = y.length) ∧ Aside0 (impl_ZeroModulo_1.l0 kq l0 x1 x3 a0 x_1 = some (r, y')) ∧ Aside0 (kq ≤ k) ∧ Aside0 (Kd.R (Kd.int .i64) 3 w' w0.heap.size (fun k_ => k_ = g) (.slice (some ⟨g, 0, none⟩) y.length c) x_1) ∧ Aside0 (Below w0.heap.size w0 w') ∧ Aside0 (Kept w w' (fun k_ => k_ = g)))
       case atStart => exact ⟨_, ⟨by simp⟩, H, ⟨Nat.le_refl _⟩, HR1, HB1, HK1⟩
       case round =>
        clear H HR1 HB1 HK1
        obtain ⟨x_1, HL, HA, HK2, HR1, HB1, HK1⟩ := hrel
        cases gk with
        | zero => exact absurd HA.out (by simp [impl_ZeroModulo_1.l0])
        | succ k1 =>
         have H := HA.out
         clear HA
         simp only [impl_ZeroModulo_1.l0] at H
         rw [if_pos c6, if_pos (show a0 < (x_1.length : Int) by have := HL.out; omega)] at H
         have hk1 : k1 < k + 1 := by have := HK2.out; omega
         have C1 := Aside0.mk (HC.out.kept HK1.out)
         have hv1 := C1.out.hv
         have hm1 := C1.out.hm
         have ht1 := C1.out.ht
         obtain ⟨hx_, hf_⟩ := Kd.R_celln (0 : Int) HR1.out a0 c6 c7
         have hx_1 : wr.cell? ⟨g, (a0 : Int).toNat, none⟩ = some (.int .i64 (rd x_1 a0)) := hx_
         clear hx_ hv hp hf hm
         by_cases d : rd x_1 a0 < x3
         · rw [if_pos d] at H
           have db0 : decide (rd x_1 a0 < x3) = true := decide_eq_true d
           obtain ⟨⟨b, z⟩, A3, H⟩ := Option.bind_eq_some_iff.mp H
           have A3 := Aside0.mk A3
           dsimp only at H
           by_cases e1 : z.length = x_1.length
           · rw [if_pos e1] at H
             cases b with
             | true =>
              rw [if_pos rfl] at H
              injection H with H
              injection H with h1 h2
              subst h1 h2
              go_wp2
              refine start_ (n := 6) (S := (fun w' => w'.cell? ⟨bv, 0, none⟩ = some (.slice (some ⟨g, 0, none⟩) y.length c) ∧ w'.cell? ⟨g, (a0 : Int).toNat, none⟩ = some (.int .i64 (rd x_1 a0)) ∧ w'.cell? ⟨bm, 0, none⟩ = some (.int .i64 x3))) (ds := []) #[false, false, false, false, false, false] (by kernel_rfl) rfl rfl ⟨hv1, hx_1, hm1⟩ (fun hHeld => ?_)
              refine take_ (i := 0) (N := some 29) (v := ?_) (a' := ?_) #[true, false, false, false, false, false] rfl rfl (by kernel_rfl) (fun _ _ _ h => h) (Or.inl ⟨by rfl, ?_⟩) hHeld ?_ ?_
              rotate_left
              · intro w' ⟨s0, s1, s2⟩
                go_simp
                try with_reducible rfl
              rotate_left
              · simp only [Act.put, List.setIfInBounds_toArray, List.set_cons_zero, List.set_cons_succ, i64_w, i32_w]
                rfl
              refine pure_ (i := 1) (N := some 30) (v := ?_) (a' := ?_) #[true, true, false, false, false, false] rfl rfl (by kernel_rfl) (fun _ _ _ h => h) (Or.inl ⟨by rfl, ?_⟩) ?_ ?_
              rotate_left
              · intro w'
                go_simp
                try with_reducible rfl
              rotate_left
              · simp only [Act.put, List.setIfInBounds_toArray, List.set_cons_zero, List.set_cons_succ, i64_w, i32_w]
                rfl
              refine pure_ (i := 2) (N := some 31) (v := ?_) (a' := ?_) #[true, true, true, false, false, false] rfl rfl (by kernel_rfl) (fun _ _ _ h => h) (Or.inl ⟨by rfl, ?_⟩) ?_ ?_
              rotate_left
              · intro w'
                go_simp
                try with_reducible rfl
              rotate_left
              · simp only [Act.put, List.setIfInBounds_toArray, List.set_cons_zero, List.set_cons_succ, i64_w, i32_w]
                rfl
              refine take_ (i := 3) (N := some 32) (v := ?_) (a' := ?_) #[true, true, true, true, false, false] rfl rfl (by kernel_rfl) (fun _ _ _ h => h) (Or.inl ⟨by rfl, ?_⟩) hHeld ?_ ?_
              rotate_left
              · intro w' ⟨s0, s1, s2⟩
                go_simp
                try with_reducible rfl
              rotate_left
              · simp only [Act.put, List.setIfInBounds_toArray, List.set_cons_zero, List.set_cons_succ, i64_w, i32_w]
                rfl
              refine take_ (i := 4) (N := some 33) (v := ?_) (a' := ?_) #[true, true, true, true, true, false] rfl rfl (by kernel_rfl) (fun _ _ _ h => h) (Or.inl ⟨by rfl, ?_⟩) hHeld ?_ ?_
              rotate_left
              · intro w' ⟨s0, s1, s2⟩
                go_simp
                try with_reducible rfl
              rotate_left
              · simp only [Act.put, List.setIfInBounds_toArray, List.set_cons_zero, List.set_cons_succ, i64_w, i32_w]
                rfl
              refine pure_ (i := 5) (N := some 34) (v := ?_) (a' := ?_) #[true, true, true, true, true, true] rfl rfl (by kernel_rfl) (fun _ _ _ h => h) (Or.inl ⟨by rfl, ?_⟩) ?_ ?_
              rotate_left
              · intro w'
                go_simp
                try with_reducible rfl
              rotate_left
              · simp only [Act.put, List.setIfInBounds_toArray, List.set_cons_zero, List.set_cons_succ, i64_w, i32_w]
                rfl
              refine done_ (by kernel_rfl) ?_
              go_wp2_with (first | (go_at_call 92; (with_reducible refine (ih k1 hk1 A0 c0 l0 x1 x3 _ x_1 z true bv bp bf bm bt g c w0 _ ?side1 HR00.out HC0.out ?side2 ?side3 A3.out).mono ?_); (case side1 => first | exact HB1.out | exact below_drew1 HB1.out); (case side2 => rw [HL.out]; first | exact C1.out | exact C1.out.kept (Kept.refl wr (fun k_ => k_ = g)).drew); (case side3 => rw [HL.out]; first | exact HR1.out | exact Kd.R_drew HR1.out); rintro e w2 ⟨rfl, hl2, hr2, hb2, hk2⟩))
              go_ret
              exact ⟨rfl, by rw [e1]; exact HL.out, by rw [← HL.out]; exact hr2, hb2, HK1.out.drew.then_ hk2 (fun _ h_ => .inl h_)⟩
             | false =>
              rw [if_neg (by decide)] at H
              have H := Aside0.mk H
              go_wp2
              refine start_ (n := 6) (S := (fun w' => w'.cell? ⟨bv, 0, none⟩ = some (.slice (some ⟨g, 0, none⟩) y.length c) ∧ w'.cell? ⟨g, (a0 : Int).toNat, none⟩ = some (.int .i64 (rd x_1 a0)) ∧ w'.cell? ⟨bm, 0, none⟩ = some (.int .i64 x3))) (ds := []) #[false, false, false, false, false, false] (by kernel_rfl) rfl rfl ⟨hv1, hx_1, hm1⟩ (fun hHeld => ?_)
              refine take_ (i := 0) (N := some 29) (v := ?_) (a' := ?_) #[true, false, false, false, false, false] rfl rfl (by kernel_rfl) (fun _ _ _ h => h) (Or.inl ⟨by rfl, ?_⟩) hHeld ?_ ?_
              rotate_left
              · intro w' ⟨s0, s1, s2⟩
                go_simp
                try with_reducible rfl
              rotate_left
              · simp only [Act.put, List.setIfInBounds_toArray, List.set_cons_zero, List.set_cons_succ, i64_w, i32_w]
                rfl
              refine pure_ (i := 1) (N := some 30) (v := ?_) (a' := ?_) #[true, true, false, false, false, false] rfl rfl (by kernel_rfl) (fun _ _ _ h => h) (Or.inl ⟨by rfl, ?_⟩) ?_ ?_
              rotate_left
              · intro w'
                go_simp
                try with_reducible rfl
              rotate_left
              · simp only [Act.put, List.setIfInBounds_toArray, List.set_cons_zero, List.set_cons_succ, i64_w, i32_w]
                rfl
              refine pure_ (i := 2) (N := some 31) (v := ?_) (a' := ?_) #[true, true, true, false, false, false] rfl rfl (by kernel_rfl) (fun _ _ _ h => h) (Or.inl ⟨by rfl, ?_⟩) ?_ ?_
              rotate_left
              · intro w'
                go_simp
                try with_reducible rfl
              rotate_left
              · simp only [Act.put, List.setIfInBounds_toArray, List.set_cons_zero, List.set_cons_succ, i64_w, i32_w]
                rfl
              refine take_ (i := 3) (N := some 32) (v := ?_) (a' := ?_) #[true, true, true, true, false, false] rfl rfl (by kernel_rfl) (fun _ _ _ h => h) (Or.inl ⟨by rfl, ?_⟩) hHeld ?_ ?_
              rotate_left
              · intro w' ⟨s0, s1, s2⟩
                go_simp
                try with_reducible rfl
              rotate_left
              · simp only [Act.put, List.setIfInBounds_toArray, List.set_cons_zero, List.set_cons_succ, i64_w, i32_w]
                rfl
              refine take_ (i := 4) (N := some 33) (v := ?_) (a' := ?_) #[true, true, true, true, true, false] rfl rfl (by kernel_rfl) (fun _ _ _ h => h) (Or.inl ⟨by rfl, ?_⟩) hHeld ?_ ?_
              rotate_left
              · intro w' ⟨s0, s1, s2⟩
                go_simp
                try with_reducible rfl
              rotate_left
              · simp only [Act.put, List.setIfInBounds_toArray, List.set_cons_zero, List.set_cons_succ, i64_w, i32_w]
                rfl
              refine pure_ (i := 5) (N := some 34) (v := ?_) (a' := ?_) #[true, true, true, true, true, true] rfl rfl (by kernel_rfl) (fun _ _ _ h => h) (Or.inl ⟨by rfl, ?_⟩) ?_ ?_
              rotate_left
              · intro w'
                go_simp
                try with_reducible rfl
              rotate_left
              · simp only [Act.put, List.setIfInBounds_toArray, List.set_cons_zero, List.set_cons_succ, i64_w, i32_w]
                rfl
              refine done_ (by kernel_rfl) ?_
              go_wp2_with (first | (go_at_call 92; (with_reducible refine (ih k1 hk1 A0 c0 l0 x1 x3 _ x_1 z false bv bp bf bm bt g c w0 _ ?side1 HR00.out HC0.out ?side2 ?side3 A3.out).mono ?_); (case side1 => first | exact HB1.out | exact below_drew1 HB1.out); (case side2 => rw [HL.out]; first | exact C1.out | exact C1.out.kept (Kept.refl wr (fun k_ => k_ = g)).drew); (case side3 => rw [HL.out]; first | exact HR1.out | exact Kd.R_drew HR1.out); rintro e w2 ⟨rfl, hl2, hr2, hb2, hk2⟩; have C2 := Aside0.mk ((C1.out.kept (Kept.refl wr (fun k_ => k_ = g)).drew).kept hk2); have hv2 := C2.out.hv; have HR2 : Aside0 (Kd.R (Kd.int .i64) 3 w2 w0.heap.size (fun k_ => k_ = g) (.slice (some ⟨g, 0, none⟩) y.length c) z) := ⟨by rw [← HL.out]; exact hr2⟩; have HX2 := Aside0.mk (Kd.R_celln (0 : Int) HR2.out a0 c6 c7); have hx2 : w2.cell? ⟨g, (a0 : Int).toNat, none⟩ = some (.int .i64 (rd z a0)) := HX2.out.1; have hf2 := HX2.out.2; have HP2 := Aside0.mk (Kd.R_putg HR2.out a0 (wrap64 (rd z a0 + 1))); have HB2 := Aside0.mk hb2; have HK3 := Aside0.mk (HK1.out.drew.then_ hk2 (fun _ h_ => .inl h_)); have HL2 := Aside0.mk hl2; clear hr2 hb2 hk2 hl2) | ((with_reducible refine gate_store (t := 3) (p := 40) rfl ?_); refine store_event (t := 3) (p := 40) (v := ?vo_w3) (w1 := (w2.setCell ⟨g, (a0 : Int).toNat, none⟩ (.int .i64 (wrap64 (rd z a0 + 1))))) ?hg ?ho ?hn ?hr ?_; (case ho => rfl); (case hg => rfl); (case hn => rfl); (case hr => first | (go_simp; done) | (go_simp; rfl)); intro w3 hw))
              have hg3 : w2.grownBy w3 (some g) := by rw [hw]; exact HP2.out.2
              have HR3 : Aside0 (Kd.R (Kd.int .i64) 3 w3 w0.heap.size (fun k_ => k_ = g) (.slice (some ⟨g, 0, none⟩) y.length c) (z.set (a0 : Int).toNat (wrap64 (rd z a0 + 1)))) := ⟨by rw [hw]; exact HP2.out.1⟩
              have HB3 : Aside0 (Below w0.heap.size w0 w3) := ⟨by rw [hw]; exact below_set HB2.out HG.out⟩
              have HK4 := Aside0.mk (Kept.of_grown hg3 HK3.out (fun k_ hk => .inl (Option.some.inj hk).symm))
              go_roundg k1
              case measure => have := HK2.out; omega
              case rel => exact ⟨_, ⟨by rw [List.length_set, HL2.out, HL.out]⟩, H, ⟨by have := HK2.out; omega⟩, HR3, HB3, HK4⟩
           · rw [if_neg e1] at H
             exact absurd H (by simp)
         · rw [if_neg d] at H
           have db0 : decide (rd x_1 a0 < x3) = false := decide_eq_false d
           injection H with H
           injection H with h1 h2
           subst h1 h2
           go_wp2
           refine start_ (n := 6) (S := (fun w' => w'.cell? ⟨bv, 0, none⟩ = some (.slice (some ⟨g, 0, none⟩) y.length c) ∧ w'.cell? ⟨g, (a0 : Int).toNat, none⟩ = some (.int .i64 (rd x_1 a0)) ∧ w'.cell? ⟨bm, 0, none⟩ = some (.int .i64 x3))) (ds := []) #[false, false, false, false, false, false] (by kernel_rfl) rfl rfl ⟨hv1, hx_1, hm1⟩ (fun hHeld => ?_)
           refine take_ (i := 0) (N := some 29) (v := ?_) (a' := ?_) #[true, false, false, false, false, false] rfl rfl (by kernel_rfl) (fun _ _ _ h => h) (Or.inl ⟨by rfl, ?_⟩) hHeld ?_ ?_
           rotate_left
           · intro w' ⟨s0, s1, s2⟩
             go_simp
             try with_reducible rfl
           rotate_left
           · simp only [Act.put, List.setIfInBounds_toArray, List.set_cons_zero, List.set_cons_succ, i64_w, i32_w]
             rfl
           refine pure_ (i := 1) (N := some 30) (v := ?_) (a' := ?_) #[true, true, false, false, false, false] rfl rfl (by kernel_rfl) (fun _ _ _ h => h) (Or.inl ⟨by rfl, ?_⟩) ?_ ?_
           rotate_left
           · intro w'
             go_simp
             try with_reducible rfl
           rotate_left
           · simp only [Act.put, List.setIfInBounds_toArray, List.set_cons_zero, List.set_cons_succ, i64_w, i32_w]
             rfl
           refine pure_ (i := 2) (N := some 31) (v := ?_) (a' := ?_) #[true, true, true, false, false, false] rfl rfl (by kernel_rfl) (fun _ _ _ h => h) (Or.inl ⟨by rfl, ?_⟩) ?_ ?_
           rotate_left
           · intro w'
             go_simp
             try with_reducible rfl
           rotate_left
           · simp only [Act.put, List.setIfInBounds_toArray, List.set_cons_zero, List.set_cons_succ, i64_w, i32_w]
             rfl
           refine take_ (i := 3) (N := some 32) (v := ?_) (a' := ?_) #[true, true, true, true, false, false] rfl rfl (by kernel_rfl) (fun _ _ _ h => h) (Or.inl ⟨by rfl, ?_⟩) hHeld ?_ ?_
           rotate_left
           · intro w' ⟨s0, s1, s2⟩
             go_simp
             try with_reducible rfl
           rotate_left
           · simp only [Act.put, List.setIfInBounds_toArray, List.set_cons_zero, List.set_cons_succ, i64_w, i32_w]
             rfl
           refine take_ (i := 4) (N := some 33) (v := ?_) (a' := ?_) #[true, true, true, true, true, false] rfl rfl (by kernel_rfl) (fun _ _ _ h => h) (Or.inl ⟨by rfl, ?_⟩) hHeld ?_ ?_
           rotate_left
           · intro w' ⟨s0, s1, s2⟩
             go_simp
             try with_reducible rfl
           rotate_left
           · simp only [Act.put, List.setIfInBounds_toArray, List.set_cons_zero, List.set_cons_succ, i64_w, i32_w]
             rfl
           refine pure_ (i := 5) (N := some 34) (v := ?_) (a' := ?_) #[true, true, true, true, true, true] rfl rfl (by kernel_rfl) (fun _ _ _ h => h) (Or.inl ⟨by rfl, ?_⟩) ?_ ?_
           rotate_left
           · intro w'
             go_simp
             try with_reducible rfl
           rotate_left
           · simp only [Act.put, List.setIfInBounds_toArray, List.set_cons_zero, List.set_cons_succ, i64_w, i32_w]
             rfl
           refine done_ (by kernel_rfl) ?_
           go_wp2
           go_ret
           exact ⟨rfl, HL.out, Kd.R_drew HR1.out, below_drew1 HB1.out, HK1.out.drew⟩
     · rw [if_neg c7] at h
       exact absurd h (by simp)
   · rw [if_neg c6] at h
     exact absurd h (by simp)
def impl_ZeroModulo.f (k : Nat) (l0 : List Int) (a1 : Int) (a2 : Int) : Option (Bool) := (impl_FormValid.f k l0).bind fun t0 => (if t0 = true then (if (l0.length : Int) > 3 then (some false) else ((impl_PrimeIs.f k a1).bind fun t1 => (if t1 = true then (if a2 < 1 then (some false) else (if a2 > 5 then (some false) else ((impl_power.f k a1 a2).bind fun t2 => (if t2 > 32 then (some false) else (if l0.length = 0 then (none) else ((impl_ZeroModulo_1.f k l0 a1 t2 0 (List.replicate l0.length 0)).bind fun t3 => (some t3.1))))))) else (some false)))) else (some false))
theorem impl_ZeroModulo.mono : ∀ a0 a1 a2 k, LeO (impl_ZeroModulo.f k a0 a1 a2) (impl_ZeroModulo.f (k + 1) a0 a1 a2) := by
 intro a0 a1 a2 k
 unfold impl_ZeroModulo.f
 repeat' first
 | (with_reducible exact impl_FormValid.mono _ _)
 | (with_reducible exact impl_PrimeIs.mono _ _)
 | (with_reducible exact impl_power.mono _ _ _)
 | (with_reducible exact (impl_ZeroModulo_1.mono_l _).2 _ _ _ _ _)
 | (with_reducible exact LeO.refl _)
 | (with_reducible exact LeO.none _)
 | (with_reducible refine LeO.ite ?_ ?_)
 | (with_reducible refine LeO.bind ?_ (fun _ => ?_))
theorem al_cell {w : World} {a : Addr} {v : Value} (h : w.cell? a = some v) (o : Obj) : (w.alloc o).cell? a = some v := ((below_alloc (Below.refl w.heap.size w) o).cell (World.block_lt_of_cell? _ _ h)).trans h
theorem dr_cell {w w' : World} {a : Addr} {v : Value} (hd : Drawn0 w w') (h : w.cell? a = some v) : w'.cell? a = some v := by obtain ⟨nd, rfl⟩ := hd; exact h
theorem dr_below {b : Nat} {w0 w w' : World} (hd : Drawn0 w w') (h : Below b w0 w) : Below b w0 w' := by obtain ⟨nd, rfl⟩ := hd; exact pw_below_drewN h _
theorem dr_size {n : Nat} {w w' : World} (hd : Drawn0 w w') (h : n ≤ w.heap.size) : n ≤ w'.heap.size := by obtain ⟨nd, rfl⟩ := hd; exact h
theorem R_self {e base g n c : Nat} {w : World} {ok : Nat → Prop} {xs : List Int} (h : (Kd.int .i64).R e w base ok (.slice (some ⟨g, 0, none⟩) n c) xs) : (Kd.int .i64).R e w base (fun k_ => k_ = g) (.slice (some ⟨g, 0, none⟩) n c) xs :=
 ⟨fun k hk => by simpa [Value.ownBlock] using hk.symm, h.2.imp_ (fun _ _ hp => hp)⟩
theorem make_form {b n0 : Nat} {w5 : World} {v1 : Value} (hl0 : 0 < n0) (ho : Kd.R (Kd.int .i64) 3 w5 b (fun _ => True) v1 (List.replicate ((n0 : Int)).toNat 0)) : ∃ g cc, v1 = .slice (some ⟨g, 0, none⟩) n0 cc ∧ b ≤ g ∧ Kd.R (Kd.int .i64) 3 w5 b (fun k_ => k_ = g) (.slice (some ⟨g, 0, none⟩) n0 cc) (List.replicate n0 0) := by
 rw [Int.toNat_natCast] at ho
 obtain ⟨g, cc, e1, hg1, hg2, _⟩ := Kd.R_form ho (by rw [List.length_replicate]; exact hl0)
 rw [List.length_replicate] at e1
 subst e1
 exact ⟨g, cc, rfl, hg1, R_self ho⟩
theorem make_facts {w w4 w5 : World} {t2 a1 : Int} {u : Value} {g n cc : Nat} {xs : List Int} (hf2 : w4.cell? ⟨w.heap.size, 0, none⟩ = some u) (hp2 : w4.cell? ⟨w.heap.size + 1, 0, none⟩ = some (.int .i64 a1)) (HB2 : Below w.heap.size w w4) (hb : Below (w4.alloc (.cells #[.int .i64 t2] 3)).heap.size (w4.alloc (.cells #[.int .i64 t2] 3)) w5) (hg1 : (w4.alloc (.cells #[.int .i64 t2] 3)).heap.size ≤ g) (ho : Kd.R (Kd.int .i64) 3 w5 (w4.alloc (.cells #[.int .i64 t2] 3)).heap.size (fun k_ => k_ = g) (.slice (some ⟨g, 0, none⟩) n cc) xs) :
 w4.heap.size + 1 ≤ g ∧ w5.cell? ⟨w.heap.size, 0, none⟩ = some u ∧ w5.cell? ⟨w.heap.size + 1, 0, none⟩ = some (.int .i64 a1) ∧ w5.cell? ⟨w4.heap.size, 0, none⟩ = some (.int .i64 t2) ∧ Aside0 (Below w.heap.size w w5) ∧ Aside0 (Kd.R (Kd.int .i64) 3 w5 w.heap.size (fun k_ => k_ = g) (.slice (some ⟨g, 0, none⟩) n cc) xs) ∧ w.heap.size < w5.heap.size ∧ w.heap.size + 1 < w5.heap.size ∧ w4.heap.size < w5.heap.size := by
 have e : (w4.alloc (.cells #[.int .i64 t2] 3)).heap.size = w4.heap.size + 1 := by simp
 have hf5 := (hb.cell (World.block_lt_of_cell? _ _ (al_cell hf2 _))).trans (al_cell hf2 _)
 have hp5 := (hb.cell (World.block_lt_of_cell? _ _ (al_cell hp2 _))).trans (al_cell hp2 _)
 have hm5 : w5.cell? ⟨w4.heap.size, 0, none⟩ = some (.int .i64 t2) := (hb.cell (by rw [e]; exact Nat.lt_succ_self _)).trans (by go_simp)
 refine ⟨by rw [e] at hg1; exact hg1, hf5, hp5, hm5, ⟨below_step (below_alloc HB2 _) hb⟩, ⟨Kd.R_lower ho (by rw [e]; have := HB2.size; omega)⟩, World.block_lt_of_cell? _ _ hf5, World.block_lt_of_cell? _ _ hp5, World.block_lt_of_cell? _ _ hm5⟩
theorem make_caps {w w4 w5 : World} {t2 a1 : Int} {A0 : Option Addr} {g n cc n0 c0 : Nat} {xs : List Int} (hS : w.heap.size + 2 ≤ w4.heap.size) (hg3 : w4.heap.size + 1 ≤ g) (hf5 : w5.cell? ⟨w.heap.size, 0, none⟩ = some (.slice A0 n0 c0)) (hp5 : w5.cell? ⟨w.heap.size + 1, 0, none⟩ = some (.int .i64 a1)) (hm5 : w5.cell? ⟨w4.heap.size, 0, none⟩ = some (.int .i64 t2)) (ho : Kd.R (Kd.int .i64) 3 w5 w.heap.size (fun k_ => k_ = g) (.slice (some ⟨g, 0, none⟩) n cc) xs) :
 Caps ((w5.alloc (.cells #[.slice (some ⟨g, 0, none⟩) n cc] 23)).alloc (.cells #[.func (.func 92) #[] #[.pointer (some ⟨w5.heap.size, 0, none⟩), .pointer (some ⟨w.heap.size + 1, 0, none⟩), .pointer (some ⟨w.heap.size, 0, none⟩), .pointer (some ⟨w4.heap.size, 0, none⟩), .pointer (some ⟨w5.heap.size + 1, 0, none⟩)]] 62)) w5.heap.size (w.heap.size + 1) w.heap.size w4.heap.size (w5.heap.size + 1) g n cc A0 n0 c0 a1 t2 := by
 have hg : g < w5.heap.size := Kd.R_lt ho g (by simp [Value.ownBlock])
 refine ⟨al_cell (by go_simp) _, al_cell (al_cell hp5 _) _, al_cell (al_cell hf5 _) _, al_cell (al_cell hm5 _) _, by go_simp, by omega, by omega, by omega, by omega, by omega⟩
set_option maxHeartbeats 8000000 in
set_option maxRecDepth 100000 in
theorem impl_ZeroModulo.calls (k : Nat) (A0 : Option Addr) (c0 : Nat) (l0 : List Int) (a1 : Int) (a2 : Int) (r : Bool) (w : World) (hr0 : Kd.C (Kd.int .i64) w A0 l0.length l0) (hc0 : l0.length ≤ c0) (h : impl_ZeroModulo.f k l0 a1 a2 = some r) :
 Calls Try.prog 37 #[.slice A0 l0.length c0, .int .i64 a1, .int .i64 a2] w fun e w' => e = .returned (.bool r) ∧ Below w.heap.size w w' := by
 have HR0 := Aside0.mk hr0
 have HC0 := Aside0.mk hc0
 have hmf : ∀ (fn : Fn) (first cap : Array Value) (w : World), (Instr.makeFunc fn first cap).run Try.prog w = .ok (.func fn first cap) w := fun _ _ _ _ => rfl
 have hst : ∀ (a : Addr) (fn : Fn) (x y : Array Value) (w : World), (store a (.func fn x y)).run Try.prog w = stored Try.prog w a (.func fn x y) .plain := fun a fn x y w => run_store _ w a _ _ rfl
 clear hr0 hc0
 unfold impl_ZeroModulo.f at h
 obtain ⟨t0, A1, h⟩ := Option.bind_eq_some_iff.mp h
 have A1 := Aside0.mk A1
 cases t0 with
 | false =>
  rw [if_neg (by decide)] at h
  injection h with h
  subst h
  go_enter Try.func37, Try.ntmps37
  go_wp2_with ((go_at_call 57; (with_reducible refine (impl_FormValid.calls k _ _ l0 false _ ?side1 ?side2 A1.out).mono ?_); (case side1 => repeat (first | exact HR0.out | (with_reducible refine Kd.C_alloc ?_ _) | (with_reducible refine Kd.C_drewN ?_ _) | (with_reducible refine Kd.C_drew ?_))); (case side2 => exact HC0.out); rintro e w2 ⟨rfl, hb⟩; have hf2 : w2.cell? ⟨w.heap.size, 0, none⟩ = some (.slice A0 l0.length c0) := (hb.cell (by first | (simp; done) | (simp; omega))).trans (by simp [go_sem]); have hp2 : w2.cell? ⟨w.heap.size + 1, 0, none⟩ = some (.int .i64 a1) := (hb.cell (by first | (simp; done) | (simp; omega))).trans (by simp [go_sem]); have HB2 := Aside0.mk (below_step (below_alloc (below_alloc (Below.refl w.heap.size w) _) _) hb); have HS2 : Aside0 (w.heap.size + 2 ≤ w2.heap.size) := ⟨by have := hb.size; simpa using this⟩; have hn1 := World.block_lt_of_cell? _ _ hf2; have hn2 := World.block_lt_of_cell? _ _ hp2; dsimp only at hn1 hn2; clear hb))
  go_ret
  exact ⟨rfl, HB2.out⟩
 | true =>
  rw [if_pos rfl] at h
  by_cases d1 : (l0.length : Int) > 3
  · rw [if_pos d1] at h
    have d1b : decide ((l0.length : Int) > 3) = true := decide_eq_true d1
    injection h with h
    subst h
    go_enter Try.func37, Try.ntmps37
    go_wp2_with ((go_at_call 57; (with_reducible refine (impl_FormValid.calls k _ _ l0 true _ ?side1 ?side2 A1.out).mono ?_); (case side1 => repeat (first | exact HR0.out | (with_reducible refine Kd.C_alloc ?_ _) | (with_reducible refine Kd.C_drewN ?_ _) | (with_reducible refine Kd.C_drew ?_))); (case side2 => exact HC0.out); rintro e w2 ⟨rfl, hb⟩; have hf2 : w2.cell? ⟨w.heap.size, 0, none⟩ = some (.slice A0 l0.length c0) := (hb.cell (by first | (simp; done) | (simp; omega))).trans (by simp [go_sem]); have hp2 : w2.cell? ⟨w.heap.size + 1, 0, none⟩ = some (.int .i64 a1) := (hb.cell (by first | (simp; done) | (simp; omega))).trans (by simp [go_sem]); have HB2 := Aside0.mk (below_step (below_alloc (below_alloc (Below.refl w.heap.size w) _) _) hb); have HS2 : Aside0 (w.heap.size + 2 ≤ w2.heap.size) := ⟨by have := hb.size; simpa using this⟩; have hn1 := World.block_lt_of_cell? _ _ hf2; have hn2 := World.block_lt_of_cell? _ _ hp2; dsimp only at hn1 hn2; clear hb))
    go_ret
    exact ⟨rfl, HB2.out⟩
  · rw [if_neg d1] at h
    have d1b : decide ((l0.length : Int) > 3) = false := decide_eq_false d1
    obtain ⟨t1, A2, h⟩ := Option.bind_eq_some_iff.mp h
    have A2 := Aside0.mk A2
    cases t1 with
    | false =>
     rw [if_neg (by decide)] at h
     injection h with h
     subst h
     go_enter Try.func37, Try.ntmps37
     go_wp2_with (first | (go_at_call 57; (with_reducible refine (impl_FormValid.calls k _ _ l0 true _ ?side1 ?side2 A1.out).mono ?_); (case side1 => repeat (first | exact HR0.out | (with_reducible refine Kd.C_alloc ?_ _) | (with_reducible refine Kd.C_drewN ?_ _) | (with_reducible refine Kd.C_drew ?_))); (case side2 => exact HC0.out); rintro e w2 ⟨rfl, hb⟩; have hf2 : w2.cell? ⟨w.heap.size, 0, none⟩ = some (.slice A0 l0.length c0) := (hb.cell (by first | (simp; done) | (simp; omega))).trans (by simp [go_sem]); have hp2 : w2.cell? ⟨w.heap.size + 1, 0, none⟩ = some (.int .i64 a1) := (hb.cell (by first | (simp; done) | (simp; omega))).trans (by simp [go_sem]); have HB2 := Aside0.mk (below_step (below_alloc (below_alloc (Below.refl w.heap.size w) _) _) hb); have HS2 : Aside0 (w.heap.size + 2 ≤ w2.heap.size) := ⟨by have := hb.size; simpa using this⟩; have hn1 := World.block_lt_of_cell? _ _ hf2; have hn2 := World.block_lt_of_cell? _ _ hp2; dsimp only at hn1 hn2; clear hb) | (go_at_call 90; (with_reducible refine (impl_PrimeIs.calls k a1 false _ A2.out).mono ?_); rintro e w4 ⟨rfl, hd⟩; have hf4 := dr_cell hd hf2; have hp4 := dr_cell hd hp2; have HB4 := Aside0.mk (dr_below hd HB2.out); have HS4 := Aside0.mk (dr_size hd HS2.out); clear hf2 hp2 HB2 HS2 hd; (try clear hn1); (try clear hn2); (try clear hfa); have hf2 := hf4; have hp2 := hp4; have HB2 := HB4; have HS2 := HS4; clear hf4 hp4 HB4 HS4; have hn1 := World.block_lt_of_cell? _ _ hf2; have hn2 := World.block_lt_of_cell? _ _ hp2; dsimp only at hn1 hn2))
     go_ret
     exact ⟨rfl, HB2.out⟩
    | true =>
     rw [if_pos rfl] at h
     by_cases d2 : a2 < 1
     · rw [if_pos d2] at h
       have d2b : decide (a2 < 1) = true := decide_eq_true d2
       injection h with h
       subst h
       go_enter Try.func37, Try.ntmps37
       go_wp2_with (first | (go_at_call 57; (with_reducible refine (impl_FormValid.calls k _ _ l0 true _ ?side1 ?side2 A1.out).mono ?_); (case side1 => repeat (first | exact HR0.out | (with_reducible refine Kd.C_alloc ?_ _) | (with_reducible refine Kd.C_drewN ?_ _) | (with_reducible refine Kd.C_drew ?_))); (case side2 => exact HC0.out); rintro e w2 ⟨rfl, hb⟩; have hf2 : w2.cell? ⟨w.heap.size, 0, none⟩ = some (.slice A0 l0.length c0) := (hb.cell (by first | (simp; done) | (simp; omega))).trans (by simp [go_sem]); have hp2 : w2.cell? ⟨w.heap.size + 1, 0, none⟩ = some (.int .i64 a1) := (hb.cell (by first | (simp; done) | (simp; omega))).trans (by simp [go_sem]); have HB2 := Aside0.mk (below_step (below_alloc (below_alloc (Below.refl w.heap.size w) _) _) hb); have HS2 : Aside0 (w.heap.size + 2 ≤ w2.heap.size) := ⟨by have := hb.size; simpa using this⟩; have hn1 := World.block_lt_of_cell? _ _ hf2; have hn2 := World.block_lt_of_cell? _ _ hp2; dsimp only at hn1 hn2; clear hb) | (go_at_call 90; (with_reducible refine (impl_PrimeIs.calls k a1 true _ A2.out).mono ?_); rintro e w4 ⟨rfl, hd⟩; have hf4 := dr_cell hd hf2; have hp4 := dr_cell hd hp2; have HB4 := Aside0.mk (dr_below hd HB2.out); have HS4 := Aside0.mk (dr_size hd HS2.out); clear hf2 hp2 HB2 HS2 hd; (try clear hn1); (try clear hn2); (try clear hfa); have hf2 := hf4; have hp2 := hp4; have HB2 := HB4; have HS2 := HS4; clear hf4 hp4 HB4 HS4; have hn1 := World.block_lt_of_cell? _ _ hf2; have hn2 := World.block_lt_of_cell? _ _ hp2; dsimp only at hn1 hn2))
       go_ret
       exact ⟨rfl, HB2.out⟩
     · rw [if_neg d2] at h
       have d2b : decide (a2 < 1) = false := decide_eq_false d2
       by_cases d3 : a2 > 5
       · rw [if_pos d3] at h
         have d3b : decide (a2 > 5) = true := decide_eq_true d3
         injection h with h
         subst h
         go_enter Try.func37, Try.ntmps37
         go_wp2_with (first | (go_at_call 57; (with_reducible refine (impl_FormValid.calls k _ _ l0 true _ ?side1 ?side2 A1.out).mono ?_); (case side1 => repeat (first | exact HR0.out | (with_reducible refine Kd.C_alloc ?_ _) | (with_reducible refine Kd.C_drewN ?_ _) | (with_reducible refine Kd.C_drew ?_))); (case side2 => exact HC0.out); rintro e w2 ⟨rfl, hb⟩; have hf2 : w2.cell? ⟨w.heap.size, 0, none⟩ = some (.slice A0 l0.length c0) := (hb.cell (by first | (simp; done) | (simp; omega))).trans (by simp [go_sem]); have hp2 : w2.cell? ⟨w.heap.size + 1, 0, none⟩ = some (.int .i64 a1) := (hb.cell (by first | (simp; done) | (simp; omega))).trans (by simp [go_sem]); have HB2 := Aside0.mk (below_step (below_alloc (below_alloc (Below.refl w.heap.size w) _) _) hb); have HS2 : Aside0 (w.heap.size + 2 ≤ w2.heap.size) := ⟨by have := hb.size; simpa using this⟩; have hn1 := World.block_lt_of_cell? _ _ hf2; have hn2 := World.block_lt_of_cell? _ _ hp2; dsimp only at hn1 hn2; clear hb) | (go_at_call 90; (with_reducible refine (impl_PrimeIs.calls k a1 true _ A2.out).mono ?_); rintro e w4 ⟨rfl, hd⟩; have hf4 := dr_cell hd hf2; have hp4 := dr_cell hd hp2; have HB4 := Aside0.mk (dr_below hd HB2.out); have HS4 := Aside0.mk (dr_size hd HS2.out); clear hf2 hp2 HB2 HS2 hd; (try clear hn1); (try clear hn2); (try clear hfa); have hf2 := hf4; have hp2 := hp4; have HB2 := HB4; have HS2 := HS4; clear hf4 hp4 HB4 HS4; have hn1 := World.block_lt_of_cell? _ _ hf2; have hn2 := World.block_lt_of_cell? _ _ hp2; dsimp only at hn1 hn2))
         go_ret
         exact ⟨rfl, HB2.out⟩
       · rw [if_neg d3] at h
         have d3b : decide (a2 > 5) = false := decide_eq_false d3
         obtain ⟨t2, A3, h⟩ := Option.bind_eq_some_iff.mp h
         have A3 := Aside0.mk A3
         by_cases d4 : t2 > 32
         · rw [if_pos d4] at h
           have d4b : decide (t2 > 32) = true := decide_eq_true d4
           injection h with h
           subst h
           go_enter Try.func37, Try.ntmps37
           go_wp2_with (first | (go_at_call 57; (with_reducible refine (impl_FormValid.calls k _ _ l0 true _ ?side1 ?side2 A1.out).mono ?_); (case side1 => repeat (first | exact HR0.out | (with_reducible refine Kd.C_alloc ?_ _) | (with_reducible refine Kd.C_drewN ?_ _) | (with_reducible refine Kd.C_drew ?_))); (case side2 => exact HC0.out); rintro e w2 ⟨rfl, hb⟩; have hf2 : w2.cell? ⟨w.heap.size, 0, none⟩ = some (.slice A0 l0.length c0) := (hb.cell (by first | (simp; done) | (simp; omega))).trans (by simp [go_sem]); have hp2 : w2.cell? ⟨w.heap.size + 1, 0, none⟩ = some (.int .i64 a1) := (hb.cell (by first | (simp; done) | (simp; omega))).trans (by simp [go_sem]); have HB2 := Aside0.mk (below_step (below_alloc (below_alloc (Below.refl w.heap.size w) _) _) hb); have HS2 : Aside0 (w.heap.size + 2 ≤ w2.heap.size) := ⟨by have := hb.size; simpa using this⟩; have hn1 := World.block_lt_of_cell? _ _ hf2; have hn2 := World.block_lt_of_cell? _ _ hp2; dsimp only at hn1 hn2; clear hb) | (go_at_call 90; (with_reducible refine (impl_PrimeIs.calls k a1 true _ A2.out).mono ?_); rintro e w4 ⟨rfl, hd⟩; have hf4 := dr_cell hd hf2; have hp4 := dr_cell hd hp2; have HB4 := Aside0.mk (dr_below hd HB2.out); have HS4 := Aside0.mk (dr_size hd HS2.out); clear hf2 hp2 HB2 HS2 hd; (try clear hn1); (try clear hn2); (try clear hfa); have hf2 := hf4; have hp2 := hp4; have HB2 := HB4; have HS2 := HS4; clear hf4 hp4 HB4 HS4; have hn1 := World.block_lt_of_cell? _ _ hf2; have hn2 := World.block_lt_of_cell? _ _ hp2; dsimp only at hn1 hn2) | (go_at_call 91; (with_reducible refine (impl_power.calls k a1 a2 t2 _ A3.out).mono ?_); rintro e w4 ⟨rfl, hd⟩; have hf4 := dr_cell hd hf2; have hp4 := dr_cell hd hp2; have HB4 := Aside0.mk (dr_below hd HB2.out); have HS4 := Aside0.mk (dr_size hd HS2.out); clear hf2 hp2 HB2 HS2 hd; (try clear hn1); (try clear hn2); (try clear hfa); have hf2 := hf4; have hp2 := hp4; have HB2 := HB4; have HS2 := HS4; clear hf4 hp4 HB4 HS4; have hn1 := World.block_lt_of_cell? _ _ hf2; have hn2 := World.block_lt_of_cell? _ _ hp2; dsimp only at hn1 hn2))
           go_ret
           exact ⟨rfl, HB2.out⟩
         · rw [if_neg d4] at h
           have d4b : decide (t2 > 32) = false := decide_eq_false d4
           by_cases hz : l0.length = 0
           · rw [if_pos hz] at h
             exact absurd h (by simp)
           rw [if_neg hz] at h
           have hl0 : 0 < l0.length := by omega
           clear hz
           obtain ⟨⟨b, y'⟩, A4, h⟩ := Option.bind_eq_some_iff.mp h
           have A4 := Aside0.mk A4
           injection h with h
           dsimp only at h
           subst h
           go_enter Try.func37, Try.ntmps37
           go_wp2_with (first | (go_at_call 57; (with_reducible refine (impl_FormValid.calls k _ _ l0 true _ ?side1 ?side2 A1.out).mono ?_); (case side1 => repeat (first | exact HR0.out | (with_reducible refine Kd.C_alloc ?_ _) | (with_reducible refine Kd.C_drewN ?_ _) | (with_reducible refine Kd.C_drew ?_))); (case side2 => exact HC0.out); rintro e w2 ⟨rfl, hb⟩; have hf2 : w2.cell? ⟨w.heap.size, 0, none⟩ = some (.slice A0 l0.length c0) := (hb.cell (by first | (simp; done) | (simp; omega))).trans (by simp [go_sem]); have hp2 : w2.cell? ⟨w.heap.size + 1, 0, none⟩ = some (.int .i64 a1) := (hb.cell (by first | (simp; done) | (simp; omega))).trans (by simp [go_sem]); have HB2 := Aside0.mk (below_step (below_alloc (below_alloc (Below.refl w.heap.size w) _) _) hb); have HS2 : Aside0 (w.heap.size + 2 ≤ w2.heap.size) := ⟨by have := hb.size; simpa using this⟩; have hn1 := World.block_lt_of_cell? _ _ hf2; have hn2 := World.block_lt_of_cell? _ _ hp2; dsimp only at hn1 hn2; clear hb) | (go_at_call 90; (with_reducible refine (impl_PrimeIs.calls k a1 true _ A2.out).mono ?_); rintro e w4 ⟨rfl, hd⟩; have hf4 := dr_cell hd hf2; have hp4 := dr_cell hd hp2; have HB4 := Aside0.mk (dr_below hd HB2.out); have HS4 := Aside0.mk (dr_size hd HS2.out); clear hf2 hp2 HB2 HS2 hd; (try clear hn1); (try clear hn2); (try clear hfa); have hf2 := hf4; have hp2 := hp4; have HB2 := HB4; have HS2 := HS4; clear hf4 hp4 HB4 HS4; have hn1 := World.block_lt_of_cell? _ _ hf2; have hn2 := World.block_lt_of_cell? _ _ hp2; dsimp only at hn1 hn2) | (go_at_call 91; (with_reducible refine (impl_power.calls k a1 a2 t2 _ A3.out).mono ?_); rintro e w4 ⟨rfl, hd⟩; have hf4 := dr_cell hd hf2; have hp4 := dr_cell hd hp2; have HB4 := Aside0.mk (dr_below hd HB2.out); have HS4 := Aside0.mk (dr_size hd HS2.out); clear hf2 hp2 HB2 HS2 hd; (try clear hn1); (try clear hn2); (try clear hfa); have hf2 := hf4; have hp2 := hp4; have HB2 := HB4; have HS2 := HS4; clear hf4 hp4 HB4 HS4; have hn1 := World.block_lt_of_cell? _ _ hf2; have hn2 := World.block_lt_of_cell? _ _ hp2; dsimp only at hn1 hn2) | ((with_reducible refine gate_dst (N := 42) rfl ?_); refine Kd.R_make (Kd.int .i64) _ 3 rfl (N := 42) rfl 23 _ _ rfl (l0.length : Int) rfl rfl Try.underlying23 (.int .i64 0) 8 info3 rfl (by decide) (by omega) 0 (ok := fun _ => True) (okp := fun _ => True) rfl (fun _ hk => hk) trivial (by omega) (by omega) (Below.refl _ _) (Nat.le_refl _) ?_; intro v1 w5 ho hb hg hnew; obtain ⟨g, cc, rfl, hg1, ho⟩ := make_form hl0 ho; obtain ⟨hg3, hf5, hp5, hm5, HB5, HR5, hs5, hs6, hs7⟩ := make_facts hf2 hp2 HB2.out hb hg1 ho; clear hb hg hnew ho hg1) | (go_at_call 92; refine (impl_ZeroModulo_1.calls k A0 c0 l0 a1 t2 0 (List.replicate l0.length 0) y' b w5.heap.size (w.heap.size + 1) w.heap.size w4.heap.size (w5.heap.size + 1) g cc w _ ?sideB HR0.out HC0.out ?sideC ?sideR A4.out).mono ?_; (case sideB => exact below_alloc (below_alloc HB5.out _) _); (case sideC => rw [List.length_replicate]; exact make_caps HS2.out hg3 hf5 hp5 hm5 HR5.out); (case sideR => rw [List.length_replicate]; exact Kd.R_alloc (Kd.R_alloc HR5.out _) _); rintro e w6 ⟨rfl, _, _, hb6, _⟩))
           go_ret
           exact ⟨rfl, hb6⟩

end Go.Proofs.Ytdeahlommlgceaa.PFnModulo2

-- Written by a program of this repo (wip/gen/gen.py) over the kit's print.
-- (slim)
import Derived.Test.YtdeahlommlgceaaPFnExactSymbolSamex0
import Derived.Test.YtdeahlommlgceaaPFnExactSymbolSamex2
import Derived.Test.YtdeahlommlgceaaPFnExactSymbolSamex3
namespace Go.Proofs.Ytdeahlommlgceaa.PFnExactSymbolSame
open Go.RowKit Go.Proofs.YtdeahlommlgceaaW.PrintWords Go.Proofs.YtdeahlommlgceaaW.PrintLast Go.Proofs.YtdeahlommlgceaaW.PrintMore
attribute [local go_sem] max2_int min2_int max_two min_two max_three min_three max_four min_four   -- for this text's walks alone
set_option linter.unusedVariables false
set_option linter.unusedSimpArgs false

/-! ### impl_SymbolSame: function 54 -/
mutual
def impl_SymbolSame.j0 : Nat → Int → Int → Int → Int → Bool → Option (Bool)
 | 0, _, _, _, _, _ => none
 | k + 1, x0, x1, x2, x3, x20 => if x20 = true then (some false) else ((impl_placesOf.f k (([x0, x1, x2, x3] : List Int))).bind fun t221 => (impl_SymbolSame.l0 k x0 x1 x2 x3 t221 (t221.length : Int) 0))
def impl_SymbolSame.l0 : Nat → Int → Int → Int → Int → List Int → Int → Int → Option (Bool)
 | 0, _, _, _, _, _, _, _ => none
 | k + 1, x0, x1, x2, x3, x26, x27, x28 => if x28 < x27 then (if 0 ≤ x28 then (if x28 < (x26.length : Int) then ((impl_symbol.f k x0 x1 (rd x26 x28)).bind fun t225 => ((impl_symbol.f k x2 x3 (rd x26 x28)).bind fun t226 => (if t225 = t226 then (impl_SymbolSame.l0 k x0 x1 x2 x3 x26 x27 (wrap64 (x28 + 1))) else (some false)))) else (none)) else (none)) else (some true)
end
def impl_SymbolSame.f (k : Nat) (a0 : Int) (a1 : Int) (a2 : Int) (a3 : Int) : Option (Bool) := (impl_bothNumbers.f a0 a1).bind fun t216 => (if t216 = true then ((impl_bothNumbers.f a2 a3).bind fun t217 => (impl_SymbolSame.j0 k a0 a1 a2 a3 (!t217))) else (impl_SymbolSame.j0 k a0 a1 a2 a3 true))
theorem impl_SymbolSame.mono_l : ∀ k, (∀ y0 y1 y2 y3 y4, LeO (impl_SymbolSame.j0 k y0 y1 y2 y3 y4) (impl_SymbolSame.j0 (k + 1) y0 y1 y2 y3 y4)) ∧ (∀ y0 y1 y2 y3 y4 y5 y6, LeO (impl_SymbolSame.l0 k y0 y1 y2 y3 y4 y5 y6) (impl_SymbolSame.l0 (k + 1) y0 y1 y2 y3 y4 y5 y6))
 | 0 => ⟨fun _ _ _ _ _ r h => by simp [impl_SymbolSame.j0] at h, fun _ _ _ _ _ _ _ r h => by simp [impl_SymbolSame.l0] at h⟩
 | k + 1 => by
  obtain ⟨ih0, ih1⟩ := impl_SymbolSame.mono_l k
  refine ⟨?_, ?_⟩
  · intro y0 y1 y2 y3 y4
    unfold impl_SymbolSame.j0
    repeat' first
    | (with_reducible exact ih0 _ _ _ _ _)
    | (with_reducible exact ih1 _ _ _ _ _ _ _)
    | (with_reducible exact impl_placesOf.mono _ _)
    | (with_reducible exact impl_symbol.mono _ _ _ _)
    | (with_reducible exact LeO.refl _)
    | (with_reducible exact LeO.none _)
    | (with_reducible refine LeO.ite ?_ ?_)
    | (with_reducible refine LeO.bind ?_ (fun _ => ?_))
    | exact ih0 _ _ _ _ _
    | exact ih1 _ _ _ _ _ _ _
    | exact impl_placesOf.mono _ _
    | exact impl_symbol.mono _ _ _ _
    | exact LeO.none _
    | refine LeO.ite ?_ ?_
    | refine LeO.bind ?_ (fun _ => ?_)
  · intro y0 y1 y2 y3 y4 y5 y6
    unfold impl_SymbolSame.l0
    repeat' first
    | (with_reducible exact ih0 _ _ _ _ _)
    | (with_reducible exact ih1 _ _ _ _ _ _ _)
    | (with_reducible exact impl_placesOf.mono _ _)
    | (with_reducible exact impl_symbol.mono _ _ _ _)
    | (with_reducible exact LeO.refl _)
    | (with_reducible exact LeO.none _)
    | (with_reducible refine LeO.ite ?_ ?_)
    | (with_reducible refine LeO.bind ?_ (fun _ => ?_))
    | exact ih0 _ _ _ _ _
    | exact ih1 _ _ _ _ _ _ _
    | exact impl_placesOf.mono _ _
    | exact impl_symbol.mono _ _ _ _
    | exact LeO.none _
    | refine LeO.ite ?_ ?_
    | refine LeO.bind ?_ (fun _ => ?_)
theorem impl_SymbolSame.mono : ∀ a0 a1 a2 a3 k, LeO (impl_SymbolSame.f k a0 a1 a2 a3) (impl_SymbolSame.f (k + 1) a0 a1 a2 a3) := by
 intro a0 a1 a2 a3 k
 obtain ⟨ih0, ih1⟩ := impl_SymbolSame.mono_l k
 unfold impl_SymbolSame.f
 repeat' first
  | (with_reducible exact ih0 _ _ _ _ _)
  | (with_reducible exact ih1 _ _ _ _ _ _ _)
  | (with_reducible exact impl_placesOf.mono _ _)
  | (with_reducible exact impl_symbol.mono _ _ _ _)
  | (with_reducible exact LeO.refl _)
  | (with_reducible exact LeO.none _)
  | (with_reducible refine LeO.ite ?_ ?_)
  | (with_reducible refine LeO.bind ?_ (fun _ => ?_))
  | exact ih0 _ _ _ _ _
  | exact ih1 _ _ _ _ _ _ _
  | exact impl_placesOf.mono _ _
  | exact impl_symbol.mono _ _ _ _
  | exact LeO.none _
  | refine LeO.ite ?_ ?_
  | refine LeO.bind ?_ (fun _ => ?_)
set_option maxHeartbeats 8000000 in
set_option maxRecDepth 100000 in
theorem impl_SymbolSame.calls (k : Nat) (a0 : Int) (a1 : Int) (a2 : Int) (a3 : Int) (r : Bool) (w : World) (h : impl_SymbolSame.f k a0 a1 a2 a3 = some r) :
 Calls Try.prog 54 #[.int .i64 a0, .int .i64 a1, .int .i64 a2, .int .i64 a3] w fun e w' => e = .returned (.bool r) ∧ Below w.heap.size w w' := by
 have HB := Aside0.mk (Below.refl w.heap.size w)
 have H : ((impl_bothNumbers.f a0 a1).bind fun t216 => (if t216 = true then ((impl_bothNumbers.f a2 a3).bind fun t217 => (impl_SymbolSame.j0 k a0 a1 a2 a3 (!t217))) else (impl_SymbolSame.j0 k a0 a1 a2 a3 true))) = some r := h
 clear h
 have HC5 := Aside0.mk H
 clear H
 go_enter Try.func54, Try.ntmps54
 go_upto_region 1 with (fail)
 go_cut [20] (fun v20 wc => ∃ (kq : Nat) (x20_4 : Bool), v20 = .bool x20_4 ∧ Aside0 (impl_SymbolSame.j0 kq a0 a1 a2 a3 x20_4 = some r) ∧ Aside0 (kq ≤ k) ∧ Aside0 (Below w.heap.size w wc))
 case first =>
  have H := HC5.out
  clear HC5
  replace H := Option.bind_eq_some_iff.mp H
  obtain ⟨t216, A60, H⟩ := H
  replace H : (if t216 = true then ((impl_bothNumbers.f a2 a3).bind fun t217 => (impl_SymbolSame.j0 k a0 a1 a2 a3 (!t217))) else (impl_SymbolSame.j0 k a0 a1 a2 a3 true)) = some r := H
  have A6 := Aside0.mk A60
  clear A60
  by_cases c7 : t216 = true
  · subst c7
    have H1 : ((impl_bothNumbers.f a2 a3).bind fun t217 => (impl_SymbolSame.j0 k a0 a1 a2 a3 (!t217))) = some r := by rw [if_pos rfl] at H; exact H
    clear H
    have H := H1
    clear H1
    replace H := Option.bind_eq_some_iff.mp H
    obtain ⟨t217, A80, H⟩ := H
    replace H : (impl_SymbolSame.j0 k a0 a1 a2 a3 (!t217)) = some r := H
    have A8 := Aside0.mk A80
    clear A80
    have H' := Aside0.mk H
    clear H
    go_wp2_with (first | ((with_reducible refine gate_callee (f := 100) rfl ?_); refine goesL_ (some 13) rfl rfl Try.func100 (by kernel_rfl) rfl #[.int .i64 a0, .int .i64 a1] rfl (by (try simp only [List.map_toArray, List.map_cons, List.map_nil]); first | done | rfl | (simp only [List.length_drop, List.length_take]; rfl)) ?_; (with_reducible refine (impl_bothNumbers.calls a0 a1 true _ A6.out).mono ?_); rintro e w' ⟨rfl, ⟨nd, rfl⟩⟩; refine ⟨_, rfl, ?_⟩) | (go_at_call 100; (with_reducible refine (impl_bothNumbers.calls a2 a3 t217 _ A8.out).mono ?_); rintro e w' ⟨rfl, ⟨nd, rfl⟩⟩))
    go_meet
    case rel => exact ⟨_, (!t217), (by first | rfl | (simp; done) | (simp [*]; done)), H', ⟨by first | omega | exact Nat.le_refl _⟩, ⟨by repeat (first | (with_reducible first | exact HB.out | apply below_alloc | apply pw_below_drewN | apply below_drew1) | exact HB.out)⟩⟩
  · replace c7 := Bool.eq_false_iff.mpr c7
    subst c7
    have H1 : (impl_SymbolSame.j0 k a0 a1 a2 a3 true) = some r := by rw [if_neg (show ¬ (false = true) by decide)] at H; exact H
    clear H
    have H := H1
    clear H1
    have H' := Aside0.mk H
    clear H
    go_wp2_with (first | ((with_reducible refine gate_callee (f := 100) rfl ?_); refine goesL_ (some 13) rfl rfl Try.func100 (by kernel_rfl) rfl #[.int .i64 a0, .int .i64 a1] rfl (by (try simp only [List.map_toArray, List.map_cons, List.map_nil]); first | done | rfl | (simp only [List.length_drop, List.length_take]; rfl)) ?_; (with_reducible refine (impl_bothNumbers.calls a0 a1 false _ A6.out).mono ?_); rintro e w' ⟨rfl, ⟨nd, rfl⟩⟩; refine ⟨_, rfl, ?_⟩))
    go_meet
    case rel => exact ⟨_, (true), (by first | rfl | (simp; done) | (simp [*]; done)), H', ⟨by first | omega | exact Nat.le_refl _⟩, ⟨by repeat (first | (with_reducible first | exact HB.out | apply below_alloc | apply pw_below_drewN | apply below_drew1) | exact HB.out)⟩⟩
 case rest =>
  clear HC5
  try clear c1
  try clear p2
  try clear c5
  try clear c7
  obtain ⟨kq, x20_4, rfl, HA, HJ4, HB⟩ := hcut
  cases kq with
  | zero => exact absurd HA.out (by simp [impl_SymbolSame.j0])
  | succ kj4 =>
   have H := HA.out
   clear HA
   simp only [impl_SymbolSame.j0] at H
   by_cases c9 : x20_4 = true
   · subst c9
     have H1 : (some false) = some r := by rw [if_pos rfl] at H; exact H
     clear H
     have H := H1
     clear H1
     obtain rfl := Option.some.inj H
     go_wp2
     go_ret
     exact ⟨by first | rfl | (simp [errW_none, errW_some] <;> rfl) | (simp [*, errW_none, errW_some] <;> rfl), by repeat (first | (with_reducible first | exact HB.out | apply below_alloc | apply pw_below_drewN | apply below_drew1) | exact HB.out)⟩
   · replace c9 := Bool.eq_false_iff.mpr c9
     subst c9
     have H1 : ((impl_placesOf.f kj4 (([a0, a1, a2, a3] : List Int))).bind fun t221 => (impl_SymbolSame.l0 kj4 a0 a1 a2 a3 t221 (t221.length : Int) 0)) = some r := by rw [if_neg (show ¬ (false = true) by decide)] at H; exact H
     clear H
     have H := H1
     clear H1
     obtain ⟨y218, hy218⟩ : ∃ y_ : List Int, y_ = (([a0, a1, a2, a3] : List Int)) := ⟨_, rfl⟩
     replace H : ((impl_placesOf.f kj4 y218).bind fun t221 => (impl_SymbolSame.l0 kj4 a0 a1 a2 a3 t221 (t221.length : Int) 0)) = some r := by first | (rw [hy218]; with_reducible exact H) | (have H2_ := (Option.bind_some _ _).symm.trans H; rw [hy218]; with_reducible exact H2_) | (have H2_ := (Option.bind_some _ _).symm.trans H; with_reducible exact H2_) | with_reducible exact H | (rw [hy218]; exact H) | exact H
     have Ny218 := Aside0.mk hy218
     clear hy218
     replace H := Option.bind_eq_some_iff.mp H
     obtain ⟨t221, A100, H⟩ := H
     replace H : (impl_SymbolSame.l0 kj4 a0 a1 a2 a3 t221 (t221.length : Int) 0) = some r := H
     have A10 := Aside0.mk A100
     clear A100
     have H' := Aside0.mk H
     clear H
     go_wp2_with (first | ((with_reducible refine gate_dst (N := 25) rfl ?_); refine Kd.R_lit (Kd.int .i64) _ 3 ?hg (N := 25) ?hd (xs := ([a0, a1, a2, a3] : List Int)) (inner := [.int .i64 a0, .int .i64 a1, .int .i64 a2, .int .i64 a3]) (ok := fun _ => True) (okp := fun _ => True) ?hr ?hp (fun _ hk => hk) trivial (Below.refl _ _) (Nat.le_refl _) (by simp) ?_; (case hd => rfl); (case hg => rfl); (case hr => first | (go_simp; done) | (go_simp; rfl)); (case hp => exact (Reps.one (show Kd.M (Kd.int .i64) _ _ _ a0 [.int .i64 a0] from rfl) (Reps.one (show Kd.M (Kd.int .i64) _ _ _ a1 [.int .i64 a1] from rfl) (Reps.one (show Kd.M (Kd.int .i64) _ _ _ a2 [.int .i64 a2] from rfl) (Reps.one (show Kd.M (Kd.int .i64) _ _ _ a3 [.int .i64 a3] from rfl) (Reps.none _ _)))))); intro v219 w11 ho12 hb hg_ hnew_; clear hg_ hnew_; (first | rw [← Ny218.out] at ho12 | (simp only [Int.reduceToNat] at ho12; rw [← Ny218.out] at ho12)); have n0_ := Aside0.mk (Kd.R_lower ho12 (below_size (by repeat (first | (with_reducible first | exact HB.out | apply below_alloc | apply pw_below_drewN | apply below_drew1) | exact HB.out)))); have n1_ := Aside0.mk (below_step (by repeat (first | (with_reducible first | exact HB.out | apply below_alloc | apply pw_below_drewN | apply below_drew1) | exact HB.out)) hb); clear HB; have HO220 := n0_; have HB := n1_; clear n0_ n1_; clear hb ho12; obtain ⟨Ao13, co13, eo13⟩ := Kd.R_slice HO220.out; subst eo13) | ((with_reducible refine gate_callee (f := 58) rfl ?_); refine goesL_ (some 26) rfl rfl Try.func58 (by kernel_rfl) rfl #[.slice Ao13 y218.length co13] rfl (by (try simp only [List.map_toArray, List.map_cons, List.map_nil]); first | done | rfl | (simp only [List.length_drop, List.length_take]; rfl)) ?_; (with_reducible refine (impl_placesOf.calls kj4 _ _ y218 t221 _ ?side1 ?side2 A10.out).mono ?_); (case side1 => repeat (first | exact (Kd.R_reads' HO220.out).2.2 | (with_reducible refine Kd.C_alloc ?_ _) | (with_reducible refine Kd.C_drewN ?_ _) | (with_reducible refine Kd.C_drew ?_))); (case side2 => exact (Kd.R_reads' HO220.out).2.1); rintro e w14 ⟨v222, rfl, ho0, hb⟩; refine ⟨_, rfl, ?_⟩; have n0_ := Aside0.mk (Kd.R_elder' (by (with_reducible repeat (first | apply Kd.R_alloc | apply Kd.R_drewN | apply Kd.R_drew)); exact HO220.out) (Kd.R_base ho0) hb); have n1_ := Aside0.mk (Kd.R_lower (Kd.R_new' ho0 (Kd.R_lt (by (with_reducible repeat (first | apply Kd.R_alloc | apply Kd.R_drewN | apply Kd.R_drew)); exact HO220.out))) (below_size (by repeat (first | (with_reducible first | exact HB.out | apply below_alloc | apply pw_below_drewN | apply below_drew1) | exact HB.out)))); have n2_ := Aside0.mk (below_step (by repeat (first | (with_reducible first | exact HB.out | apply below_alloc | apply pw_below_drewN | apply below_drew1) | exact HB.out)) hb); clear HO220; clear HB; have HO220 := n0_; have HO223 := n1_; have HB := n2_; clear n0_ n1_ n2_; (try clear hb); (try clear hb2); (try clear hk); (try clear hi); (try clear ho0); obtain ⟨Ao15, co15, eo15⟩ := Kd.R_slice HO223.out; subst eo15))
     go_loopg [28] kj4 (fun kq v28 w' => ∃ (x28_2 : Int), v28 = .int .i64 x28_2 ∧ Aside0 (impl_SymbolSame.l0 kq a0 a1 a2 a3 t221 (t221.length : Int) x28_2 = some r) ∧ Aside0 (kq ≤ kj4) ∧ Aside0 (Kd.R (Kd.int .i64) 3 w' w.heap.size (fun _ => True) (.slice Ao15 t221.length co15) t221) ∧ Aside0 (Below w.heap.size w w'))
     case atStart => exact ⟨(0), (by first | rfl | (simp; done) | (simp [*]; done)), H', ⟨Nat.le_refl _⟩, ⟨by (with_reducible repeat (first | apply Kd.R_alloc | apply Kd.R_drewN | apply Kd.R_drew)); exact Kd.R_mono HO223.out (fun _ hk => trivial)⟩, ⟨by repeat (first | (with_reducible first | exact HB.out | apply below_alloc | apply pw_below_drewN | apply below_drew1) | exact HB.out)⟩⟩
     case round =>
      clear H'
      try clear c1
      try clear p2
      try clear c5
      try clear c7
      try clear c9
      try clear c10
      try clear p2
      obtain ⟨x28_2, rfl, HA, HK2, HO_26, HB⟩ := hrel
      cases gk with
      | zero => exact absurd HA.out (by simp [impl_SymbolSame.l0])
      | succ k2 =>
       have H := HA.out
       clear HA
       simp only [impl_SymbolSame.l0] at H
       by_cases c16 : x28_2 < (t221.length : Int)
       · rw [if_pos c16] at H
         have c16b0 : decide (x28_2 < (t221.length : Int)) = true := decide_eq_true c16
         clear c16
         by_cases c17 : 0 ≤ x28_2
         · rw [if_pos c17] at H
           have c17b0 : decide (0 ≤ x28_2) = true := decide_eq_true c17
           clear c17
           by_cases c18 : x28_2 < (t221.length : Int)
           · rw [if_pos c18] at H
             have c18b0 : decide (x28_2 < (t221.length : Int)) = true := decide_eq_true c18
             clear c18
             replace H := Option.bind_eq_some_iff.mp H
             obtain ⟨t225, A190, H⟩ := H
             replace H : ((impl_symbol.f k2 a2 a3 (rd t221 x28_2)).bind fun t226 => (if t225 = t226 then (impl_SymbolSame.l0 k2 a0 a1 a2 a3 t221 (t221.length : Int) (wrap64 (x28_2 + 1))) else (some false))) = some r := H
             have A19 := Aside0.mk A190
             clear A190
             replace H := Option.bind_eq_some_iff.mp H
             obtain ⟨t226, A200, H⟩ := H
             replace H : (if t225 = t226 then (impl_SymbolSame.l0 k2 a0 a1 a2 a3 t221 (t221.length : Int) (wrap64 (x28_2 + 1))) else (some false)) = some r := H
             have A20 := Aside0.mk A200
             clear A200
             by_cases c21 : t225 = t226
             · rw [if_pos c21] at H
               have c21b0 : (t225 == t226) = true := beq_iff_eq.mpr c21
               have c21b1 : (t225 != t226) = false := bne_eq_false_iff_eq.mpr c21
               clear c21
               have H' := Aside0.mk H
               clear H
               have p224 : 0 ≤ (x28_2 : Int) := of_decide_eq_true (by first | (with_reducible assumption) | assumption)
               have q224 : x28_2 < (t221.length : Int) := of_decide_eq_true (by first | (with_reducible assumption) | assumption)
               obtain ⟨ad224, e224, hx224_0⟩ := Kd.at_int (Kd.R_reads' HO_26.out).2.2 x28_2 p224 q224
               cases e224
               replace p224 := eq_true p224
               replace q224 := eq_true q224
               go_wp2_with (first | ((with_reducible refine gate_callee (f := 101) rfl ?_); refine goesL_ (some 35) rfl rfl Try.func101 (by kernel_rfl) rfl #[.int .i64 a0, .int .i64 a1, .int .i64 (rd t221 x28_2)] rfl (by (try simp only [List.map_toArray, List.map_cons, List.map_nil]); first | done | rfl | (simp only [List.length_drop, List.length_take]; rfl)) ?_; (with_reducible refine (impl_symbol.calls k2 a0 a1 (rd t221 x28_2) t225 _ A19.out).mono ?_); rintro e w' ⟨rfl, ⟨nd, rfl⟩⟩; refine ⟨_, rfl, ?_⟩) | ((with_reducible refine gate_callee (f := 101) rfl ?_); refine goesL_ (some 39) rfl rfl Try.func101 (by kernel_rfl) rfl #[.int .i64 a2, .int .i64 a3, .int .i64 (rd t221 x28_2)] rfl (by (try simp only [List.map_toArray, List.map_cons, List.map_nil]); first | done | rfl | (simp only [List.length_drop, List.length_take]; rfl)) ?_; (with_reducible refine (impl_symbol.calls k2 a2 a3 (rd t221 x28_2) t226 _ A20.out).mono ?_); rintro e w' ⟨rfl, ⟨nd, rfl⟩⟩; refine ⟨_, rfl, ?_⟩))
               go_roundg k2
               case measure => have := HJ4.out; have := HK2.out; omega
               case rel => exact ⟨(wrap64 (x28_2 + 1)), (by first | rfl | (simp; done) | (simp [*]; done)), H', ⟨by have := HJ4.out; have := HK2.out; omega⟩, ⟨by (with_reducible repeat (first | apply Kd.R_alloc | apply Kd.R_drewN | apply Kd.R_drew)); exact HO_26.out⟩, ⟨by repeat (first | (with_reducible first | exact HB.out | apply below_alloc | apply pw_below_drewN | apply below_drew1) | exact HB.out)⟩⟩
             · rw [if_neg c21] at H
               have c21b0 : (t225 == t226) = false := beq_eq_false_iff_ne.mpr c21
               have c21b1 : (t225 != t226) = true := bne_iff_ne.mpr c21
               obtain rfl := Option.some.inj H
               have p224 : 0 ≤ (x28_2 : Int) := of_decide_eq_true (by first | (with_reducible assumption) | assumption)
               have q224 : x28_2 < (t221.length : Int) := of_decide_eq_true (by first | (with_reducible assumption) | assumption)
               obtain ⟨ad224, e224, hx224_0⟩ := Kd.at_int (Kd.R_reads' HO_26.out).2.2 x28_2 p224 q224
               cases e224
               replace p224 := eq_true p224
               replace q224 := eq_true q224
               go_wp2_with (first | ((with_reducible refine gate_callee (f := 101) rfl ?_); refine goesL_ (some 35) rfl rfl Try.func101 (by kernel_rfl) rfl #[.int .i64 a0, .int .i64 a1, .int .i64 (rd t221 x28_2)] rfl (by (try simp only [List.map_toArray, List.map_cons, List.map_nil]); first | done | rfl | (simp only [List.length_drop, List.length_take]; rfl)) ?_; (with_reducible refine (impl_symbol.calls k2 a0 a1 (rd t221 x28_2) t225 _ A19.out).mono ?_); rintro e w' ⟨rfl, ⟨nd, rfl⟩⟩; refine ⟨_, rfl, ?_⟩) | ((with_reducible refine gate_callee (f := 101) rfl ?_); refine goesL_ (some 39) rfl rfl Try.func101 (by kernel_rfl) rfl #[.int .i64 a2, .int .i64 a3, .int .i64 (rd t221 x28_2)] rfl (by (try simp only [List.map_toArray, List.map_cons, List.map_nil]); first | done | rfl | (simp only [List.length_drop, List.length_take]; rfl)) ?_; (with_reducible refine (impl_symbol.calls k2 a2 a3 (rd t221 x28_2) t226 _ A20.out).mono ?_); rintro e w' ⟨rfl, ⟨nd, rfl⟩⟩; refine ⟨_, rfl, ?_⟩))
               go_ret
               exact ⟨by first | rfl | (simp [errW_none, errW_some] <;> rfl) | (simp [*, errW_none, errW_some] <;> rfl), by repeat (first | (with_reducible first | exact HB.out | apply below_alloc | apply pw_below_drewN | apply below_drew1) | exact HB.out)⟩
           · rw [if_neg c18] at H
             exact absurd H (by simp)
         · rw [if_neg c17] at H
           exact absurd H (by simp)
       · rw [if_neg c16] at H
         have c16b0 : decide (x28_2 < (t221.length : Int)) = false := decide_eq_false c16
         clear c16
         obtain rfl := Option.some.inj H
         go_wp2
         go_ret
         exact ⟨by first | rfl | (simp [errW_none, errW_some] <;> rfl) | (simp [*, errW_none, errW_some] <;> rfl), by repeat (first | (with_reducible first | exact HB.out | apply below_alloc | apply pw_below_drewN | apply below_drew1) | exact HB.out)⟩

/-! ### laws_FnExactSymbolSame: function 12 -/
def laws_FnExactSymbolSame.f (k : Nat) (a0 : Int) (a1 : Int) (a2 : Int) (a3 : Int) : Option (Bool) := (spec_SymbolSame.f k a0 a1 a2 a3).bind fun t227 => ((impl_SymbolSame.f k a0 a1 a2 a3).bind fun t228 => (if (t228 != t227) = true then (some false) else (some true)))
theorem laws_FnExactSymbolSame.mono : ∀ a0 a1 a2 a3 k, LeO (laws_FnExactSymbolSame.f k a0 a1 a2 a3) (laws_FnExactSymbolSame.f (k + 1) a0 a1 a2 a3) := by
 intro a0 a1 a2 a3 k
 unfold laws_FnExactSymbolSame.f
 repeat' first
  | (with_reducible exact impl_SymbolSame.mono _ _ _ _ _)
  | (with_reducible exact spec_SymbolSame.mono _ _ _ _ _)
  | (with_reducible exact LeO.refl _)
  | (with_reducible exact LeO.none _)
  | (with_reducible refine LeO.ite ?_ ?_)
  | (with_reducible refine LeO.bind ?_ (fun _ => ?_))
  | exact impl_SymbolSame.mono _ _ _ _ _
  | exact spec_SymbolSame.mono _ _ _ _ _
  | exact LeO.none _
  | refine LeO.ite ?_ ?_
  | refine LeO.bind ?_ (fun _ => ?_)
set_option maxHeartbeats 8000000 in
set_option maxRecDepth 100000 in
theorem laws_FnExactSymbolSame.calls (k : Nat) (a0 : Int) (a1 : Int) (a2 : Int) (a3 : Int) (r : Bool) (w : World) (h : laws_FnExactSymbolSame.f k a0 a1 a2 a3 = some r) :
 Calls Try.prog 12 #[.int .i64 a0, .int .i64 a1, .int .i64 a2, .int .i64 a3] w fun e w' => e = .returned (.bool r) ∧ Below w.heap.size w w' := by
 have HB := Aside0.mk (Below.refl w.heap.size w)
 have H : ((spec_SymbolSame.f k a0 a1 a2 a3).bind fun t227 => ((impl_SymbolSame.f k a0 a1 a2 a3).bind fun t228 => (if (t228 != t227) = true then (some false) else (some true)))) = some r := h
 clear h
 replace H := Option.bind_eq_some_iff.mp H
 obtain ⟨t227, A50, H⟩ := H
 replace H : ((impl_SymbolSame.f k a0 a1 a2 a3).bind fun t228 => (if (t228 != t227) = true then (some false) else (some true))) = some r := H
 have A5 := Aside0.mk A50
 clear A50
 replace H := Option.bind_eq_some_iff.mp H
 obtain ⟨t228, A60, H⟩ := H
 replace H : (if (t228 != t227) = true then (some false) else (some true)) = some r := H
 have A6 := Aside0.mk A60
 clear A60
 by_cases c7 : (t228 != t227) = true
 · rw [if_pos c7] at H
   have c7b0 : (t228 != t227) = true := c7
   (try (have c7b1 : decide (t228 = t227) = false := by simpa using c7))
   (try (have c7b2 : (t228 == t227) = false := by simpa using c7))
   (try (have c7b3 : ¬ (t228 = t227) := by simpa using c7))
   clear c7
   obtain rfl := Option.some.inj H
   go_enter Try.func12, Try.ntmps12
   go_wp2_with (first | ((with_reducible refine gate_callee (f := 53) rfl ?_); refine goesL_ (some 15) rfl rfl Try.func53 (by kernel_rfl) rfl #[.int .i64 a0, .int .i64 a1, .int .i64 a2, .int .i64 a3] rfl (by (try simp only [List.map_toArray, List.map_cons, List.map_nil]); first | done | rfl | (simp only [List.length_drop, List.length_take]; rfl)) ?_; (with_reducible refine (spec_SymbolSame.calls k a0 a1 a2 a3 t227 _ A5.out).mono ?_); rintro e w8 ⟨rfl, hb⟩; refine ⟨_, rfl, ?_⟩; have n0_ := Aside0.mk (below_step (by repeat (first | (with_reducible first | exact HB.out | apply below_alloc | apply pw_below_drewN | apply below_drew1) | exact HB.out)) hb); clear HB; have HB := n0_; clear n0_; (try clear hb); (try clear hb2); (try clear hk); (try clear hi)) | ((with_reducible refine gate_callee (f := 54) rfl ?_); refine goesL_ (some 20) rfl rfl Try.func54 (by kernel_rfl) rfl #[.int .i64 a0, .int .i64 a1, .int .i64 a2, .int .i64 a3] rfl (by (try simp only [List.map_toArray, List.map_cons, List.map_nil]); first | done | rfl | (simp only [List.length_drop, List.length_take]; rfl)) ?_; (with_reducible refine (impl_SymbolSame.calls k a0 a1 a2 a3 t228 _ A6.out).mono ?_); rintro e w9 ⟨rfl, hb⟩; refine ⟨_, rfl, ?_⟩; have n0_ := Aside0.mk (below_step (by repeat (first | (with_reducible first | exact HB.out | apply below_alloc | apply pw_below_drewN | apply below_drew1) | exact HB.out)) hb); clear HB; have HB := n0_; clear n0_; (try clear hb); (try clear hb2); (try clear hk); (try clear hi)))
   go_ret
   exact ⟨by first | rfl | (simp [errW_none, errW_some] <;> rfl) | (simp [*, errW_none, errW_some] <;> rfl), by repeat (first | (with_reducible first | exact HB.out | apply below_alloc | apply pw_below_drewN | apply below_drew1) | exact HB.out)⟩
 · rw [if_neg c7] at H
   have c7b0 : (t228 != t227) = false := by simpa using c7
   (try (have c7b1 : decide (t228 = t227) = true := by simpa using c7))
   (try (have c7b2 : (t228 == t227) = true := by simpa using c7))
   clear c7
   obtain rfl := Option.some.inj H
   go_enter Try.func12, Try.ntmps12
   go_wp2_with (first | ((with_reducible refine gate_callee (f := 53) rfl ?_); refine goesL_ (some 15) rfl rfl Try.func53 (by kernel_rfl) rfl #[.int .i64 a0, .int .i64 a1, .int .i64 a2, .int .i64 a3] rfl (by (try simp only [List.map_toArray, List.map_cons, List.map_nil]); first | done | rfl | (simp only [List.length_drop, List.length_take]; rfl)) ?_; (with_reducible refine (spec_SymbolSame.calls k a0 a1 a2 a3 t227 _ A5.out).mono ?_); rintro e w10 ⟨rfl, hb⟩; refine ⟨_, rfl, ?_⟩; have n0_ := Aside0.mk (below_step (by repeat (first | (with_reducible first | exact HB.out | apply below_alloc | apply pw_below_drewN | apply below_drew1) | exact HB.out)) hb); clear HB; have HB := n0_; clear n0_; (try clear hb); (try clear hb2); (try clear hk); (try clear hi)) | ((with_reducible refine gate_callee (f := 54) rfl ?_); refine goesL_ (some 20) rfl rfl Try.func54 (by kernel_rfl) rfl #[.int .i64 a0, .int .i64 a1, .int .i64 a2, .int .i64 a3] rfl (by (try simp only [List.map_toArray, List.map_cons, List.map_nil]); first | done | rfl | (simp only [List.length_drop, List.length_take]; rfl)) ?_; (with_reducible refine (impl_SymbolSame.calls k a0 a1 a2 a3 t228 _ A6.out).mono ?_); rintro e w11 ⟨rfl, hb⟩; refine ⟨_, rfl, ?_⟩; have n0_ := Aside0.mk (below_step (by repeat (first | (with_reducible first | exact HB.out | apply below_alloc | apply pw_below_drewN | apply below_drew1) | exact HB.out)) hb); clear HB; have HB := n0_; clear n0_; (try clear hb); (try clear hb2); (try clear hk); (try clear hi)))
   go_ret
   exact ⟨by first | rfl | (simp [errW_none, errW_some] <;> rfl) | (simp [*, errW_none, errW_some] <;> rfl), by repeat (first | (with_reducible first | exact HB.out | apply below_alloc | apply pw_below_drewN | apply below_drew1) | exact HB.out)⟩

/-- THE ONE PURE STATEMENT of laws_FnExactSymbolSame: yours. -/
def laws_FnExactSymbolSame.Pure : Prop := ∀ (a0 : Int) (a1 : Int) (a2 : Int) (a3 : Int), (Lit.int .i64 a0).wf = true → (Lit.int .i64 a1).wf = true → (Lit.int .i64 a2).wf = true → (Lit.int .i64 a3).wf = true → ∃ k, laws_FnExactSymbolSame.f k a0 a1 a2 a3 = some true
theorem laws_FnExactSymbolSame.walk (P : laws_FnExactSymbolSame.Pure) (a0 : Int) (a1 : Int) (a2 : Int) (a3 : Int) (w : World) (w0 : (Lit.int .i64 a0).wf = true) (w1 : (Lit.int .i64 a1).wf = true) (w2 : (Lit.int .i64 a2).wf = true) (w3 : (Lit.int .i64 a3).wf = true) :
 Calls Try.prog 12 #[.int .i64 a0, .int .i64 a1, .int .i64 a2, .int .i64 a3] w fun e w' => e = .returned (.bool true) ∧ Below w.heap.size w w' := by
 obtain ⟨k, h⟩ := P a0 a1 a2 a3 w0 w1 w2 w3
 refine (laws_FnExactSymbolSame.calls k a0 a1 a2 a3 true w h).mono ?_
 rintro e w' ⟨rfl, hd⟩
 exact ⟨rfl, hd⟩

end Go.Proofs.Ytdeahlommlgceaa.PFnExactSymbolSame

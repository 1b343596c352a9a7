-- Written by a program of this repo (wip/gen/gen.py) over the kit's print.
-- (slim)
import Derived.Test.YtdeahlommlgceaaProg
import Derived.Below
import Derived.Deep.Draws
import Derived.Deep.AppendLies
import Derived.Maps.AppendAt
import Derived.OwnWalk
import Derived.Laws.BytesArg
import Derived.Laws.MakeOwn
import Derived.Laws.OwnMore
import Derived.Deep.OwnRows
import Derived.Tactics
import Derived.Lib.ConvBytes
import Derived.Laws.Slices
import Derived.WalkKit
import Derived.KernelRfl
import Derived.RowKit3
import Derived.Deep.LoopGhost
import Derived.Deep.QuietTactic
import Derived.BigQuiet
import Derived.WideLaws
import Derived.Deep.DeepCutAuto
import Derived.Deep.CutBlock
import Derived.Deep.RegionHeld3
import Derived.Laws.Rows
import Derived.Lib.AppendStr
import Derived.ArgAppend
import Derived.Laws.IdiomCopy
import Derived.OrdersHeld
import Derived.Laws.BitsLemmas
import Derived.RowKit
import Derived.Test.YtdeahlommlgceaaWWords
import Derived.Test.YtdeahlommlgceaaWLast
import Derived.Test.YtdeahlommlgceaaWTab
import Derived.Test.YtdeahlommlgceaaWQPut
import Derived.Test.YtdeahlommlgceaaWApart
import Derived.Test.YtdeahlommlgceaaWArr
import Derived.Test.YtdeahlommlgceaaWZeros
import Derived.Test.YtdeahlommlgceaaWFoot
import Derived.Test.YtdeahlommlgceaaWKept
import Derived.Test.YtdeahlommlgceaaWShare
import Derived.Test.YtdeahlommlgceaaWN
import Derived.Test.YtdeahlommlgceaaWRepsOne
import Derived.Test.YtdeahlommlgceaaWGuard
import Derived.Test.YtdeahlommlgceaaWNEv
import Derived.Test.YtdeahlommlgceaaWMore
namespace Go.Proofs.Ytdeahlommlgceaa.PFnNormal
open Go.RowKit Go.Proofs.YtdeahlommlgceaaW.PrintWords Go.Proofs.YtdeahlommlgceaaW.PrintLast Go.Proofs.YtdeahlommlgceaaW.PrintMore
attribute [local go_sem] max2_int min2_int max_two min_two max_three min_three max_four min_four   -- for this text's walks alone
set_option linter.unusedVariables false
set_option linter.unusedSimpArgs false



def errW : Option Int → Value
 | none => .nilIface
 | some c => .iface 0 (.int .i64 c)
theorem errW_none : errW none = .nilIface := rfl
theorem errW_some (c : Int) : errW (some c) = .iface 0 (.int .i64 c) := rfl

theorem info3 : (Try.prog.info? 3).map (fun i => (i.zero, i.size, i.bytes)) = some (some (.int .i64 0), 1, 8) := by kernel_rfl
theorem info5 : (Try.prog.info? 5).map (fun i => (i.zero, i.size, i.bytes)) = some (some (.int .u8 0), 1, 1) := by kernel_rfl
theorem info83 : (Try.prog.info? 83).map (fun i => (i.zero, i.size, i.bytes)) = some (some (.agg #[(.int .i64 0), (.int .i64 0)]), 2, 16) := by kernel_rfl
-- the values' own types
/-! #### struct type 83 -/
structure S83 where
 f0 : Int
 f1 : Int
def z83 : S83 := ⟨(0 : Int), (0 : Int)⟩
def k83 : Kd S83 := Kd.iso (Kd.pair (Kd.int .i64) (Kd.int .i64)) (fun x : S83 => (x.f0, x.f1))
theorem k83_open {w : World} {x : S83} {cs : List Value} (h : k83.K w x cs) : cs = [.int .i64 x.f0, .int .i64 x.f1] := by
 obtain ⟨_, _, rfl, rfl, rfl⟩ := h
 exact rfl
theorem k83_openM {w : World} {base : Nat} {ok : Nat → Prop} {x : S83} {cs : List Value} (h : k83.M w base ok x cs) : cs = [.int .i64 x.f0, .int .i64 x.f1] := by
 obtain ⟨_, _, rfl, rfl, rfl⟩ := h
 exact rfl
theorem k83_mk (w : World) (x : S83)  : k83.K w x [.int .i64 x.f0, .int .i64 x.f1] := ⟨[.int .i64 x.f0], [.int .i64 x.f1], rfl, rfl, rfl⟩
theorem k83_mkM (w : World) (base : Nat) (ok : Nat → Prop) (x : S83)  : k83.M w base ok x [.int .i64 x.f0, .int .i64 x.f1] := ⟨[.int .i64 x.f0], [.int .i64 x.f1], rfl, rfl, rfl⟩
def rd_T83 (xs : List S83) (i : Int) : S83 := xs.getD i.toNat z83
theorem at_T83 {w : World} {A : Option Addr} {n : Nat} {xs : List S83} (h : Kd.C k83 w A n xs) (i : Int) (h0 : 0 ≤ i) (h1 : i < n) : ∃ ad , A = some ad ∧ w.cell? (ad.add (i.toNat * 2)) = some (.int .i64 (rd_T83 xs i).f0) ∧ w.cell? ⟨(ad.add (i.toNat * 2)).block, (ad.add (i.toNat * 2)).off + 1, none⟩ = some (.int .i64 (rd_T83 xs i).f1) := by
 obtain ⟨ad, c, e, _, hK, hc0⟩ := Kd.C_get h z83 i h0 h1
 have hc : ∀ j u, c[j]? = some u → w.cell? (ad.add (i.toNat * 2 + j)) = some u := hc0
 obtain rfl := k83_open hK
 exact ⟨ad, e, hc 0 _ rfl, by rw [← add_field _ _ 1 (by omega)]; exact hc 1 _ rfl⟩

-- (pressed)
theorem z0_ {P : Prop} (h : P := by first | (rw [add_block]; exact Kd.own_blk (IsS81.own_ne HI0.out HO_5.out (by decide))) | (show (Addr.add _ _).block ≠ _; rw [add_block]; exact Kd.own_blk (IsS81.own_ne HI0.out HO_5.out (by decide))) | exact Kd.own_blk (IsS81.own_ne HI0.out HO_5.out (by decide)) | (have hb_ := Kd.own_blk (IsS81.own_ne HI0.out HO_5.out (by decide)); exact hb_)) : P := h
theorem z1_ {P : Prop} (h : P := by repeat (first | (with_reducible first | exact HB.out | apply below_alloc | apply pw_below_drewN | apply below_drew1 | refine below_set ?_ (IsS81.ge HI164.out)) | exact HB.out)) : P := h
theorem z2_ {P : Prop} (h : P := by repeat (first | (with_reducible first | exact HB.out | apply below_alloc | apply pw_below_drewN | apply below_drew1 | refine below_set ?_ (IsS81.ge HI0.out)) | exact HB.out)) : P := h
theorem z3_ {P : Prop} (h : P := by (with_reducible repeat (first | apply Kd.R_alloc | apply Kd.R_drewN | apply Kd.R_drew)); exact Kd.R_mono HO437.out (fun _ hk => ⟨hk.1.1.1.2, ⟨hk.1.1.2, ⟨hk.1.2, hk.2⟩⟩⟩)) : P := h
theorem z4_ {P : Prop} (h : P := by (with_reducible repeat (first | apply Kd.R_alloc | apply Kd.R_drewN | apply Kd.R_drew)); exact Kd.R_mono HO442.out (fun _ hk => ⟨hk.1.1.2, ⟨hk.1.1.1, ⟨hk.1.2, hk.2⟩⟩⟩)) : P := h
theorem z5_ {P : Prop} (h : P := by (with_reducible repeat (first | apply Kd.R_alloc | apply Kd.R_drewN | apply Kd.R_drew)); exact Kd.R_mono HO444.out (fun _ hk => ⟨hk.1.1.2, ⟨hk.1.1.1, ⟨hk.1.2, hk.2⟩⟩⟩)) : P := h
theorem z6_ {P : Prop} (h : P := by (with_reducible repeat (first | apply Kd.R_alloc | apply Kd.R_drewN | apply Kd.R_drew)); exact Kd.R_mono HO449.out (fun _ hk => ⟨hk.1.1.2, ⟨hk.1.2, ⟨hk.2, hk.1.1.1⟩⟩⟩)) : P := h
theorem z7_ {P : Prop} (h : P := by (with_reducible repeat (first | apply Kd.R_alloc | apply Kd.R_drewN | apply Kd.R_drew)); exact Kd.R_mono HO451.out (fun _ hk => ⟨hk.1.1.2, ⟨hk.1.2, ⟨hk.2, hk.1.1.1⟩⟩⟩)) : P := h
theorem z8_ {P : Prop} (h : P := by repeat (first | (with_reducible first | exact HB.out | apply below_alloc | apply pw_below_drewN | apply below_drew1 | refine below_set ?_ GE205.out) | exact HB.out)) : P := h
theorem z9_ {P : Prop} (h : P := by repeat (first | (with_reducible first | exact HI164.out | apply IsS81.alloc | apply IsS81.drewN | apply IsS81.drew | apply IsS81.set_1) | exact HI164.out)) : P := h
theorem z10_ {P : Prop} (h : P := by repeat (first | (with_reducible first | exact HI0.out | apply IsS81.alloc | apply IsS81.drewN | apply IsS81.drew | apply IsS81.set_1) | exact HI0.out)) : P := h
theorem z11_ {P : Prop} (h : P := by repeat (first | (with_reducible first | exact HK.out | apply KeepBut.set_ | apply keep_drewN | apply keep_drew | apply keep_alloc) | exact HK.out)) : P := h
theorem z12_ {P : Prop} (h : P := by (with_reducible repeat (first | apply Kd.R_alloc | apply Kd.R_drewN | apply Kd.R_drew)); exact Kd.R_mono HO_5.out (fun _ hk => ⟨trivial, hk⟩)) : P := h
theorem z13_ {P : Prop} (h : P := by first | exact Kd.R_nil _ _ _ _ _ | exact Kd.N_nil _ _ _ _ _ | exact Kd.V_nil _ _ _ _ _ | exact Kd.Q_nil _ _ _ _ _ | exact Kd.S_nil _ _ _ _ _) : P := h
theorem z14_ {P : Prop} (h : P := by (try simp only [List.map_toArray, List.map_cons, List.map_nil]); first | done | rfl | (simp only [List.length_drop, List.length_take]; rfl)) : P := h
theorem z15_ {P : Prop} (h : P := by repeat (first | (with_reducible first | exact HBW.out | apply below_alloc | apply pw_below_drewN | apply below_drew1) | exact HBW.out)) : P := h
theorem z16_ {P : Prop} (h : P := by repeat (first | (with_reducible first | exact HB.out | apply below_alloc | apply pw_below_drewN | apply below_drew1) | exact HB.out)) : P := h
theorem z17_ {P : Prop} (h : P := by (with_reducible repeat (first | apply Kd.R_alloc | apply Kd.R_drewN | apply Kd.R_drew)); exact Kd.R_mono HO_5.out (fun _ hk => hk.2)) : P := h
theorem z18_ {P : Prop} (h : P := by (with_reducible repeat (first | apply Kd.R_alloc | apply Kd.R_drewN | apply Kd.R_drew)); exact HO114.out) : P := h
theorem z19_ {P : Prop} (h : P := by (with_reducible repeat (first | apply Kd.R_alloc | apply Kd.R_drewN | apply Kd.R_drew)); exact HO437.out) : P := h
theorem z20_ {P : Prop} (h : P := by (with_reducible repeat (first | apply Kd.R_alloc | apply Kd.R_drewN | apply Kd.R_drew)); exact HO_14.out) : P := h
theorem z21_ {P : Prop} (h : P := by (with_reducible repeat (first | apply Kd.R_alloc | apply Kd.R_drewN | apply Kd.R_drew)); exact HO_11.out) : P := h
theorem z22_ {P : Prop} (h : P := by (with_reducible repeat (first | apply Kd.R_alloc | apply Kd.R_drewN | apply Kd.R_drew)); exact HO210.out) : P := h
theorem z23_ {P : Prop} (h : P := by (with_reducible repeat (first | apply Kd.R_alloc | apply Kd.R_drewN | apply Kd.R_drew)); exact HO_5.out) : P := h
theorem z24_ {P : Prop} (h : P := by (with_reducible repeat (first | apply Kd.R_alloc | apply Kd.R_drewN | apply Kd.R_drew)); exact HO_3.out) : P := h
theorem z25_ {P : Prop} (h : P := by (with_reducible repeat (first | apply Kd.R_alloc | apply Kd.R_drewN | apply Kd.R_drew)); exact HO_8.out) : P := h
theorem z26_ {P : Prop} (h : P := by (with_reducible repeat (first | apply Kd.R_alloc | apply Kd.R_drewN | apply Kd.R_drew)); exact HO_4.out) : P := h
theorem z27_ {P : Prop} (h : P := by (with_reducible repeat (first | apply Kd.R_alloc | apply Kd.R_drewN | apply Kd.R_drew)); exact HO_7.out) : P := h
theorem z28_ {P : Prop} (h : P := by (with_reducible repeat (first | apply Kd.R_alloc | apply Kd.R_drewN | apply Kd.R_drew)); exact HO_6.out) : P := h
theorem z29_ {P : Prop} (h : P := by first | rfl | (simp [errW_none, errW_some] <;> rfl) | (simp [*, errW_none, errW_some] <;> rfl)) : P := h
theorem z30_ {P : Prop} (h : P := by repeat (first | exact Drawn0.refl _ | apply Drawn0.step)) : P := h
theorem z31_ {P : Prop} (h : P := by first | (with_reducible assumption) | assumption) : P := h
theorem z32_ {P : Prop} (h : P := by first | rfl | (simp; done) | (simp [*]; done)) : P := h
theorem z33_ {P : Prop} (h : P := by first | omega | exact Nat.le_refl _) : P := h
-- (pressed 2)
def bs_ (n m : Nat) : Array Bool := ⟨(List.range n).map fun i => m.testBit i⟩
theorem mo_ {P : Prop} (h : P := by repeat' first | (with_reducible exact LeO.refl _) | (with_reducible exact LeO.none _) | (with_reducible refine LeO.ite ?_ ?_) | (with_reducible refine LeO.bind ?_ (fun _ => ?_)) | (with_reducible apply ih0) | (with_reducible apply ih1) | (with_reducible apply ih2) | (with_reducible apply ih3) | (with_reducible apply ih4) | (with_reducible apply ih5) | (with_reducible apply ih6) | (with_reducible apply spec_l6Rd_pick.mono) | (with_reducible apply spec_l91Form.mono) | (with_reducible apply spec_FormValid.mono) | (with_reducible apply impl_localSquare.mono) | (with_reducible apply impl_power.mono) | (with_reducible apply impl_symbol.mono) | (with_reducible apply impl_invariant.mono) | (with_reducible apply impl_vanishes.mono) | (with_reducible apply impl_FormBad.mono) | (with_reducible apply impl_vectorOk.mono) | (with_reducible apply impl_pair.mono) | (with_reducible apply impl_ZeroIs.mono) | (with_reducible apply laws_FnNormal.mono) | (with_reducible apply spec_l92Form.mono) | (with_reducible apply spec_DrawZeroNormal.mono) | (with_reducible apply impl_FormValid.mono) | (with_reducible apply impl_split.mono) | (with_reducible apply impl_primesOf.mono) | (with_reducible apply impl_coreOf.mono) | (with_reducible apply impl_gcd.mono) | (with_reducible apply impl_sharedPrime.mono) | (with_reducible apply impl_ZeroNormal.mono) | (with_reducible apply spec_l1Core.mono) | (with_reducible apply spec_l1Primes.mono) | (with_reducible apply spec_l1Gcd.mono) | (with_reducible apply spec_l5Two.mono) | (with_reducible apply spec_l5Normal.mono) | (with_reducible apply spec_ZeroNormal.mono) | (with_reducible apply laws_sameInts.mono) | (with_reducible apply impl_product.mono) | (with_reducible apply impl_squareRoot.mono) | (with_reducible apply impl_ZeroSearch.mono) | (with_reducible apply impl_CoreOf.mono) | (with_reducible apply impl_GcdOf.mono) | (with_reducible apply slices_Index_int_int.mono) | (with_reducible apply slices_Contains_int_int.mono) | (with_reducible apply slices_Sort_int_int.mono) | (with_reducible apply impl_placesOf.mono) | (with_reducible apply impl_FormPlaces.mono) | (with_reducible apply impl_lessTerms.mono) | (with_reducible apply impl_residue.mono) | apply ih0 | apply ih1 | apply ih2 | apply ih3 | apply ih4 | apply ih5 | apply ih6 | apply spec_l6Rd_pick.mono | apply spec_l91Form.mono | apply spec_FormValid.mono | apply impl_localSquare.mono | apply impl_power.mono | apply impl_symbol.mono | apply impl_invariant.mono | apply impl_vanishes.mono | apply impl_FormBad.mono | apply impl_vectorOk.mono | apply impl_pair.mono | apply impl_ZeroIs.mono | apply laws_FnNormal.mono | apply spec_l92Form.mono | apply spec_DrawZeroNormal.mono | apply impl_FormValid.mono | apply impl_split.mono | apply impl_primesOf.mono | apply impl_coreOf.mono | apply impl_gcd.mono | apply impl_sharedPrime.mono | apply impl_ZeroNormal.mono | apply spec_l1Core.mono | apply spec_l1Primes.mono | apply spec_l1Gcd.mono | apply spec_l5Two.mono | apply spec_l5Normal.mono | apply spec_ZeroNormal.mono | apply laws_sameInts.mono | apply impl_product.mono | apply impl_squareRoot.mono | apply impl_ZeroSearch.mono | apply impl_CoreOf.mono | apply impl_GcdOf.mono | apply slices_Index_int_int.mono | apply slices_Contains_int_int.mono | apply slices_Sort_int_int.mono | apply impl_placesOf.mono | apply impl_FormPlaces.mono | apply impl_lessTerms.mono | apply impl_residue.mono | exact LeO.none _ | refine LeO.ite ?_ ?_ | refine LeO.bind ?_ (fun _ => ?_)) : P := h
theorem pz_ {P : Program} {ops : Array Oper} {Q : Exit → Act → World → Prop} {md : Region.Mode} {S : World → Prop} {ds : List Nat} {T : Bool × List (List Nat × List Nat)} {oi : Oper} {v : Value} {fuel : Nat} {l : Array Bool} {a a' : Act} {w : World} (i N n m : Nat) (HT : Aside0 (rtab md ops = T)) (h : wpAnyLast P md ops Q S ds fuel (bs_ n m) a' w) (hi : ops[i]? = some oi := by rfl) (hN : oi.dst = some N := by rfl) (hc : anyT T l.toList (bs_ n m).toList i = true := by kernel_rfl) (hQ : ∀ c a w, Q (.panic c) (a.put oi.dst v) w → Q (.panic c) a w := by exact fun _ _ _ h => h) (hw : Region.wanted oi (yielded ops a.tmps) = true := by rfl) (hr : ∀ w', (execOp a.eval oi).run P w' = .ok (.value v) w' := by (intro w'; go_simp; with_reducible rfl)) (ha : a.put (some N) v = a' := by (simp only [Act.put, List.setIfInBounds_toArray, List.set_cons_zero, List.set_cons_succ, i64_w, i32_w]; rfl)) : wpAnyLast P md ops Q S ds (fuel + 1) l a w := pure_ (bs_ n m) hi hN (any_of HT.out hc) hQ (Or.inl ⟨hw, hr⟩) ha h
theorem pu_ {P : Program} {ops : Array Oper} {Q : Exit → Act → World → Prop} {md : Region.Mode} {S : World → Prop} {ds : List Nat} {T : Bool × List (List Nat × List Nat)} {oi : Oper} {fuel : Nat} {l : Array Bool} {a a' : Act} {w : World} (i N n m : Nat) (HT : Aside0 (rtab md ops = T)) (h : wpAnyLast P md ops Q S ds fuel (bs_ n m) a' w) (hi : ops[i]? = some oi := by rfl) (hN : oi.dst = some N := by rfl) (hc : anyT T l.toList (bs_ n m).toList i = true := by kernel_rfl) (hQ : ∀ c a w, Q (.panic c) (a.put oi.dst undef) w → Q (.panic c) a w := by exact fun _ _ _ h => h) (hw : Region.wanted oi (yielded ops a.tmps) = false := by rfl) (ha : a.put (some N) undef = a' := by (simp only [Act.put, List.setIfInBounds_toArray, List.set_cons_zero, List.set_cons_succ, i64_w, i32_w]; rfl)) : wpAnyLast P md ops Q S ds (fuel + 1) l a w := pure_ (bs_ n m) hi hN (any_of HT.out hc) hQ (Or.inr ⟨hw, rfl⟩) ha h
theorem ta_ {P : Program} {ops : Array Oper} {Q : Exit → Act → World → Prop} {md : Region.Mode} {S : World → Prop} {ds : List Nat} {T : Bool × List (List Nat × List Nat)} {B : List Nat} {oi : Oper} {v : Value} {fuel : Nat} {l : Array Bool} {a a' : Act} {w : World} (i N n m : Nat) (HT : Aside0 (rtab md ops = T)) (HW : Aside0 (waitsOk T.2 B = true)) (hS : S w) (h : wpAnyLast P md ops Q S ds fuel (bs_ n m) a' w) (hi : ops[i]? = some oi := by rfl) (hN : oi.dst = some N := by rfl) (hc : takeW T B ds l.toList (bs_ n m).toList i = true := by kernel_rfl) (hQ : ∀ c a w, Q (.panic c) (a.put oi.dst v) w → Q (.panic c) a w := by exact fun _ _ _ h => h) (hw : Region.wanted oi (yielded ops a.tmps) = true := by rfl) (hr : ∀ w', S w' → (execOp a.eval oi).run P w' = .ok (.value v) w' := by (intro w' s_; (repeat (obtain ⟨s0_, s_⟩ := s_)); go_simp; with_reducible rfl)) (ha : a.put (some N) v = a' := by (simp only [Act.put, List.setIfInBounds_toArray, List.set_cons_zero, List.set_cons_succ, i64_w, i32_w]; rfl)) : wpAnyLast P md ops Q S ds (fuel + 1) l a w := take_ (bs_ n m) hi hN (take_ofW HT.out HW.out hc) hQ (Or.inl ⟨hw, hr⟩) hS ha h
theorem on_ {P : Program} {ops : Array Oper} {Q : Exit → Act → World → Prop} {md : Region.Mode} {S : World → Prop} {ds : List Nat} {T : Bool × List (List Nat × List Nat)} {oi : Oper} {fuel : Nat} {l : Array Bool} {a : Act} {w : World} (i N n m : Nat) (HT : Aside0 (rtab md ops = T)) (h : ∀ K : Act → World → Prop, Shut (∀ a' w', S w' → (S w' → wpAnyLast P md ops Q S ds fuel (bs_ n m) a' w') → K a' w') → if Region.wanted oi (yielded ops a.tmps) = true then Oper.wp P oi a w K Q else K (a.put (some N) undef) w) (hi : ops[i]? = some oi := by rfl) (hN : oi.dst = some N := by rfl) (hc : (readyT T.2 l.toList == [i] && l.toList.set i true == (bs_ n m).toList) = true := by kernel_rfl) (hd : i ∉ ds := by decide) : wpAnyLast P md ops Q S ds (fuel + 1) l a w := one_ (bs_ n m) hi hN (one_of HT.out hc) hd h
theorem dn_ {P : Program} {ops : Array Oper} {Q : Exit → Act → World → Prop} {md : Region.Mode} {S : World → Prop} {ds : List Nat} {T : Bool × List (List Nat × List Nat)} {l : Array Bool} {a : Act} {w : World} {n : Nat} (HT : Aside0 (rtab md ops = T)) (h : Q .normal a w) (hc : (readyT T.2 l.toList == []) = true := by kernel_rfl) : wpAnyLast P md ops Q S ds n l a w := done_ (done_of HT.out hc) h
-- (pressed 3)
theorem bi_ {α β : Type} {x : Option α} {f : α → Option β} {b : β} (h : x.bind f = some b) : ∃ a, Aside0 (x = some a) ∧ f a = some b := by
 obtain ⟨a, h1, h2⟩ := Option.bind_eq_some_iff.mp h
 exact ⟨a, ⟨h1⟩, h2⟩
theorem by_ {α β : Type} {E : α} {f : α → Option β} {b : Option β} (h : (some E).bind f = b) : ∃ y, Aside0 (y = E) ∧ f y = b := ⟨E, ⟨rfl⟩, h⟩
theorem in_ {α : Type} {c : Prop} {d : Decidable c} {a : Option α} {b : α} (h : (@ite _ c d a none) = some b) : c ∧ a = some b := by
 by_cases k : c
 · exact ⟨k, by rw [if_pos k] at h; exact h⟩
 rw [if_neg k] at h; cases h
theorem jn_ {α : Type} {c : Prop} {d : Decidable c} {a : Option α} {b : α} (h : (@ite _ c d none a) = some b) : ¬ c ∧ a = some b := by
 by_cases k : c
 · rw [if_pos k] at h; cases h
 exact ⟨k, by rw [if_neg k] at h; exact h⟩
theorem it_ {α : Type} {d : Decidable (true = true)} {a b : α} : (@ite _ (true = true) d a b) = a := if_pos rfl
theorem jt_ {α : Type} {d : Decidable (false = true)} {a b : α} : (@ite _ (false = true) d a b) = b := if_neg (fun h => nomatch h)
end Go.Proofs.Ytdeahlommlgceaa.PFnNormal

/- What the printed functions of the law FnTimes compute, and why the law holds of it; for all arguments that its statement speaks of. -/
import Derived.Test.YtkbklmlahnjcmaaH
import Derived.Test.YtkbklmlahnjcmaaPFnTimesx7
import Derived.Test.YtkbklmlahnjcmaaNtK
import Derived.Test.YtkbklmlahnjcmaaNtB
import Derived.Test.YtkbklmlahnjcmaaNtA
import Derived.Test.YtkbklmlahnjcmaaNtC
import Derived.Test.YtkbklmlahnjcmaaNtD
import Derived.Test.YtkbklmlahnjcmaaNtE
import Derived.Test.YtkbklmlahnjcmaaNtF
import Derived.Test.YtkbklmlahnjcmaaNtL
import Derived.Test.YtkbklmlahnjcmaaNtG
import Derived.Test.YtkbklmlahnjcmaaNtI
set_option linter.unusedVariables false
set_option linter.unusedSimpArgs false
namespace Go.Proofs.Ytkbklmlahnjcmaa.KFnTimes
open Go.RowKit Go.Proofs.YtkbklmlahnjcmaaW.PrintWords Go.Proofs.YtkbklmlahnjcmaaW.PrintLast Go.Proofs.YtkbklmlahnjcmaaW.PrintMore Go.Proofs.Ytkbklmlahnjcmaa.PFnTimes Go.Proofs.Ytkbklmlahnjcmaa.K
open Go.Proofs.Ytkbklmlahnjcmaa
/-- A term of a form. -/
def okT (t : Int) : Bool := decide (t ≠ 0 ∧ -30 ≤ t ∧ t ≤ 30)
theorem okT_iff {t : Int} : okT t = true ↔ t ≠ 0 ∧ -30 ≤ t ∧ t ≤ 30 := by unfold okT; simp
/-- Is it a form? -/
def fv (l : List Int) : Bool := l.all okT && decide (1 ≤ l.length ∧ l.length ≤ 4)
theorem fv_iff {l : List Int} : fv l = true ↔ (∀ t ∈ l, t ≠ 0 ∧ -30 ≤ t ∧ t ≤ 30) ∧ 1 ≤ l.length ∧ l.length ≤ 4 := by
 unfold fv; simp [okT_iff]
/-- Not too large, as far as the walk goes. -/
def Md (l : List Int) : Prop := l.length ≤ 1000000 ∧ ∀ t ∈ l, -1000000000000 ≤ t ∧ t ≤ 1000000000000
theorem Md.of_fv {l : List Int} (h : fv l = true) : Md l := by
 obtain ⟨h1, h2, h3⟩ := fv_iff.1 h
 exact ⟨by omega, fun t ht => by have := h1 t ht; omega⟩
/-- How many are less than 0. -/
def less : List Int → Nat
 | [] => 0
 | t :: l => if t < 0 then less l + 1 else less l
theorem less_le : ∀ l : List Int, less l ≤ l.length
 | [] => by simp [less]
 | t :: l => by have := less_le l; unfold less; split <;> simp <;> omega
theorem less_append : ∀ a b : List Int, less (a ++ b) = less a + less b
 | [], b => by simp [less]
 | t :: a, b => by
  have := less_append a b
  simp only [List.cons_append, less]
  split <;> omega
theorem less_ng : ∀ l : List Int, less l = Nt.ng l
 | [] => rfl
 | t :: l => by unfold less Nt.ng; rw [less_ng l]
theorem fv_nz {l : List Int} (h : fv l = true) : Nt.Nz l := fun t ht => ((fv_iff.1 h).1 t ht).1
theorem fv_len {l : List Int} (h : fv l = true) : 1 ≤ l.length ∧ l.length ≤ 4 := (fv_iff.1 h).2
theorem fv_bd {l : List Int} (h : fv l = true) : ∀ t ∈ l, t.natAbs ≤ 30 := fun t ht => by have := (fv_iff.1 h).1 t ht; omega
theorem step_bd {a t : Int} {n : Nat} (h : a.natAbs * 30 ^ (n + 1) ≤ 810000) (ht : t.natAbs ≤ 30) : (a * t).natAbs * 30 ^ n ≤ 810000 ∧ (a * t).natAbs ≤ 810000 := by
 have h1 : (a * t).natAbs * 30 ^ n ≤ 810000 := by
  refine Nat.le_trans ?_ h
  rw [Int.natAbs_mul, Nat.pow_succ, Nat.mul_comm (30 ^ n) 30, ← Nat.mul_assoc]
  exact Nat.mul_le_mul_right _ (Nat.mul_le_mul_left _ ht)
 exact ⟨h1, Nat.le_trans (Nat.le_mul_of_pos_right _ (Nat.pow_pos (by omega))) h1⟩
theorem prod_le : ∀ {l : List Int}, (∀ t ∈ l, t.natAbs ≤ 30) → (Nt.prod l).natAbs ≤ 30 ^ l.length
 | [], _ => by simp [Nt.prod]
 | t :: l, h => by
  unfold Nt.prod
  rw [Int.natAbs_mul, List.length_cons, Nat.pow_succ, Nat.mul_comm]
  exact Nat.mul_le_mul (prod_le fun s hs => h s (by simp [hs])) (h t (by simp))
theorem pow_four {n : Nat} (h : n ≤ 4) : 30 ^ n ≤ 810000 := Nat.le_trans (Nat.pow_le_pow_right (by omega) h) (by omega)
theorem prod_bd {l : List Int} (h : fv l = true) : Nt.prod l ≠ 0 ∧ (Nt.prod l).natAbs ≤ 810000 :=
 ⟨Nt.prod_nz (fv_nz h), Nat.le_trans (prod_le (fv_bd h)) (pow_four (fv_len h).2)⟩
theorem nz_take {l : List Int} (h : Nt.Nz l) (i : Nat) : Nt.Nz (l.take i) := fun t ht => h t (List.mem_of_mem_take ht)
theorem rd_take {xs : List Int} {i j : Nat} (h : j < i) : rd (xs.take i) (j : Int) = rd xs (j : Int) := by
 unfold rd
 simp [List.getD_eq_getElem?_getD, List.getElem?_take, h]
theorem pm_bd {x : Int} (h : x = 1 ∨ x = -1) : -1 ≤ x ∧ x ≤ 1 := by omega
theorem pm_mul {x y : Int} (h : x = 1 ∨ x = -1) (k : y = 1 ∨ y = -1) : x * y = 1 ∨ x * y = -1 := by
 rcases h with rfl | rfl <;> rcases k with rfl | rfl <;> simp
theorem prod_snoc (l : List Int) (t : Int) : Nt.prod (l ++ [t]) = Nt.prod l * t := by rw [Nt.prod_app]; simp [Nt.prod]
theorem getlen {xs : List Int} {i : Nat} (h : i < xs.length) : xs.drop i = rd xs (i : Int) :: xs.drop (i + 1) := by
 rw [List.drop_eq_getElem_cons h]
 congr 1
 unfold rd
 simp [List.getD_eq_getElem?_getD, h]
theorem tmod_emod {a m : Int} (h : 0 ≤ a) : Int.tmod a m = a % m := Int.tmod_eq_emod_of_nonneg h
theorem tdiv_ediv {a m : Int} (h : 0 ≤ a) : Int.tdiv a m = a / m := Int.tdiv_eq_ediv_of_nonneg h
theorem small_mul2 {a b : Int} (ha : 0 ≤ a) (ha' : a ≤ 5000) (hb : 0 ≤ b) (hb' : b ≤ 5000) : 0 ≤ a * b ∧ a * b ≤ 25000000 := by
 have h1 : a * b ≤ 5000 * 5000 := Int.mul_le_mul (by omega) (by omega) hb (by omega)
 have h2 := Int.mul_nonneg ha hb
 omega
theorem sq_le {m p : Int} (h0 : 2 ≤ m) (h : m * m ≤ p) : m < p := by
 have : m * 2 ≤ m * m := Int.mul_le_mul_of_nonneg_left h0 (by omega)
 omega
theorem small_sq {m : Int} (h0 : 0 ≤ m) (h : m ≤ 100000) : 0 ≤ m * m ∧ m * m ≤ 10000000000 := by
 have h1 : m * m ≤ m * 100000 := Int.mul_le_mul_of_nonneg_left h h0
 have h2 := Int.mul_nonneg h0 h0
 omega
/-- A name is no larger than this. -/
theorem names_small {p : Int} (hp : Nt.Pl p) (hp5 : p ≤ 5000) : ∀ n ∈ Nt.names p, n ≠ 0 ∧ n.natAbs ≤ 25000000 := by
 intro n hn
 refine ⟨Nt.names_nz hp n hn, ?_⟩
 unfold Nt.names at hn
 split at hn
 · simp at hn; omega
 · split at hn
   · simp at hn; omega
   · rename_i h0 h2
     have hp := hp.resolve_left h0
     obtain ⟨n1, n2, n3, n4⟩ := Nt.nr_spec hp h2
     have hm := small_mul2 (a := p) (b := Nt.nr p) (by omega) (by omega) (by omega) (by omega)
     simp only [List.mem_cons, List.not_mem_nil, or_false] at hn
     rcases hn with rfl | rfl | rfl | rfl <;> omega
/-- Is it a number? -/
def isN (a : Int) : Bool := decide (-5000 ≤ a ∧ a ≤ 5000)
theorem isN_iff {a : Int} : isN a = true ↔ -5000 ≤ a ∧ a ≤ 5000 := by unfold isN; simp
/-- The cores of the terms times n. -/
noncomputable def tms (f : List Int) (n : Int) : List Int := f.map fun t => Nt.cor (t * n)
open Classical in
/-- What FormTimes tells. -/
noncomputable def ftimes (f : List Int) (n : Int) : List Int × Bool := if fv f = true ∧ n ≠ 0 ∧ isN n = true ∧ fv (tms f n) = true then (tms f n, true) else ([], false)
theorem ftimes_of {f : List Int} {n : Int} (h : fv f = true ∧ n ≠ 0 ∧ isN n = true ∧ fv (tms f n) = true) : ftimes f n = (tms f n, true) := by unfold ftimes; rw [if_pos h]
theorem ftimes_no {f : List Int} {n : Int} (h : ¬ (fv f = true ∧ n ≠ 0 ∧ isN n = true ∧ fv (tms f n) = true)) : ftimes f n = ([], false) := by unfold ftimes; rw [if_neg h]
theorem tms_bd {t n : Int} (ht : t ≠ 0 ∧ t.natAbs ≤ 30) (hn : n ≠ 0) (hN : isN n = true) : t * n ≠ 0 ∧ (t * n).natAbs ≤ 150000 := by
 have := isN_iff.1 hN
 refine ⟨Int.mul_ne_zero ht.1 hn, ?_⟩
 rw [Int.natAbs_mul]
 exact Nat.le_trans (Nat.mul_le_mul ht.2 (show n.natAbs ≤ 5000 by omega)) (by omega)
theorem tms_md {f : List Int} {n : Int} (h : fv f = true) (hn : n ≠ 0) (hN : isN n = true) : Md (tms f n) := by
 have hl := fv_len h
 refine ⟨by unfold tms; simp; omega, fun x hx => ?_⟩
 obtain ⟨t, ht, rfl⟩ := List.mem_map.1 hx
 obtain ⟨b1, b2⟩ := tms_bd ⟨fv_nz h t ht, fv_bd h t ht⟩ hn hN
 have := Nt.cor_le b1
 omega
theorem tms_one {f : List Int} (h : fv f = true) : fv (tms f 1) = true := by
 have hl := fv_len h
 refine fv_iff.2 ⟨fun x hx => ?_, by unfold tms; simp; omega⟩
 obtain ⟨t, ht, rfl⟩ := List.mem_map.1 hx
 have h0 := fv_nz h t ht
 have hb := fv_bd h t ht
 rw [Int.mul_one]
 have := Nt.cor_le h0
 have := Nt.cor_nz h0
 omega
theorem ftimes_one {f : List Int} (h : fv f = true) : ftimes f 1 = (tms f 1, true) := ftimes_of ⟨h, by omega, by decide, tms_one h⟩
theorem impl_FormValid_l (xs : List Int) (hx : Md xs) : ∀ (r : List Int) (i : Nat), xs.drop i = r → Ev (fun k => impl_FormValid.l0 k xs xs (xs.length : Int) (i : Int)) (r.all okT && decide (1 ≤ xs.length ∧ xs.length ≤ 4))
 | [], i, h => by
  have := drop_nil h
  refine Ev.succ ?_
  simp only [impl_FormValid.l0]
  refine Ev.neg (by omega) ?_
  by_cases h1 : (xs.length : Int) ≥ 1
  · exact Ev.pos h1 (Ev.ret (by simp only [List.all_nil, Bool.true_and, decide_eq_decide]; omega))
  · exact Ev.neg h1 (Ev.ret (by simp only [List.all_nil, Bool.true_and]; symm; rw [decide_eq_false_iff_not]; omega))
 | t :: r, i, h => by
  obtain ⟨h1, h2, h3⟩ := drop_cons h
  have hb := hx.2 t (h2 ▸ rd_mem h1)
  have hl := hx.1
  refine Ev.succ ?_
  simp only [impl_FormValid.l0]
  rw [h2]
  refine Ev.pos (by omega) (Ev.pos (by omega) (Ev.pos (by omega) ?_))
  by_cases h0 : t = 0
  · exact Ev.pos h0 (Ev.ret (by simp [okT, h0]))
  · refine Ev.neg h0 ?_
    unfold impl_size.f
    rw [w64 (by omega) (by omega)]
    refine Ev.sbind ?_
    have hm : mx t (-t) = if t < 0 then -t else t := by unfold mx; split <;> split <;> omega
    rw [hm]
    by_cases hs : (if t < 0 then -t else t) > 30
    · refine Ev.pos hs (Ev.ret ?_)
      have : okT t = false := by unfold okT; simp; intro _ _; split at hs <;> omega
      simp [this]
    · refine Ev.neg hs ?_
      have : okT t = true := okT_iff.2 ⟨h0, by split at hs <;> omega, by split at hs <;> omega⟩
      rw [w64 (by omega) (by omega), cast_succ]
      refine Ev.to (impl_FormValid_l xs hx r (i + 1) h3) ?_
      simp [this]
theorem impl_FormValid_ev {xs : List Int} (hx : Md xs) : Ev (fun k => impl_FormValid.f k xs) (fv xs) := by
 unfold impl_FormValid.f
 exact impl_FormValid_l xs hx xs 0 rfl
theorem impl_isNumber_eq (a : Int) : impl_isNumber.f a = some (isN a) := by
 unfold impl_isNumber.f isN
 split
 · congr 1; simp only [decide_eq_decide]; omega
 · congr 1; simp; omega
theorem div_facts {n p : Int} (hp : 2 ≤ p) (hn : n ≠ 0) (h : Int.tmod n p = 0) : Int.tdiv n p ≠ 0 ∧ (Int.tdiv n p).natAbs < n.natAbs ∧ Nt.vl n p = Nt.vl (Int.tdiv n p) p + 1 ∧ Nt.un n p = Nt.un (Int.tdiv n p) p := by
 obtain ⟨c, rfl⟩ := Nt.tmod_zero_iff.1 h
 rw [Int.mul_tdiv_cancel_left _ (by omega)]
 have hc : c ≠ 0 := by intro e; subst e; simp at hn
 refine ⟨hc, ?_, ?_⟩
 · rw [Int.natAbs_mul]
   have h1 : 2 ≤ p.natAbs := by omega
   have := Nat.mul_le_mul_right c.natAbs h1
   have : 0 < c.natAbs := by omega
   omega
 · obtain ⟨h1, h2⟩ := Nt.vl_spec hp hc
   refine Nt.vl_eq hp hn h2 ?_
   rw [Int.pow_succ]
   generalize p ^ Nt.vl c p = X at *
   generalize Nt.un c p = U at *
   rw [h1]; grind
theorem div_none {n p : Int} (hp : 2 ≤ p) (hn : n ≠ 0) (h : ¬ Int.tmod n p = 0) : Nt.vl n p = 0 ∧ Nt.un n p = n :=
 Nt.vl_unit hp hn (fun hd => h (Nt.tmod_zero_iff.2 hd))
theorem vl_le_abs {n p : Int} (hp : 2 ≤ p) : ∀ (d : Nat) (n : Int), n ≠ 0 → n.natAbs ≤ d → Nt.vl n p ≤ n.natAbs
 | 0, n, hn, h => by omega
 | d + 1, n, hn, h => by
  by_cases ht : Int.tmod n p = 0
  · obtain ⟨h1, h2, h3, _⟩ := div_facts hp hn ht
    have := vl_le_abs (n := n) hp d (Int.tdiv n p) h1 (by omega)
    omega
  · rw [(div_none hp hn ht).1]; omega
theorem impl_split_l {p : Int} (hp : 2 ≤ p) : ∀ (d : Nat) (n : Int) (v : Nat), n ≠ 0 → n.natAbs ≤ d → d ≤ 1000000000000 → v + n.natAbs ≤ 1000000000000 →
 Ev (fun k => impl_split.l0 k n p (v : Int)) (((v + Nt.vl n p : Nat) : Int), Nt.un n p) := by
 intro d
 induction d with
 | zero => intro n v hn h; omega
 | succ d ih =>
  intro n v hn h hd hv
  refine Ev.succ ?_
  simp only [impl_split.l0]
  refine Ev.neg (by omega) ?_
  by_cases ht : Int.tmod n p = 0
  · obtain ⟨h1, h2, h3, h4⟩ := div_facts hp hn ht
    refine Ev.pos ht ?_
    rw [w64 (x := Int.tdiv n p) (by omega) (by omega), w64 (by omega) (by omega), cast_succ]
    refine Ev.to (ih (Int.tdiv n p) (v + 1) h1 (by omega) (by omega) (by omega)) ?_
    rw [h3, h4]; congr 2; omega
  · refine Ev.neg ht (Ev.ret ?_)
    obtain ⟨h1, h2⟩ := div_none hp hn ht
    rw [h1, h2]; rfl
theorem impl_split_ev {n p : Int} (hp : 2 ≤ p) (hn : n ≠ 0) (hb : n.natAbs ≤ 1000000000000) : Ev (fun k => impl_split.f k n p) ((Nt.vl n p : Int), Nt.un n p) := by
 have := impl_split_l hp _ n 0 hn (Nat.le_refl _) hb (by omega)
 unfold impl_split.f
 simpa using this
theorem sq_small {p : Int} (h0 : 0 ≤ p) (h : p ≤ 1000001) : 0 ≤ p * p ∧ p * p ≤ 1000002000001 := by
 have h1 : p * p ≤ 1000001 * 1000001 := Int.mul_le_mul h h (by omega) (by omega)
 have h2 := Int.mul_nonneg h0 h0
 omega
theorem sq_lt {p n : Int} (h : p * p ≤ n) (hn : n ≤ 1000000000000) (h0 : 0 ≤ p) : p ≤ 1000000 := by
 rcases Int.lt_or_le 1000000 p with h' | h'
 · have : 1000001 * 1000001 ≤ p * p := Int.mul_le_mul (by omega) (by omega) (by omega) (by omega)
   omega
 · exact h'
theorem impl_primesOf_l {N : Int} (hN : N ≤ 1000000000000) : ∀ (d : Nat) (n p : Int) (out : List Int), (1000001 - p).toNat ≤ d → 2 ≤ p → p ≤ 1000001 → (out.length : Int) ≤ p → Nt.St N n p out →
 ∃ L, Nt.IsPL N L ∧ Ev (fun k => impl_primesOf.l0 k n out p) L := by
 intro d
 induction d with
 | zero =>
  intro n p out hd h2 h3 ho hS
  have hs := sq_small (p := p) (by omega) h3
  have hle : n < p * p := by
   have e : p = 1000001 := by omega
   subst e
   have := hS.2.1
   omega
  refine ⟨_, hS.last h2 hle, Ev.succ ?_⟩
  simp only [impl_primesOf.l0]
  rw [w64 (by omega) (by omega)]
  refine Ev.neg (by omega) ?_
  by_cases hn : n > 1
  · exact Ev.pos hn (Ev.pos (by omega) (Ev.ret (if_pos hn).symm))
  · exact Ev.neg hn (Ev.ret (if_neg hn).symm)
 | succ d ih =>
  intro n p out hd h2 h3 ho hS
  have hs := sq_small (p := p) (by omega) h3
  by_cases hle : p * p ≤ n
  · have hp6 := sq_lt hle (by have := hS.2.1; omega) (by omega)
    by_cases hdv : p ∣ n
    · obtain ⟨L, h4, h5⟩ := ih (Nt.un n p) (p + 1) (out ++ [p]) (by omega) (by omega) (by omega) (by simp; omega) (hS.step h2 hdv)
      refine ⟨L, h4, Ev.succ ?_⟩
      simp only [impl_primesOf.l0]
      have := hS.1
      have := hS.2.1
      rw [w64 (x := p * p) (by omega) (by omega), w64 (x := p + 1) (by omega) (by omega)]
      exact Ev.pos hle (Ev.neg (by omega) (Ev.pos (Nt.tmod_zero_iff.2 hdv) (Ev.pos (by omega) (Ev.bind (impl_split_ev h2 (by omega) (by omega)) h5))))
    · obtain ⟨L, h4, h5⟩ := ih n (p + 1) out (by omega) (by omega) (by omega) (by omega) (hS.skip hdv)
      refine ⟨L, h4, Ev.succ ?_⟩
      simp only [impl_primesOf.l0]
      rw [w64 (x := p * p) (by omega) (by omega), w64 (x := p + 1) (by omega) (by omega)]
      exact Ev.pos hle (Ev.neg (by omega) (Ev.neg (fun h => hdv (Nt.tmod_zero_iff.1 h)) h5))
  · refine ⟨_, hS.last h2 (by omega), Ev.succ ?_⟩
    simp only [impl_primesOf.l0]
    rw [w64 (by omega) (by omega)]
    refine Ev.neg (by omega) ?_
    by_cases hn : n > 1
    · exact Ev.pos hn (Ev.pos (by omega) (Ev.ret (if_pos hn).symm))
    · exact Ev.neg hn (Ev.ret (if_neg hn).symm)
theorem pl_abs {n : Int} {L : List Int} (h : Nt.IsPL (n.natAbs : Int) L) : Nt.IsPL n L := ⟨h.1, fun p => by rw [h.2, Int.dvd_natAbs]⟩
theorem mx_abs' (t : Int) : mx t (-t) = (t.natAbs : Int) := by unfold mx; split <;> omega
theorem impl_primesOf_ev {n : Int} (hn : n ≠ 0) (hn2 : n.natAbs ≤ 1000000000000) : ∃ L, Nt.IsPL n L ∧ Ev (fun k => impl_primesOf.f k n) L := by
 obtain ⟨L, h1, h2⟩ := impl_primesOf_l (N := (n.natAbs : Int)) (by omega) _ (n.natAbs : Int) 2 [] (Nat.le_refl _) (by omega) (by omega) (by simp) (Nt.St.start (by omega))
 refine ⟨L, pl_abs h1, ?_⟩
 unfold impl_primesOf.f impl_size.f
 rw [w64 (by omega) (by omega), mx_abs']
 exact Ev.sbind h2
theorem sq_ne {p : Int} (hp : 2 ≤ p) : p * p ≠ 0 := Int.mul_ne_zero (by omega) (by omega)
/-- Dividing by a square once. -/
theorem core_step {N n r p : Int} (hN : N ≠ 0) (hN2 : N.natAbs ≤ 1000000000) (hp : 2 ≤ p) (h : N = n * (r * r)) (hr : 1 ≤ r) (hd : p * p ∣ n) :
 Int.tdiv n (p * p) ≠ 0 ∧ (Int.tdiv n (p * p)).natAbs < n.natAbs ∧ N = Int.tdiv n (p * p) * ((r * p) * (r * p)) ∧ 1 ≤ r * p ∧ Int.tdiv n (p * p) ∣ n := by
 obtain ⟨m, rfl⟩ := hd
 have hpp := sq_ne hp
 rw [Int.mul_tdiv_cancel_left _ hpp]
 have hm : m ≠ 0 := by intro e; subst e; simp at h; exact hN h
 have h4 : 2 * 2 ≤ p * p := Int.mul_le_mul hp hp (by omega) (by omega)
 refine ⟨hm, ?_, by rw [h]; grind, ?_, ⟨p * p, by rw [Int.mul_comm]⟩⟩
 · rw [Int.natAbs_mul]
   have : 4 * m.natAbs ≤ (p * p).natAbs * m.natAbs := Nat.mul_le_mul_right _ (by omega)
   omega
 · have : 1 * 1 ≤ r * p := Int.mul_le_mul hr (by omega) (by omega) (by omega)
   omega
theorem core_bd {N n r : Int} (hN : N ≠ 0) (hN2 : N.natAbs ≤ 1000000000) (h : N = n * (r * r)) (hr : 1 ≤ r) : r ≤ 100000 ∧ n ≠ 0 ∧ n.natAbs ≤ 1000000000 := by
 have hn : n ≠ 0 := by intro e; subst e; simp at h; exact hN h
 have e : N.natAbs = n.natAbs * (r.natAbs * r.natAbs) := by rw [← Int.natAbs_mul, ← Int.natAbs_mul, ← h]
 have a : 1 * (r.natAbs * r.natAbs) ≤ n.natAbs * (r.natAbs * r.natAbs) := Nat.mul_le_mul_right _ (by omega)
 have b : n.natAbs * (1 * 1) ≤ n.natAbs * (r.natAbs * r.natAbs) := Nat.mul_le_mul_left _ (Nat.mul_le_mul (by omega) (by omega))
 refine ⟨?_, hn, by omega⟩
 rcases Int.lt_or_le 100000 r with h' | h'
 · exfalso
   have : 100001 * 100001 ≤ r.natAbs * r.natAbs := Nat.mul_le_mul (by omega) (by omega)
   omega
 · exact h'
theorem impl_coreOf_l1 {N p : Int} (hN : N ≠ 0) (hN2 : N.natAbs ≤ 1000000000) (hp : 2 ≤ p) (hp2 : p ≤ 1000000000) (L : List Int) (i : Nat) (hi : i < L.length) (hL : L.length ≤ 1000000) (res : Int × Int) (B : Int → Prop)
 (hB : ∀ m n, B n → m ∣ n → B m)
 (hnext : ∀ n r, N = n * (r * r) → 1 ≤ r → B n → ¬ p * p ∣ n → Ev (fun k => impl_coreOf.l0 k n r L (L.length : Int) ((i + 1 : Nat) : Int)) res) :
 ∀ (d : Nat) (n r : Int), n.natAbs ≤ d → N = n * (r * r) → 1 ≤ r → B n → Ev (fun k => impl_coreOf.l1 k n r p L (L.length : Int) (i : Int)) res := by
 intro d
 induction d with
 | zero =>
  intro n r hd h hr
  have := (core_bd hN hN2 h hr).2.1
  omega
 | succ d ih =>
  intro n r hd h hr hb
  obtain ⟨b1, b2, b3⟩ := core_bd hN hN2 h hr
  have hpp : 0 ≤ p * p ∧ p * p ≤ 1000000000000000000 := ⟨Int.mul_nonneg (by omega) (by omega), Int.le_trans (Int.mul_le_mul hp2 hp2 (by omega) (by omega)) (by omega)⟩
  have hp0 := sq_ne hp
  refine Ev.succ ?_
  simp only [impl_coreOf.l1]
  rw [w64 (x := p * p) (by omega) (by omega)]
  refine Ev.neg hp0 ?_
  by_cases hdv : p * p ∣ n
  · obtain ⟨c1, c2, c3, c4, c5⟩ := core_step hN hN2 hp h hr hdv
    have hrp : r * p ≤ 100000 * 1000000000 := Int.mul_le_mul b1 hp2 (by omega) (by omega)
    rw [w64 (x := Int.tdiv n (p * p)) (by omega) (by omega), w64 (x := r * p) (by omega) (by omega)]
    exact Ev.pos (Nt.tmod_zero_iff.2 hdv) (ih _ _ (by omega) c3 c4 (hB _ _ hb c5))
  · rw [w64 (x := (i : Int) + 1) (by omega) (by omega), cast_succ]
    exact Ev.neg (fun e => hdv (Nt.tmod_zero_iff.1 e)) (hnext n r h hr hb hdv)
theorem impl_coreOf_l0 {N : Int} (hN : N ≠ 0) (hN2 : N.natAbs ≤ 1000000000) {L : List Int} (hL : Nt.IsPL N L) : ∀ (rest : List Int) (i : Nat) (n r : Int), L.drop i = rest → N = n * (r * r) → 1 ≤ r → (∀ q, Nt.Pr q → q ∣ N → q ∉ rest → ¬ q * q ∣ n) →
 ∃ c s, Nt.IsCore N c s ∧ Ev (fun k => impl_coreOf.l0 k n r L (L.length : Int) (i : Int)) (c, s)
 | [], i, n, r, h, h1, h2, h3 => by
  have := drop_nil h
  refine ⟨n, r, ⟨h1, h2, fun q hq hd => ?_⟩, Ev.succ ?_⟩
  · have hqn : q ∣ N := by rw [h1]; exact Int.dvd_trans (Int.dvd_trans ⟨q, rfl⟩ hd) ⟨_, rfl⟩
    exact h3 q hq hqn (by simp) hd
  · simp only [impl_coreOf.l0]
    exact Ev.neg (by omega) (Ev.now _)
 | p :: rest, i, n, r, h, h1, h2, h3 => by
  obtain ⟨v1, v2, v3⟩ := drop_cons h
  have hp := (hL.2 p).1 (v2 ▸ rd_mem v1)
  have hp2 := hp.1.1
  have hple : p ≤ 1000000000 := by
   have := Int.le_of_dvd (show 0 < ((N.natAbs : Nat) : Int) by omega) (Int.dvd_natAbs.2 hp.2); omega
  have hlen : L.length ≤ 1000000 := by
   have hd := Nt.prod_dvd (l := L) (n := N) (hL.1.imp (fun h => by omega)) (fun p hp => (hL.2 p).1 hp)
   have hle := Int.le_of_dvd (show 0 < ((N.natAbs : Nat) : Int) by omega) (Int.dvd_natAbs.2 hd)
   have key : ∀ l : List Int, (∀ p ∈ l, Nt.Pr p) → (l.length : Int) < 2 ^ l.length ∧ (2 : Int) ^ l.length ≤ Nt.prod l := by
    intro l hp
    induction l with
    | nil => simp [Nt.prod]
    | cons p l ih =>
     obtain ⟨a, b⟩ := ih (fun q hq => hp q (by simp [hq]))
     have h2 := (hp p (by simp)).1
     have : 2 * 2 ^ l.length ≤ p * Nt.prod l := Int.mul_le_mul h2 b (by omega) (by omega)
     simp only [List.length_cons, Int.pow_succ, Nt.prod]
     omega
   obtain ⟨a, b⟩ := key L (fun p hp => ((hL.2 p).1 hp).1)
   rcases Nat.lt_or_ge 40 L.length with h4 | h4
   · exfalso
     have : (2 : Int) ^ 41 ≤ 2 ^ L.length := by
      have := Nat.pow_le_pow_right (show 0 < 2 by omega) (show 41 ≤ L.length by omega)
      exact_mod_cast this
     omega
   · omega
  -- all ways lead to the one core
  let B : Int → Prop := fun n => ∀ q, Nt.Pr q → q ∣ N → q ∉ p :: rest → ¬ q * q ∣ n
  have hBm : ∀ m n, B n → m ∣ n → B m := fun m n hb hm q k1 k2 k3 k4 => hb q k1 k2 k3 (Int.dvd_trans k4 hm)
  have nxt : ∀ n r, N = n * (r * r) → 1 ≤ r → B n → ¬ p * p ∣ n → ∃ c s, Nt.IsCore N c s ∧ Ev (fun k => impl_coreOf.l0 k n r L (L.length : Int) ((i + 1 : Nat) : Int)) (c, s) := by
   intro n r k1 k2 k3 k4
   refine impl_coreOf_l0 hN hN2 hL rest (i + 1) n r v3 k1 k2 (fun q q1 q2 q3 => ?_)
   by_cases e : q = p
   · rw [e]; exact k4
   · exact k3 q q1 q2 (by simp [e, q3])
  obtain ⟨c, s, hc⟩ := Nt.core_exists (N := N) hN
  have nxt2 : ∀ n r, N = n * (r * r) → 1 ≤ r → B n → ¬ p * p ∣ n → Ev (fun k => impl_coreOf.l0 k n r L (L.length : Int) ((i + 1 : Nat) : Int)) (c, s) := by
   intro n r k1 k2 k3 k4
   obtain ⟨c', s', h5, h6⟩ := nxt n r k1 k2 k3 k4
   obtain ⟨e1, e2⟩ := hc.uniq hN h5
   rw [e1, e2]; exact h6
  refine ⟨c, s, hc, Ev.succ ?_⟩
  simp only [impl_coreOf.l0]
  rw [v2]
  exact Ev.pos (by omega) (Ev.pos (by omega) (Ev.pos (by omega) (impl_coreOf_l1 hN hN2 hp2 hple L i v1 hlen (c, s) B hBm nxt2 _ n r (Nat.le_refl _) h1 h2 h3)))
theorem impl_coreOf_ev {N : Int} (hN : N ≠ 0) (hN2 : N.natAbs ≤ 1000000000) : ∃ c s, Nt.IsCore N c s ∧ Ev (fun k => impl_coreOf.f k N) (c, s) := by
 obtain ⟨L, h1, h2⟩ := impl_primesOf_ev hN (by omega)
 obtain ⟨c, s, h3, h4⟩ := impl_coreOf_l0 hN hN2 h1 L 0 N 1 rfl (by simp) (by omega) (fun q k1 k2 k3 => absurd ((h1.2 q).2 ⟨k1, k2⟩) k3)
 refine ⟨c, s, h3, ?_⟩
 unfold impl_coreOf.f
 exact Ev.bind h2 h4
theorem impl_coreOf_cor {N : Int} (hN : N ≠ 0) (hN2 : N.natAbs ≤ 1000000000) : Ev (fun k => impl_coreOf.f k N) (Nt.cor N, Nt.rt N) := by
 obtain ⟨c, s, h1, h2⟩ := impl_coreOf_ev hN hN2
 obtain ⟨u, v⟩ := Nt.cor_eq hN h1
 rw [← u, ← v]; exact h2
theorem impl_FormTimes_l {f : List Int} {n : Int} (h : fv f = true) (hn : n ≠ 0) (hN : isN n = true) : ∀ (r o : List Int) (i : Nat), f.drop i = r → o.length ≤ i → o ++ tms r n = tms f n →
 Ev (fun k => impl_FormTimes.l0 k n o f (f.length : Int) (i : Int)) (ftimes f n)
 | [], o, i, h1, ho, he => by
  have := drop_nil h1
  refine Ev.succ ?_
  simp only [impl_FormTimes.l0]
  have e : o = tms f n := by rw [← he]; simp [tms]
  rw [e]
  refine Ev.neg (by omega) (Ev.bind (impl_FormValid_ev (tms_md h hn hN)) ?_)
  by_cases c : fv (tms f n) = true
  · rw [ftimes_of ⟨h, hn, hN, c⟩]; exact Ev.pos c (Ev.now _)
  · rw [ftimes_no (fun e => c e.2.2.2)]; exact Ev.neg c (Ev.now _)
 | t :: r, o, i, h1, ho, he => by
  obtain ⟨v1, v2, v3⟩ := drop_cons h1
  have hm : t ∈ f := v2 ▸ rd_mem v1
  have hl := fv_len h
  obtain ⟨b1, b2⟩ := tms_bd ⟨fv_nz h t hm, fv_bd h t hm⟩ hn hN
  refine Ev.succ ?_
  simp only [impl_FormTimes.l0]
  rw [v2, w64 (x := (i : Int) + 1) (by omega) (by omega), cast_succ, w64 (x := t * n) (by omega) (by omega)]
  refine Ev.pos (by omega) (Ev.pos (by omega) (Ev.pos (by omega) (Ev.bind (impl_coreOf_cor b1 (by omega)) (Ev.pos (by omega) ?_))))
  exact impl_FormTimes_l h hn hN r (o ++ [Nt.cor (t * n)]) (i + 1) v3 (by simp; omega) (by rw [← he]; simp [tms])
theorem impl_FormTimes_ev {f : List Int} {n : Int} (hf : Md f) : Ev (fun k => impl_FormTimes.f k f n) (ftimes f n) := by
 unfold impl_FormTimes.f
 have no : ftimes f n = ([], false) → Ev (fun k => impl_FormTimes.j0 k f n true) (ftimes f n) := fun e => by
  refine Ev.succ ?_
  simp only [impl_FormTimes.j0]
  rw [e]
  exact Ev.pos (by simp) (Ev.now _)
 refine Ev.bind (impl_FormValid_ev hf) ?_
 by_cases h : fv f = true
 · refine Ev.pos h ?_
   by_cases hn : n = 0
   · exact Ev.pos hn (no (ftimes_no fun e => e.2.1 hn))
   · rw [impl_isNumber_eq]
     refine Ev.neg hn (Ev.sbind ?_)
     by_cases hN : isN n = true
     · refine Ev.succ ?_
       simp only [impl_FormTimes.j0]
       exact Ev.neg (by simp [hN]) (impl_FormTimes_l h hn hN f [] 0 rfl (by simp) (by simp))
     · have : isN n = false := by simpa using hN
       rw [this]
       exact no (ftimes_no fun e => hN e.2.2.1)
 · exact Ev.neg h (no (ftimes_no fun e => h e.1))
theorem impl_FormCores_ev {f : List Int} (hf : Md f) : Ev (fun k => impl_FormCores.f k f) (ftimes f 1) := by
 unfold impl_FormCores.f
 exact Ev.bind (impl_FormTimes_ev hf) (Ev.now _)
theorem l6In_eq (a b c : Int) : spec_l6In.f a b c = some (decide (b ≤ a ∧ a ≤ c)) := by
 unfold spec_l6In.f
 split
 · congr 1; simp only [decide_eq_decide]; omega
 · congr 1; simp; omega
theorem spec_FormValid_l (xs : List Int) (hx : Md xs) : ∀ (r : List Int) (i : Nat), xs.drop i = r → Ev (fun k => spec_FormValid.l0 k xs (i : Int)) (r.all okT && decide (1 ≤ xs.length ∧ xs.length ≤ 4))
 | [], i, h => by
  have := drop_nil h
  refine Ev.succ ?_
  simp only [spec_FormValid.l0]
  refine Ev.neg (by omega) ?_
  rw [l6In_eq]
  refine Ev.sbind (Ev.ret ?_)
  simp only [List.all_nil, Bool.true_and, decide_eq_decide]; omega
 | t :: r, i, h => by
  obtain ⟨h1, h2, h3⟩ := drop_cons h
  have hl := hx.1
  refine Ev.succ ?_
  simp only [spec_FormValid.l0]
  rw [h2, l6In_eq]
  refine Ev.pos (by omega) (Ev.pos (by omega) ?_)
  by_cases h0 : t = 0
  · exact Ev.pos h0 (Ev.ret (by simp [okT, h0]))
  · refine Ev.neg h0 (Ev.sbind ?_)
    by_cases hs : -30 ≤ t ∧ t ≤ 30
    · have : okT t = true := okT_iff.2 ⟨h0, hs⟩
      refine Ev.pos (by simpa using hs) ?_
      rw [w64 (by omega) (by omega), cast_succ]
      refine Ev.to (spec_FormValid_l xs hx r (i + 1) h3) ?_
      simp [this]
    · have : okT t = false := by unfold okT; simp; intro _; omega
      refine Ev.neg (by simpa using hs) (Ev.ret (by simp [this]))
theorem spec_FormValid_ev {xs : List Int} (hx : Md xs) : Ev (fun k => spec_FormValid.f k xs) (fv xs) := by
 unfold spec_FormValid.f
 exact spec_FormValid_l xs hx xs 0 rfl
theorem spec_l6In_eq (a b c : Int) : spec_l6In.f a b c = some (decide (b ≤ a ∧ a ≤ c)) := by
 unfold spec_l6In.f
 split
 · congr 1; simp only [decide_eq_decide]; omega
 · congr 1; simp; omega
theorem spec_l1Number_eq (a : Int) : spec_l1Number.f a = some (isN a) := by
 unfold spec_l1Number.f isN
 rw [spec_l6In_eq]; rfl
theorem smx_abs (t : Int) : mx t (-t) = (t.natAbs : Int) := by unfold mx; split <;> omega
theorem spec_l1Size_eq {t : Int} (h : t.natAbs ≤ 1000000000000) : spec_l1Size.f t = some (t.natAbs : Int) := by
 unfold spec_l1Size.f
 rw [w64 (by omega) (by omega), smx_abs]
theorem spec_l1Core_l1 {N p : Int} (hN : N ≠ 0) (hN2 : N.natAbs ≤ 1000000000) (hp : 2 ≤ p) (hp2 : p ≤ 40000) (res : Int × Int) (B : Int → Prop)
 (hB : ∀ m n, B n → m ∣ n → B m)
 (hnext : ∀ n r, N = n * (r * r) → 1 ≤ r → B n → ¬ p * p ∣ n → Ev (fun k => spec_l1Core.l0 k n r (p + 1)) res) :
 ∀ (d : Nat) (n r : Int), n.natAbs ≤ d → N = n * (r * r) → 1 ≤ r → B n → Ev (fun k => spec_l1Core.l1 k n r p) res := by
 intro d
 induction d with
 | zero =>
  intro n r hd h hr
  have := (core_bd hN hN2 h hr).2.1
  omega
 | succ d ih =>
  intro n r hd h hr hb
  obtain ⟨b1, b2, b3⟩ := core_bd hN hN2 h hr
  have hpp : 0 ≤ p * p ∧ p * p ≤ 40000 * 40000 := ⟨Int.mul_nonneg (by omega) (by omega), Int.mul_le_mul hp2 hp2 (by omega) (by omega)⟩
  have hp0 := sq_ne hp
  refine Ev.succ ?_
  simp only [spec_l1Core.l1]
  rw [w64 (x := p * p) (by omega) (by omega)]
  refine Ev.neg hp0 ?_
  by_cases hdv : p * p ∣ n
  · obtain ⟨c1, c2, c3, c4, c5⟩ := core_step hN hN2 hp h hr hdv
    have hrp : r * p ≤ 100000 * 40000 := Int.mul_le_mul b1 hp2 (by omega) (by omega)
    rw [w64 (x := Int.tdiv n (p * p)) (by omega) (by omega), w64 (x := r * p) (by omega) (by omega)]
    exact Ev.pos (Nt.tmod_zero_iff.2 hdv) (ih _ _ (by omega) c3 c4 (hB _ _ hb c5))
  · rw [w64 (x := p + 1) (by omega) (by omega)]
    exact Ev.neg (fun e => hdv (Nt.tmod_zero_iff.1 e)) (hnext n r h hr hb hdv)
theorem spec_l1Core_l0 {N : Int} (hN : N ≠ 0) (hN2 : N.natAbs ≤ 1000000000) : ∀ (d : Nat) (p n r : Int), p + d = 40000 → 2 ≤ p → N = n * (r * r) → 1 ≤ r → (∀ q, 2 ≤ q → q < p → ¬ q * q ∣ n) →
 ∃ c s, Nt.IsCore N c s ∧ Ev (fun k => spec_l1Core.l0 k n r p) (c, s) := by
 intro d
 induction d with
 | zero =>
  intro p n r hd hp h hr hq
  obtain ⟨b1, b2, b3⟩ := core_bd hN hN2 h hr
  refine ⟨n, r, ⟨h, hr, fun q hq' hdv => ?_⟩, Ev.succ ?_⟩
  · by_cases c : q < p
    · exact hq q hq'.1 c hdv
    · have := Int.mul_le_mul (show 40000 ≤ q by omega) (show 40000 ≤ q by omega) (by omega) (by omega)
      have h2 := Int.le_of_dvd (show 0 < ((n.natAbs : Nat) : Int) by omega) (Int.dvd_natAbs.2 hdv)
      omega
  · simp only [spec_l1Core.l0]
    rw [spec_l1Size_eq (by omega), show p = 40000 by omega]
    exact Ev.sbind (Ev.neg (by unfold wrap64; omega) (Ev.now _))
 | succ d ih =>
  intro p n r hd hp h hr hq
  obtain ⟨b1, b2, b3⟩ := core_bd hN hN2 h hr
  have hpp : 0 ≤ p * p ∧ p * p ≤ 40000 * 40000 := ⟨Int.mul_nonneg (by omega) (by omega), Int.mul_le_mul (by omega) (by omega) (by omega) (by omega)⟩
  by_cases c : p * p ≤ (n.natAbs : Int)
  · -- the round goes on
    have key : ∀ (res : Int × Int), (∀ n' r', N = n' * (r' * r') → 1 ≤ r' → (∀ q, 2 ≤ q → q < p → ¬ q * q ∣ n') → ¬ p * p ∣ n' → Ev (fun k => spec_l1Core.l0 k n' r' (p + 1)) res) → Ev (fun k => spec_l1Core.l0 k n r p) res := by
     intro res hres
     refine Ev.succ ?_
     simp only [spec_l1Core.l0]
     rw [spec_l1Size_eq (by omega), w64 (x := p * p) (by omega) (by omega)]
     exact Ev.sbind (Ev.pos c (spec_l1Core_l1 hN hN2 hp (by omega) res (fun m => ∀ q, 2 ≤ q → q < p → ¬ q * q ∣ m) (fun m n hb hd q h1 h2 e => hb q h1 h2 (Int.dvd_trans e hd)) hres n.natAbs n r (Nat.le_refl _) h hr hq))
    obtain ⟨c0, s0, hc0⟩ := Nt.core_exists hN
    have all : ∀ n' r', N = n' * (r' * r') → 1 ≤ r' → (∀ q, 2 ≤ q → q < p → ¬ q * q ∣ n') → ¬ p * p ∣ n' → Ev (fun k => spec_l1Core.l0 k n' r' (p + 1)) (c0, s0) := by
     intro n' r' h1 h2 h3 h4
     obtain ⟨c1, s1, k1, k2⟩ := ih (p + 1) n' r' (by omega) (by omega) h1 h2 (fun q q1 q2 => by
      by_cases e : q = p
      · rw [e]; exact h4
      · exact h3 q q1 (by omega))
     obtain ⟨u1, u2⟩ := hc0.uniq hN k1
     rw [u1, u2]; exact k2
    exact ⟨c0, s0, hc0, key _ all⟩
  · refine ⟨n, r, ⟨h, hr, fun q hq' hdv => ?_⟩, Ev.succ ?_⟩
    · by_cases c' : q < p
      · exact hq q hq'.1 c' hdv
      · have := Int.mul_le_mul (show p ≤ q by omega) (show p ≤ q by omega) (by omega) (by omega)
        have h2 := Int.le_of_dvd (show 0 < ((n.natAbs : Nat) : Int) by omega) (Int.dvd_natAbs.2 hdv)
        omega
    · simp only [spec_l1Core.l0]
      rw [spec_l1Size_eq (by omega), w64 (x := p * p) (by omega) (by omega)]
      exact Ev.sbind (Ev.neg c (Ev.now _))
theorem spec_l1Core_ev {N : Int} (hN : N ≠ 0) (hN2 : N.natAbs ≤ 1000000000) : ∃ c s, Nt.IsCore N c s ∧ Ev (fun k => spec_l1Core.f k N) (c, s) := by
 unfold spec_l1Core.f
 exact spec_l1Core_l0 hN hN2 39998 2 N 1 (by omega) (by omega) (by simp) (by omega) (fun q h1 h2 => by omega)
theorem spec_l1Core_cor {N : Int} (hN : N ≠ 0) (hN2 : N.natAbs ≤ 1000000000) : Ev (fun k => spec_l1Core.f k N) (Nt.cor N, Nt.rt N) := by
 obtain ⟨c, s, h1, h2⟩ := spec_l1Core_ev hN hN2
 obtain ⟨u, v⟩ := Nt.cor_eq hN h1
 rw [← u, ← v]; exact h2
theorem spec_l4Times_l {f : List Int} {n : Int} (h : fv f = true) (hn : n ≠ 0) (hN : isN n = true) : ∀ (r o : List Int) (i : Nat), f.drop i = r → o.length ≤ i →
 Ev (fun k => spec_l4Times.l0 k f n o (i : Int)) (o ++ tms r n)
 | [], o, i, h1, ho => by
  have := drop_nil h1
  refine Ev.succ ?_
  simp only [spec_l4Times.l0]
  exact Ev.neg (by omega) (Ev.ret (by simp [tms]))
 | t :: r, o, i, h1, ho => by
  obtain ⟨v1, v2, v3⟩ := drop_cons h1
  have hm : t ∈ f := v2 ▸ rd_mem v1
  have hl := fv_len h
  obtain ⟨b1, b2⟩ := tms_bd ⟨fv_nz h t hm, fv_bd h t hm⟩ hn hN
  refine Ev.succ ?_
  simp only [spec_l4Times.l0]
  rw [v2, w64 (x := (i : Int) + 1) (by omega) (by omega), cast_succ, Int.mul_comm n t, w64 (x := t * n) (by omega) (by omega)]
  refine Ev.pos (by omega) (Ev.pos (by omega) (Ev.bind (spec_l1Core_cor b1 (by omega)) (Ev.pos (by omega) ?_)))
  exact Ev.to (spec_l4Times_l h hn hN r (o ++ [Nt.cor (t * n)]) (i + 1) v3 (by simp; omega)) (by simp [tms])
theorem spec_l4Times_ev {f : List Int} {n : Int} (h : fv f = true) (hn : n ≠ 0) (hN : isN n = true) : Ev (fun k => spec_l4Times.f k f n) (tms f n) := by
 unfold spec_l4Times.f
 exact Ev.to (spec_l4Times_l h hn hN f [] 0 rfl (by simp)) (by simp)
theorem spec_FormTimes_ev {f : List Int} {n : Int} (hf : Md f) : Ev (fun k => spec_FormTimes.f k f n) (ftimes f n) := by
 unfold spec_FormTimes.f
 have no : ftimes f n = ([], false) → Ev (fun k => spec_FormTimes.j0 k f n true) (ftimes f n) := fun e => by
  refine Ev.succ ?_
  simp only [spec_FormTimes.j0]
  rw [e]
  exact Ev.pos (by simp) (Ev.now _)
 refine Ev.bind (spec_FormValid_ev hf) ?_
 by_cases h : fv f = true
 · rw [spec_l1Number_eq]
   refine Ev.pos h (Ev.sbind ?_)
   by_cases hN : isN n = true
   · refine Ev.pos hN ?_
     by_cases hn : n = 0
     · rw [show (n == 0) = true by simp [hn]]
       exact no (ftimes_no fun e => e.2.1 hn)
     · refine Ev.succ ?_
       simp only [spec_FormTimes.j0]
       refine Ev.neg (by simp [hn]) (Ev.bind (spec_l4Times_ev h hn hN) (Ev.bind (spec_FormValid_ev (tms_md h hn hN)) ?_))
       by_cases c : fv (tms f n) = true
       · rw [ftimes_of ⟨h, hn, hN, c⟩]; exact Ev.pos c (Ev.now _)
       · rw [ftimes_no (fun e => c e.2.2.2)]; exact Ev.neg c (Ev.now _)
   · exact Ev.neg hN (no (ftimes_no fun e => hN e.2.2.1))
 · exact Ev.neg h (no (ftimes_no fun e => h e.1))
open Classical in
/-- Is it a prime, at most 5000? -/
noncomputable def isP (p : Int) : Bool := decide (Nt.Pr p ∧ p ≤ 5000)
theorem isP_iff {p : Int} : isP p = true ↔ Nt.Pr p ∧ p ≤ 5000 := by unfold isP; simp
theorem isP_false {p : Int} (h : ¬ (Nt.Pr p ∧ p ≤ 5000)) : isP p = false := by unfold isP; simpa using h
theorem isP_true {p : Int} (h : Nt.Pr p ∧ p ≤ 5000) : isP p = true := isP_iff.2 h
open Classical in
/-- Is it a place, at most 5000? -/
noncomputable def isPl (p : Int) : Bool := decide (p = 0 ∨ (Nt.Pr p ∧ p ≤ 5000))
theorem isPl_iff {p : Int} : isPl p = true ↔ p = 0 ∨ (Nt.Pr p ∧ p ≤ 5000) := by unfold isPl; simp
theorem isPl_pl {p : Int} (h : isPl p = true) : Nt.Pl p ∧ 0 ≤ p ∧ p ≤ 5000 := by
 rcases isPl_iff.1 h with rfl | ⟨h1, h2⟩
 · exact ⟨.inl rfl, by omega, by omega⟩
 · exact ⟨.inr h1, by have := h1.1; omega, h2⟩
theorem isPl_of {p : Int} (h : p ≠ 0) : isPl p = isP p := by
 unfold isPl isP
 simp [h]
/-- What FormVanishes tells. -/
noncomputable def fvan (f : List Int) (p : Int) : Bool := fv f && (isPl p && Nt.van p f)
theorem fvan_of {f : List Int} {p : Int} (h : fv f = true) (h' : isPl p = true) : fvan f p = Nt.van p f := by unfold fvan; rw [h, h']; rfl
theorem fvan_no {f : List Int} {p : Int} (h : ¬ fv f = true) : fvan f p = false := by unfold fvan; rw [show fv f = false by simpa using h]; rfl
theorem fvan_iff {f : List Int} {p : Int} : fvan f p = true ↔ fv f = true ∧ isPl p = true ∧ Nt.van p f = true := by unfold fvan; simp
theorem impl_prime_l {p : Int} (hp2 : p ≤ 5000) : ∀ (d : Nat) (m : Int), 2 ≤ m → m ≤ 5001 → (p - m).toNat ≤ d → (∀ q, 2 ≤ q → q < m → ¬ q ∣ p) →
 Ev (fun k => impl_prime.l0 k p m) (isP p) := by
 intro d
 induction d with
 | zero =>
  intro m h2 h3 hd hq
  have hs := small_sq (m := m) (by omega) (by omega)
  refine Ev.succ ?_
  simp only [impl_prime.l0]
  rw [w64 (by omega) (by omega)]
  have hgt : p < m * m := by
   rcases Int.lt_or_le p (m * m) with h | h
   · exact h
   · have := sq_le h2 h; omega
  refine Ev.neg (by omega) (Ev.ret ?_)
  by_cases h : 2 ≤ p
  · rw [isP_true ⟨Nt.pr_of_sqrt h (by omega) hq hgt, hp2⟩]; simpa using h
  · rw [isP_false (fun h' => h h'.1.1)]; simpa using h
 | succ d ih =>
  intro m h2 h3 hd hq
  have hs := small_sq (m := m) (by omega) (by omega)
  refine Ev.succ ?_
  simp only [impl_prime.l0]
  rw [w64 (by omega) (by omega)]
  by_cases hle : m * m ≤ p
  · have hlt := sq_le h2 hle
    refine Ev.pos hle (Ev.neg (by omega) ?_)
    by_cases ht : Int.tmod p m = 0
    · refine Ev.pos ht (Ev.ret ?_)
      rw [isP_false (fun h => Nt.not_pr_of_dvd h2 hle (Nt.tmod_zero_iff.1 ht) h.1)]
    · refine Ev.neg ht ?_
      rw [w64 (by omega) (by omega)]
      refine ih (m + 1) (by omega) (by omega) (by omega) (fun q h1 h2 => ?_)
      by_cases e : q = m
      · rw [e]; exact fun h => ht (Nt.tmod_zero_iff.2 h)
      · exact hq q h1 (by omega)
  · refine Ev.neg hle (Ev.ret ?_)
    by_cases h : 2 ≤ p
    · rw [isP_true ⟨Nt.pr_of_sqrt h (by omega) hq (by omega), hp2⟩]; simpa using h
    · rw [isP_false (fun h' => h h'.1.1)]; simpa using h
theorem impl_PrimeIs_ev {p : Int} : Ev (fun k => impl_PrimeIs.f k p) (isP p) := by
 unfold impl_PrimeIs.f
 by_cases h : p ≤ 5000
 · refine Ev.pos h (Ev.bind (a := isP p) ?_ (Ev.now _))
   unfold impl_prime.f
   exact impl_prime_l h _ 2 (by omega) (by omega) (Nat.le_refl _) (fun q h1 h2 => by omega)
 · refine Ev.neg h (Ev.ret ?_)
   rw [isP_false (fun h' => h h'.2)]
theorem impl_PlaceValid_ev {p : Int} : Ev (fun k => impl_PlaceValid.f k p) (isPl p) := by
 unfold impl_PlaceValid.f
 by_cases h : p = 0
 · refine Ev.pos h (Ev.ret ?_)
   rw [isPl_iff.2 (.inl h)]
 · refine Ev.neg h (Ev.bind impl_PrimeIs_ev (Ev.ret ?_))
   rw [isPl_of h]
theorem impl_product_l (xs : List Int) (hl : xs.length ≤ 1000000) : ∀ (r : List Int) (i : Nat) (a : Int), xs.drop i = r → (∀ t ∈ r, t.natAbs ≤ 30) → a.natAbs * 30 ^ r.length ≤ 810000 → Ev (fun k => impl_product.l0 k a xs (xs.length : Int) (i : Int)) (a * Nt.prod r)
 | [], i, a, h, _, _ => by
  have := drop_nil h
  refine Ev.succ ?_
  simp only [impl_product.l0]
  exact Ev.neg (by omega) (Ev.ret (by simp [Nt.prod]))
 | t :: r, i, a, h, ht, hb => by
  obtain ⟨h1, h2, h3⟩ := drop_cons h
  obtain ⟨b1, b2⟩ := step_bd hb (ht t (by simp))
  refine Ev.succ ?_
  simp only [impl_product.l0]
  rw [h2, w64 (x := a * t) (by omega) (by omega), w64 (x := (i : Int) + 1) (by omega) (by omega), cast_succ]
  refine Ev.pos (by omega) (Ev.pos (by omega) (Ev.pos (by omega) ?_))
  exact Ev.to (impl_product_l xs hl r (i + 1) (a * t) h3 (fun s hs => ht s (by simp [hs])) b1) (by simp only [Nt.prod, Int.mul_assoc])
theorem impl_product_ev {xs : List Int} (h : fv xs = true) : Ev (fun k => impl_product.f k xs) (Nt.prod xs) := by
 unfold impl_product.f
 have := fv_len h
 exact Ev.to (impl_product_l xs (by omega) xs 0 1 rfl (fv_bd h) (by have := pow_four this.2; simpa using this)) (by simp)
theorem isq8 {u : Int} (h : u % 2 = 1) : u % 8 = 1 ∨ u % 8 = 3 ∨ u % 8 = 5 ∨ u % 8 = 7 := by omega
theorem pw_if (e : Int) (k : Nat) : Nt.pw e k = if k % 2 = 1 then e else 1 := rfl
/-- The exponent at 2: of rests by 8. -/
theorem exp8 {i j : Nat} {u v : Int} (hu : u % 2 = 1) (hv : v % 2 = 1) :
 (((u % 8 - 1) / 2 * ((v % 8 - 1) / 2) + i * ((v % 8) * (v % 8) - 1) / 8 + j * ((u % 8) * (u % 8) - 1) / 8) % 2) = ((Nt.e4 u * Nt.e4 v + i * Nt.e8 v + j * Nt.e8 u : Nat) : Int) % 2 := by
 unfold Nt.e4 Nt.e8
 have k3 : u % 4 = u % 8 % 4 := by omega
 have k4 : v % 4 = v % 8 % 4 := by omega
 rw [k3, k4]
 rcases isq8 hu with a | a | a | a <;> rcases isq8 hv with b | b | b | b <;> simp only [a, b] <;> simp <;> omega
theorem exp16 {i j : Nat} {u v : Int} (hu : u % 2 = 1) (hv : v % 2 = 1) :
 (((u % 16 - 1) / 2 * ((v % 16 - 1) / 2) + i * (((v % 16) * (v % 16) - 1) / 8) + j * (((u % 16) * (u % 16) - 1) / 8)) % 2) = ((Nt.e4 u * Nt.e4 v + i * Nt.e8 v + j * Nt.e8 u : Nat) : Int) % 2 := by
 unfold Nt.e4 Nt.e8
 have h1 : u % 16 = 1 ∨ u % 16 = 3 ∨ u % 16 = 5 ∨ u % 16 = 7 ∨ u % 16 = 9 ∨ u % 16 = 11 ∨ u % 16 = 13 ∨ u % 16 = 15 := by omega
 have h2 : v % 16 = 1 ∨ v % 16 = 3 ∨ v % 16 = 5 ∨ v % 16 = 7 ∨ v % 16 = 9 ∨ v % 16 = 11 ∨ v % 16 = 13 ∨ v % 16 = 15 := by omega
 have k1 : u % 8 = u % 16 % 8 := by omega
 have k2 : v % 8 = v % 16 % 8 := by omega
 have k3 : u % 4 = u % 16 % 4 := by omega
 have k4 : v % 4 = v % 16 % 4 := by omega
 rw [k1, k2, k3, k4]
 rcases h1 with a | a | a | a | a | a | a | a <;> rcases h2 with b | b | b | b | b | b | b | b <;> simp only [a, b] <;> simp <;> omega
/-- How often a prime divides is bounded by the size. -/
theorem two_pow_le (p : Int) (hp : 2 ≤ p) : ∀ k : Nat, (2 : Int) ^ k ≤ p ^ k
 | 0 => by simp
 | k + 1 => by
  rw [Int.pow_succ, Int.pow_succ]
  exact Int.mul_le_mul (two_pow_le p hp k) hp (by omega) (by have := Nt.pow_pos' hp k; omega)
theorem lt_two_pow' (k : Nat) : (k : Int) < 2 ^ k := by
 have := @Nat.lt_two_pow_self k
 exact_mod_cast this
theorem vl_small {n p : Int} {m : Nat} (hp : 2 ≤ p) (hn : n ≠ 0) (hb : n.natAbs < 2 ^ m) : Nt.vl n p < m := by
 rcases Nat.lt_or_ge (Nt.vl n p) m with h | h
 · exact h
 · exfalso
   obtain ⟨h1, h2⟩ := Nt.vl_spec hp hn
   have hu : Nt.un n p ≠ 0 := fun e => h2 (e ▸ Int.dvd_zero p)
   have e : n.natAbs = (Nt.un n p).natAbs * (p ^ Nt.vl n p).natAbs := by rw [← Int.natAbs_mul, ← h1]
   have h3 : 1 * (p ^ Nt.vl n p).natAbs ≤ (Nt.un n p).natAbs * (p ^ Nt.vl n p).natAbs := Nat.mul_le_mul_right _ (by omega)
   have h4 := two_pow_le p hp (Nt.vl n p)
   have h5 : (2 : Nat) ^ m ≤ 2 ^ Nt.vl n p := Nat.pow_le_pow_right (by omega) h
   have h6 : (((2 : Nat) ^ Nt.vl n p : Nat) : Int) = (2 : Int) ^ Nt.vl n p := by exact_mod_cast rfl
   omega
theorem un_le {n p : Int} (hp : 2 ≤ p) (hn : n ≠ 0) : (Nt.un n p).natAbs ≤ n.natAbs := by
 obtain ⟨h1, h2⟩ := Nt.vl_spec hp hn
 have e : n.natAbs = (Nt.un n p).natAbs * (p ^ Nt.vl n p).natAbs := by rw [← Int.natAbs_mul, ← h1]
 have h3 := Nt.pow_pos' hp (Nt.vl n p)
 have := Nat.mul_le_mul_left (Nt.un n p).natAbs (show 1 ≤ (p ^ Nt.vl n p).natAbs by omega)
 omega
theorem par_sign {e : Int} {n : Nat} (h : e % 2 = (n : Int) % 2) : (if e % 2 = 0 then (1 : Int) else -1) = Nt.pw (-1) n := by
 rw [pw_if, h]
 rcases Nat.mod_two_eq_zero_or_one n with h | h
 · rw [if_pos (by omega), if_neg (by omega)]
 · rw [if_neg (by omega), if_pos h]
theorem leg_neg {p : Int} (hp : Nt.Pr p) (h2 : p ≠ 2) (n : Nat) : Nt.pw (Nt.leg (-1) p) n = Nt.pw (-1) (n * Nt.hf p) := by
 rw [Nt.leg_neg_one hp h2, pw_if, pw_if, Nat.mul_mod]
 rcases Nat.mod_two_eq_zero_or_one n with h | h <;> rcases Nat.mod_two_eq_zero_or_one (Nt.hf p) with h' | h' <;> rw [h, h'] <;> simp
theorem impl_power_l (x : Int) (hx : -5000 ≤ x ∧ x ≤ 5000) (n : Nat) (hn : n ≤ 4) : ∀ (d i : Nat), i + d = n → Ev (fun k => impl_power.l0 k x (x ^ i) (n : Int) (i : Int)) (x ^ n)
 | 0, i, h => by
  refine Ev.succ ?_
  simp only [impl_power.l0]
  refine Ev.neg (by omega) (Ev.ret ?_)
  rw [show i = n by omega]
 | d + 1, i, h => by
  refine Ev.succ ?_
  simp only [impl_power.l0]
  refine Ev.pos (by omega) ?_
  have hb : -625000000000000 ≤ x ^ i ∧ x ^ i ≤ 625000000000000 := by
   have h1 : (x ^ i).natAbs ≤ 5000 ^ 4 := by
    rw [Int.natAbs_pow]
    exact Nat.le_trans (Nat.pow_le_pow_left (show x.natAbs ≤ 5000 by omega) i) (Nat.pow_le_pow_right (by omega) (by omega))
   omega
  have hb2 : -3125000000000000000 ≤ x ^ i * x ∧ x ^ i * x ≤ 3125000000000000000 := by
   have h1 : (x ^ i * x).natAbs ≤ 625000000000000 * 5000 := by
    rw [Int.natAbs_mul]
    exact Nat.mul_le_mul (by omega) (by omega)
   omega
  rw [w64 (x := x ^ i * x) (by omega) (by omega), w64 (by omega) (by omega), cast_succ, ← Int.pow_succ]
  exact impl_power_l x hx n hn d (i + 1) (by omega)
theorem impl_power_ev {x e : Int} (hx : -5000 ≤ x ∧ x ≤ 5000) (n : Nat) (he : e = n) (hn : n ≤ 4) : Ev (fun k => impl_power.f k x e) (x ^ n) := by
 subst he
 unfold impl_power.f
 simpa using impl_power_l x hx n hn n 0 (by omega)
theorem impl_power_par {x e : Int} (hx : -5000 ≤ x ∧ x ≤ 5000) (n : Nat) (he : e = ((n % 2 : Nat) : Int)) : Ev (fun k => impl_power.f k x e) (Nt.pw x n) := by
 refine Ev.to (impl_power_ev hx (n % 2) he (by omega)) ?_
 rw [pw_if]
 rcases Nat.mod_two_eq_zero_or_one n with h | h <;> rw [h] <;> simp [Int.pow_succ]
theorem impl_power_l5 (x : Int) (hx : -5000 ≤ x ∧ x ≤ 5000) (n : Nat) (hn : n ≤ 5) : ∀ (d i : Nat), i + d = n → Ev (fun k => impl_power.l0 k x (x ^ i) (n : Int) (i : Int)) (x ^ n)
 | 0, i, h => by
  refine Ev.succ ?_
  simp only [impl_power.l0]
  refine Ev.neg (by omega) (Ev.ret ?_)
  rw [show i = n by omega]
 | d + 1, i, h => by
  refine Ev.succ ?_
  simp only [impl_power.l0]
  refine Ev.pos (by omega) ?_
  have hb : -625000000000000 ≤ x ^ i ∧ x ^ i ≤ 625000000000000 := by
   have h1 : (x ^ i).natAbs ≤ 5000 ^ 4 := by
    rw [Int.natAbs_pow]
    exact Nat.le_trans (Nat.pow_le_pow_left (show x.natAbs ≤ 5000 by omega) i) (Nat.pow_le_pow_right (by omega) (by omega))
   omega
  have hb2 : -3125000000000000000 ≤ x ^ i * x ∧ x ^ i * x ≤ 3125000000000000000 := by
   have h1 : (x ^ i * x).natAbs ≤ 625000000000000 * 5000 := by
    rw [Int.natAbs_mul]
    exact Nat.mul_le_mul (by omega) (by omega)
   omega
  rw [w64 (x := x ^ i * x) (by omega) (by omega), w64 (by omega) (by omega), cast_succ, ← Int.pow_succ]
  exact impl_power_l5 x hx n hn d (i + 1) (by omega)
theorem impl_power_ev5 {x e : Int} (hx : -5000 ≤ x ∧ x ≤ 5000) (n : Nat) (he : e = n) (hn : n ≤ 5) : Ev (fun k => impl_power.f k x e) (x ^ n) := by
 subst he
 unfold impl_power.f
 simpa using impl_power_l5 x hx n hn n 0 (by omega)
theorem impl_rest_eq {a m : Int} (hm : 0 < m) (hm2 : m ≤ 1000000) : impl_rest.f a m = some (a % m) := by
 unfold impl_rest.f
 have := Nt.rest_bd (a := a) hm
 rw [if_neg (by omega), w64 (by omega) (by omega), Nt.rest_eq hm]
theorem impl_residue_l {p u : Int} (hp : Nt.Pr p) (h2 : p ≠ 2) (hp5 : p ≤ 5000) (hu : ¬ p ∣ u) : ∀ (d : Nat) (x : Int), 1 ≤ x → x ≤ p → (p - x).toNat ≤ d → (∀ y, 1 ≤ y → y < x → y * y % p ≠ u % p) →
 Ev (fun k => impl_residue.l0 k p (u % p) x) (Nt.leg u p) := by
 have hp1 := hp.1
 intro d
 induction d with
 | zero =>
  intro x h1 h3 hd hy
  refine Ev.succ ?_
  simp only [impl_residue.l0]
  rw [tdiv_ediv (by omega), w64 (by omega) (by omega)]
  refine Ev.neg (by omega) (Ev.ret ?_)
  refine ((Nt.leg_pm hu).resolve_left fun h => ?_).symm
  obtain ⟨y, y1, y2, y3⟩ := (Nt.leg_search hp h2 hu).1 h
  exact hy y y1 (by omega) y3
 | succ d ih =>
  intro x h1 h3 hd hy
  have hs := small_sq (m := x) (by omega) (by omega)
  refine Ev.succ ?_
  simp only [impl_residue.l0]
  rw [tdiv_ediv (a := p) (by omega), w64 (x := p / 2) (by omega) (by omega)]
  by_cases hle : x ≤ p / 2
  · refine Ev.pos hle (Ev.neg (by omega) ?_)
    rw [w64 (x := x * x) (by omega) (by omega), tmod_emod (by omega)]
    by_cases he : x * x % p = u % p
    · refine Ev.pos he (Ev.ret ?_)
      exact ((Nt.leg_search hp h2 hu).2 ⟨x, h1, hle, he⟩).symm
    · refine Ev.neg he ?_
      rw [w64 (by omega) (by omega)]
      refine ih (x + 1) (by omega) (by omega) (by omega) (fun y y1 y2 => ?_)
      by_cases e : y = x
      · rw [e]; exact he
      · exact hy y y1 (by omega)
  · refine Ev.neg hle (Ev.ret ?_)
    refine ((Nt.leg_pm hu).resolve_left fun h => ?_).symm
    obtain ⟨y, y1, y2, y3⟩ := (Nt.leg_search hp h2 hu).1 h
    exact hy y y1 (by omega) y3
theorem impl_residue_ev {p u : Int} (hp : Nt.Pr p) (h2 : p ≠ 2) (hp5 : p ≤ 5000) : Ev (fun k => impl_residue.f k u p) (Nt.leg u p) := by
 unfold impl_residue.f
 rw [impl_rest_eq hp.pos (by omega)]
 refine Ev.sbind ?_
 by_cases h : p ∣ u
 · refine Ev.pos (Int.emod_eq_zero_of_dvd h) (Ev.ret ?_)
   exact (Nt.leg_zero h).symm
 · refine Ev.neg (fun e => h (Int.dvd_of_emod_eq_zero e)) ?_
   exact impl_residue_l hp h2 hp5 h _ 1 (by omega) (by have := hp.1; omega) (Nat.le_refl _) (fun y h1 h2 => by omega)
theorem pw_bd {x : Int} (hx : -1 ≤ x ∧ x ≤ 1) (n : Nat) : -1 ≤ Nt.pw x n ∧ Nt.pw x n ≤ 1 := by rw [pw_if]; split <;> omega
theorem tri_mul {x y : Int} (hx : -1 ≤ x ∧ x ≤ 1) (hy : -1 ≤ y ∧ y ≤ 1) : -1 ≤ x * y ∧ x * y ≤ 1 := by
 rcases (by omega : x = -1 ∨ x = 0 ∨ x = 1) with h | h | h <;> rw [h] <;> omega
theorem impl_symbol_ev {a b p : Int} (hp : Nt.Pl p) (hp5 : p ≤ 5000) (ha : a ≠ 0) (hb : b ≠ 0) (ha2 : a.natAbs ≤ 1000000000000) (hb2 : b.natAbs ≤ 1000000000000) :
 Ev (fun k => impl_symbol.f k a b p) (Nt.hil a b p) := by
 unfold impl_symbol.f
 rcases hp with rfl | hp
 · refine Ev.pos rfl ?_
   unfold Nt.hil
   rw [if_pos rfl]
   refine Ev.by_ite (fun h1 => Ev.by_ite (fun h2 => Ev.ret (by rw [if_pos ⟨h1, h2⟩])) (fun h2 => Ev.ret (by rw [if_neg (fun h => h2 h.2)]))) (fun h1 => Ev.ret (by rw [if_neg (fun h => h1 h.1)]))
 · have hp1 := hp.1
   refine Ev.neg (by omega) (Ev.bind (impl_split_ev hp1 ha ha2) (Ev.bind (impl_split_ev hp1 hb hb2) ?_))
   dsimp only
   have i1 := vl_small (m := 40) hp1 ha (by omega)
   have j1 := vl_small (m := 40) hp1 hb (by omega)
   obtain ⟨a1, a2⟩ := Nt.vl_spec hp1 ha
   obtain ⟨b1, b2⟩ := Nt.vl_spec hp1 hb
   by_cases h2 : p = 2
   · subst h2
     have ou := Nt.odd_of a2
     have ov := Nt.odd_of b2
     refine Ev.pos rfl ?_
     rw [impl_rest_eq (by omega) (by omega), impl_rest_eq (by omega) (by omega)]
     refine Ev.sbind (Ev.sbind ?_)
     have hex := exp8 (i := Nt.vl a 2) (j := Nt.vl b 2) ou ov
     rw [Nt.hil_two]
     unfold Nt.hil2
     generalize Nt.vl a 2 = i at *
     generalize Nt.vl b 2 = j at *
     generalize Nt.un a 2 = u at *
     generalize Nt.un b 2 = v at *
     have u8 : u % 8 = 1 ∨ u % 8 = 3 ∨ u % 8 = 5 ∨ u % 8 = 7 := isq8 ou
     have v8 : v % 8 = 1 ∨ v % 8 = 3 ∨ v % 8 = 5 ∨ v % 8 = 7 := isq8 ov
     have su : 0 ≤ u % 8 * (u % 8) - 1 ∧ u % 8 * (u % 8) - 1 ≤ 48 := by rcases u8 with h | h | h | h <;> rw [h] <;> omega
     have sv : 0 ≤ v % 8 * (v % 8) - 1 ∧ v % 8 * (v % 8) - 1 ≤ 48 := by rcases v8 with h | h | h | h <;> rw [h] <;> omega
     have siv : 0 ≤ (i : Int) * (v % 8 * (v % 8) - 1) ∧ (i : Int) * (v % 8 * (v % 8) - 1) ≤ 40 * 48 := ⟨Int.mul_nonneg (by omega) sv.1, Int.mul_le_mul (by omega) sv.2 sv.1 (by omega)⟩
     have sju : 0 ≤ (j : Int) * (u % 8 * (u % 8) - 1) ∧ (j : Int) * (u % 8 * (u % 8) - 1) ≤ 40 * 48 := ⟨Int.mul_nonneg (by omega) su.1, Int.mul_le_mul (by omega) su.2 su.1 (by omega)⟩
     have hu2 : 0 ≤ (u % 8 - 1) / 2 ∧ (u % 8 - 1) / 2 ≤ 3 := by omega
     have hv2 : 0 ≤ (v % 8 - 1) / 2 ∧ (v % 8 - 1) / 2 ≤ 3 := by omega
     have suv : 0 ≤ (u % 8 - 1) / 2 * ((v % 8 - 1) / 2) ∧ (u % 8 - 1) / 2 * ((v % 8 - 1) / 2) ≤ 3 * 3 := ⟨Int.mul_nonneg hu2.1 hv2.1, Int.mul_le_mul hu2.2 hv2.2 hv2.1 (by omega)⟩
     have q1 : wrap64 (u % 8 * (u % 8)) = u % 8 * (u % 8) := w64 (by omega) (by omega)
     have q2 : wrap64 (v % 8 * (v % 8)) = v % 8 * (v % 8) := w64 (by omega) (by omega)
     have q3 : wrap64 (u % 8 - 1) = u % 8 - 1 := w64 (by omega) (by omega)
     have q4 : wrap64 (v % 8 - 1) = v % 8 - 1 := w64 (by omega) (by omega)
     rw [q1, q2, q3, q4, w64 (x := u % 8 * (u % 8) - 1) (by omega) (by omega), w64 (x := v % 8 * (v % 8) - 1) (by omega) (by omega),
      w64 (x := (i : Int) * (v % 8 * (v % 8) - 1)) (by omega) (by omega), w64 (x := (j : Int) * (u % 8 * (u % 8) - 1)) (by omega) (by omega),
      tdiv_ediv siv.1, tdiv_ediv sju.1, tdiv_ediv (a := u % 8 - 1) (by omega), tdiv_ediv (a := v % 8 - 1) (by omega)]
     generalize (i : Int) * (v % 8 * (v % 8) - 1) = A at *
     generalize (j : Int) * (u % 8 * (u % 8) - 1) = B at *
     rw [w64 (x := (u % 8 - 1) / 2) (by omega) (by omega), w64 (x := (v % 8 - 1) / 2) (by omega) (by omega)]
     generalize (u % 8 - 1) / 2 * ((v % 8 - 1) / 2) = C at *
     rw [w64 (x := A / 8) (by omega) (by omega), w64 (x := B / 8) (by omega) (by omega), w64 (x := C) (by omega) (by omega), w64 (x := C + A / 8) (by omega) (by omega), w64 (x := C + A / 8 + B / 8) (by omega) (by omega), tmod_emod (by omega)]
     exact Ev.bind (impl_power_par (by omega) _ (by rw [hex]; omega)) (Ev.now _)
   · have h3 := Nt.odd_ge hp h2
     have ho := Nt.odd_odd hp h2
     refine Ev.neg h2 ?_
     unfold Nt.hil
     rw [if_neg (by omega), if_neg h2]
     unfold Nt.hilp
     rw [leg_neg hp h2]
     have lu := Nt.leg_range (Nt.un a p) p
     have lv := Nt.leg_range (Nt.un b p) p
     have hij : 0 ≤ (Nt.vl a p : Int) * (Nt.vl b p : Int) ∧ (Nt.vl a p : Int) * (Nt.vl b p : Int) ≤ 40 * 40 := ⟨Int.mul_nonneg (by omega) (by omega), Int.mul_le_mul (by omega) (by omega) (by omega) (by omega)⟩
     have hijp : 0 ≤ (Nt.vl a p : Int) * (Nt.vl b p : Int) * (p - 1) ∧ (Nt.vl a p : Int) * (Nt.vl b p : Int) * (p - 1) ≤ 1600 * 5000 := ⟨Int.mul_nonneg hij.1 (by omega), Int.mul_le_mul (by omega) (by omega) (by omega) (by omega)⟩
     have ee : (Nt.vl a p : Int) * (Nt.vl b p : Int) * (p - 1) / 2 = ((Nt.vl a p * Nt.vl b p * Nt.hf p : Nat) : Int) := by
      have : p - 1 = 2 * (Nt.hf p : Int) := by unfold Nt.hf; omega
      rw [this]
      push_cast
      rw [show (Nt.vl a p : Int) * (Nt.vl b p : Int) * (2 * (Nt.hf p : Int)) = 2 * ((Nt.vl a p : Int) * (Nt.vl b p : Int) * (Nt.hf p : Int)) by grind]
      omega
     rw [w64 (x := (Nt.vl a p : Int) * (Nt.vl b p : Int)) (by omega) (by omega), w64 (x := p - 1) (by omega) (by omega), w64 (x := (Nt.vl a p : Int) * (Nt.vl b p : Int) * (p - 1)) (by omega) (by omega), tdiv_ediv hijp.1, ee, w64 (by omega) (by omega)]
     refine Ev.bind (impl_power_par (by omega) (Nt.vl a p * Nt.vl b p * Nt.hf p) (by rw [tmod_emod (by omega)]; omega)) ?_
     refine Ev.bind (impl_residue_ev hp h2 hp5) (Ev.bind (impl_power_par (by omega) (Nt.vl b p) (by rw [tmod_emod (by omega)]; omega)) ?_)
     refine Ev.bind (impl_residue_ev hp h2 hp5) (Ev.bind (impl_power_par (by omega) (Nt.vl a p) (by rw [tmod_emod (by omega)]; omega)) ?_)
     have x1 := pw_bd (x := -1) (by omega) (Nt.vl a p * Nt.vl b p * Nt.hf p)
     have x2 := pw_bd lu (Nt.vl b p)
     have x3 := pw_bd lv (Nt.vl a p)
     have x4 := tri_mul x1 x2
     have x5 := tri_mul x4 x3
     rw [w64 (x := Nt.pw (-1) _ * Nt.pw _ _) (by omega) (by omega), w64 (by omega) (by omega)]
     exact Ev.now _
theorem impl_invariant_l1 {xs : List Int} {p : Int} (h : fv xs = true) (hp : Nt.Pl p) (hp5 : p ≤ 5000) (i : Nat) (hi : i < xs.length) (res : Int)
 (hnext : Ev (fun k => impl_invariant.l0 k xs p (Nt.inv p (xs.take (i + 1))) xs (xs.length : Int) ((i + 1 : Nat) : Int)) res) :
 ∀ (d j : Nat) (e : Int), j + d = i → e = Nt.inv p (xs.take i) * Nt.hil (rd xs (i : Int)) (Nt.prod (xs.take j)) p →
  Ev (fun k => impl_invariant.l1 k xs p e (rd xs (i : Int)) xs (xs.length : Int) (i : Int) (xs.take i) ((xs.take i).length : Int) (j : Int)) res := by
 have hl := fv_len h
 have hn := fv_nz h
 have ht : rd xs (i : Int) ∈ xs := rd_mem hi
 have htn := hn _ ht
 have htb := fv_bd h _ ht
 have hlen : (xs.take i).length = i := by simp; omega
 intro d
 induction d with
 | zero =>
  intro j e hj he
  refine Ev.succ ?_
  simp only [impl_invariant.l1]
  rw [w64 (x := (i : Int) + 1) (by omega) (by omega), cast_succ]
  refine Ev.neg (by omega) ?_
  have : e = Nt.inv p (xs.take (i + 1)) := by
   rw [he, take_snoc hi, Nt.inv_snoc hp (nz_take hn i) htn, Nt.hil_comm, show j = i by omega]
  rw [this]
  exact hnext
 | succ d ih =>
  intro j e hj he
  have hjl : j < xs.length := by omega
  have hb := rd_mem hjl
  have hbn := hn _ hb
  have hbb := fv_bd h _ hb
  have hpn := Nt.prod_nz (nz_take hn j)
  have pe : e = 1 ∨ e = -1 := by rw [he]; exact pm_mul (Nt.inv_pm hp (nz_take hn i)) (Nt.hil_pm hp htn hpn)
  have pp := pm_mul pe (Nt.hil_pm hp htn hbn)
  refine Ev.succ ?_
  simp only [impl_invariant.l1]
  rw [rd_take (xs := xs) (show j < i by omega), w64 (x := (j : Int) + 1) (by omega) (by omega), cast_succ]
  refine Ev.pos (by omega) (Ev.pos (by omega) (Ev.pos (by omega) (Ev.bind (impl_symbol_ev hp hp5 htn hbn (by omega) (by omega)) ?_)))
  rw [w64 (by omega) (by omega)]
  refine ih (j + 1) _ (by omega) ?_
  rw [he, take_snoc hjl, prod_snoc, Nt.hil_mul_right hp htn hpn hbn, Int.mul_assoc]
theorem impl_invariant_l0 {xs : List Int} {p : Int} (h : fv xs = true) (hp : Nt.Pl p) (hp5 : p ≤ 5000) : ∀ (d i : Nat), i + d = xs.length →
 Ev (fun k => impl_invariant.l0 k xs p (Nt.inv p (xs.take i)) xs (xs.length : Int) (i : Int)) (Nt.inv p xs) := by
 have hl := fv_len h
 have hn := fv_nz h
 intro d
 induction d with
 | zero =>
  intro i hi
  refine Ev.succ ?_
  simp only [impl_invariant.l0]
  exact Ev.neg (by omega) (Ev.ret (by rw [show i = xs.length by omega, List.take_length]))
 | succ d ih =>
  intro i hi
  refine Ev.succ ?_
  simp only [impl_invariant.l0, Int.toNat_natCast]
  refine Ev.pos (by omega) (Ev.pos (by omega) (Ev.pos (by omega) (Ev.pos (by omega) ?_)))
  refine impl_invariant_l1 h hp hp5 i (by omega) _ (ih (i + 1) (by omega)) i 0 _ (by omega) ?_
  rw [List.take_zero, show Nt.prod [] = 1 from rfl, Nt.hil_one_right hp (hn _ (rd_mem (by omega))), Int.mul_one]
theorem impl_invariant_ev {xs : List Int} {p : Int} (h : fv xs = true) (hp : Nt.Pl p) (hp5 : p ≤ 5000) : Ev (fun k => impl_invariant.f k xs p) (Nt.inv p xs) := by
 unfold impl_invariant.f
 exact impl_invariant_l0 h hp hp5 xs.length 0 (by omega)
theorem impl_localSquare_ev {a p : Int} (hp : Nt.Pl p) (hp5 : p ≤ 5000) (ha : a ≠ 0) (ha2 : a.natAbs ≤ 1000000000000) : Ev (fun k => impl_localSquare.f k a p) (Nt.lsq a p) := by
 unfold impl_localSquare.f Nt.lsq
 by_cases h0 : p = 0
 · rw [if_pos h0]
   exact Ev.pos h0 (Ev.now _)
 · have hp := hp.resolve_left h0
   rw [if_neg h0]
   refine Ev.neg h0 (Ev.bind (impl_split_ev hp.1 ha ha2) ?_)
   dsimp only
   rw [tmod_emod (by omega)]
   by_cases hv : Nt.vl a p % 2 = 0
   · rw [if_pos hv]
     refine Ev.pos (by omega) ?_
     by_cases h2 : p = 2
     · subst h2
       rw [if_pos rfl, impl_rest_eq (by omega) (by omega)]
       exact Ev.pos rfl (Ev.sbind (Ev.now _))
     · rw [if_neg h2]
       exact Ev.neg h2 (Ev.bind (impl_residue_ev hp h2 hp5) (Ev.now _))
   · rw [if_neg hv]
     exact Ev.neg (by omega) (Ev.now _)
theorem impl_lessTerms_l (xs : List Int) (hx : Md xs) : ∀ (r : List Int) (i n : Nat), n ≤ i → xs.drop i = r → Ev (fun k => impl_lessTerms.l0 k (n : Int) xs (xs.length : Int) (i : Int)) ((n + less r : Nat) : Int)
 | [], i, n, hn, h => by
  have := drop_nil h
  refine Ev.succ ?_
  simp only [impl_lessTerms.l0]
  exact Ev.neg (by omega) (Ev.ret (by simp [less]))
 | t :: r, i, n, hn, h => by
  obtain ⟨h1, h2, h3⟩ := drop_cons h
  have hl := hx.1
  refine Ev.succ ?_
  simp only [impl_lessTerms.l0]
  rw [h2]
  refine Ev.pos (by omega) (Ev.pos (by omega) (Ev.pos (by omega) ?_))
  rw [w64 (x := (i : Int) + 1) (by omega) (by omega), w64 (x := (n : Int) + 1) (by omega) (by omega), cast_succ, cast_succ]
  by_cases h0 : t < 0
  · refine Ev.pos h0 (Ev.to (impl_lessTerms_l xs hx r (i + 1) (n + 1) (by omega) h3) ?_)
    simp only [less, if_pos h0]; omega
  · refine Ev.neg h0 (Ev.to (impl_lessTerms_l xs hx r (i + 1) n (by omega) h3) ?_)
    simp only [less, if_neg h0]
theorem impl_lessTerms_ev {xs : List Int} (hx : Md xs) : Ev (fun k => impl_lessTerms.f k xs) ((less xs : Nat) : Int) := by
 unfold impl_lessTerms.f
 refine Ev.to (impl_lessTerms_l xs hx xs 0 0 (Nat.le_refl _) rfl) ?_
 simp
theorem impl_vanishes_ev {f : List Int} {p : Int} (h : fv f = true) (hp : Nt.Pl p) (hp5 : p ≤ 5000) : Ev (fun k => impl_vanishes.f k f p) (Nt.van p f) := by
 obtain ⟨b1, b2⟩ := prod_bd h
 have hl := fv_len h
 unfold impl_vanishes.f
 refine Ev.bind (impl_product_ev h) ?_
 rw [w64 (by omega) (by omega)]
 by_cases c : p = 0
 · refine Ev.pos c (Ev.bind (impl_lessTerms_ev (Md.of_fv h)) ?_)
   have e : Nt.van p f = decide (0 < Nt.ng f ∧ Nt.ng f < f.length) := by unfold Nt.van; rw [if_pos c]
   rw [e, less_ng]
   by_cases c1 : ((Nt.ng f : Nat) : Int) > 0
   · exact Ev.pos c1 (Ev.ret (by rw [decide_eq_decide]; omega))
   · exact Ev.neg c1 (Ev.ret (by symm; rw [decide_eq_false_iff_not]; omega))
 · refine Ev.neg c ?_
   unfold Nt.van
   rw [if_neg c]
   by_cases c2 : f.length = 2
   · rw [if_pos c2]
     exact Ev.pos (by omega) (Ev.bind (impl_localSquare_ev hp hp5 (by omega) (by omega)) (Ev.now _))
   · rw [if_neg c2]
     refine Ev.neg (by omega) ?_
     by_cases c3 : f.length = 3
     · rw [if_pos c3]
       exact Ev.pos (by omega) (Ev.bind (impl_invariant_ev h hp hp5) (Ev.bind (impl_symbol_ev hp hp5 (by omega) (by omega) (by omega) (by omega)) (Ev.now _)))
     · rw [if_neg c3]
       refine Ev.neg (by omega) ?_
       by_cases c4 : f.length = 4
       · rw [if_pos c4]
         refine Ev.pos (by omega) (Ev.bind (impl_localSquare_ev hp hp5 b1 (by omega)) ?_)
         by_cases c5 : Nt.lsq (Nt.prod f) p = true
         · exact Ev.pos c5 (Ev.bind (impl_invariant_ev h hp hp5) (Ev.bind (impl_symbol_ev hp hp5 (by omega) (by omega) (by omega) (by omega)) (Ev.ret (by rw [c5]; rfl))))
         · refine Ev.neg c5 (Ev.ret ?_)
           have : Nt.lsq (Nt.prod f) p = false := by simpa using c5
           rw [this]; rfl
       · rw [if_neg c4]
         exact Ev.neg (by omega) (Ev.now _)
theorem impl_FormVanishes_ev {f : List Int} {p : Int} (hf : Md f) : Ev (fun k => impl_FormVanishes.f k f p) (fvan f p) := by
 unfold impl_FormVanishes.f
 refine Ev.bind (impl_FormValid_ev hf) ?_
 by_cases h : fv f = true
 · refine Ev.pos h (Ev.bind impl_PlaceValid_ev ?_)
   by_cases h' : isPl p = true
   · obtain ⟨q1, q2, q3⟩ := isPl_pl h'
     rw [fvan_of h h']
     exact Ev.pos h' (Ev.bind (impl_vanishes_ev h q1 q3) (Ev.now _))
   · exact Ev.neg h' (Ev.ret (by unfold fvan; rw [show isPl p = false by simpa using h']; simp))
 · rw [fvan_no h]
   exact Ev.neg h (Ev.now _)
/-- What FormDisc tells. -/
noncomputable def fdisc (f : List Int) : Int := if fv f = true then Nt.cor (Nt.prod f) else 0
theorem fdisc_of {f : List Int} (h : fv f = true) : fdisc f = Nt.cor (Nt.prod f) := by unfold fdisc; rw [if_pos h]
theorem fdisc_no {f : List Int} (h : ¬ fv f = true) : fdisc f = 0 := by unfold fdisc; rw [if_neg h]
theorem impl_FormDisc_ev {f : List Int} (hf : Md f) : Ev (fun k => impl_FormDisc.f k f) (fdisc f) := by
 unfold impl_FormDisc.f
 refine Ev.bind (impl_FormValid_ev hf) ?_
 by_cases h : fv f = true
 · obtain ⟨b1, b2⟩ := prod_bd h
   rw [fdisc_of h]
   exact Ev.pos h (Ev.bind (impl_product_ev h) (Ev.bind (impl_coreOf_cor b1 (by omega)) (Ev.now _)))
 · rw [fdisc_no h]
   exact Ev.neg h (Ev.now _)
theorem fvan_tms {f : List Int} {n p : Int} (h : fv f = true) (hn : n ≠ 0) (ht : fv (tms f n) = true) : fvan (tms f n) p = fvan f p := by
 by_cases hP : isPl p = true
 · rw [fvan_of h hP, fvan_of ht hP]
   exact Nt.van_times (isPl_pl hP).1 hn (fv_nz h)
 · have : isPl p = false := by simpa using hP
   unfold fvan
   rw [this]; simp
theorem tms_tms {f : List Int} {n : Int} (h : fv f = true) (hn : n ≠ 0) : tms (tms f n) n = tms f 1 := by
 unfold tms
 rw [List.map_map]
 refine List.map_congr_left fun t ht => ?_
 have h0 := fv_nz h t ht
 simp only [Function.comp]
 rw [Nt.cor_mul (Int.mul_ne_zero h0 hn) hn, Int.mul_assoc, Nt.cor_sq h0 hn, Int.mul_one]
theorem tms_twice {f : List Int} (h : fv f = true) : tms (tms f 1) 1 = tms f 1 := tms_tms h (by omega)
theorem ftimes_iff {f : List Int} {n : Int} (h : (ftimes f n).2 = true) : fv f = true ∧ n ≠ 0 ∧ isN n = true ∧ fv (tms f n) = true := by
 by_cases c : fv f = true ∧ n ≠ 0 ∧ isN n = true ∧ fv (tms f n) = true
 · exact c
 · rw [ftimes_no c] at h; cases h
theorem laws_sameInts_l (xs : List Int) (hl : xs.length ≤ 1000000) : ∀ (r : List Int) (i : Nat), xs.drop i = r → Ev (fun k => laws_sameInts.l0 k xs xs (i : Int)) true
 | [], i, h => by
  have := drop_nil h
  refine Ev.succ ?_
  simp only [laws_sameInts.l0]
  exact Ev.neg (by omega) (Ev.now _)
 | t :: r, i, h => by
  obtain ⟨h1, h2, h3⟩ := drop_cons h
  refine Ev.succ ?_
  simp only [laws_sameInts.l0]
  rw [w64 (by omega) (by omega), cast_succ]
  exact Ev.pos (by omega) (Ev.pos (by omega) (Ev.pos (by omega) (Ev.pos (by simp) (laws_sameInts_l xs hl r (i + 1) h3))))
theorem laws_sameInts_ev {xs : List Int} (hl : xs.length ≤ 1000000) : Ev (fun k => laws_sameInts.f k xs xs) true := by
 unfold laws_sameInts.f
 exact Ev.pos rfl (laws_sameInts_l xs hl xs 0 rfl)
/-- What a reader reads: bytes, not too many. -/
def BY (b : List Int) : Prop := b.length ≤ 2000 ∧ ∀ x ∈ b, 0 ≤ x ∧ x < 256
theorem BY.rd {b : List Int} (hb : BY b) {i : Int} (h0 : 0 ≤ i) (h1 : i < b.length) : 0 ≤ rd b i ∧ rd b i < 256 := by
 obtain ⟨n, rfl⟩ : ∃ n : Nat, i = n := ⟨i.toNat, by omega⟩
 exact hb.2 _ (rd_mem (by omega))
theorem xor_i64 (a b : Nat) (ha : a < 9223372036854775808) (hb : b < 9223372036854775808) : Go.bits .xor .i64 (a : Int) (b : Int) = ((a ^^^ b : Nat) : Int) := by
 have hx : a ^^^ b < 2 ^ 63 := Nat.xor_lt_two_pow (by omega) (by omega)
 have h1 : (BitVec.ofInt 64 (a : Int)).toNat = a := by
  rw [BitVec.ofInt_natCast, BitVec.toNat_ofNat]; exact Nat.mod_eq_of_lt (by omega)
 have h2 : (BitVec.ofInt 64 (b : Int)).toNat = b := by
  rw [BitVec.ofInt_natCast, BitVec.toNat_ofNat]; exact Nat.mod_eq_of_lt (by omega)
 show IntKind.i64.wrap ((BitVec.ofInt 64 (a : Int) ^^^ BitVec.ofInt 64 (b : Int)).toNat : Int) = _
 rw [BitVec.toNat_xor, h1, h2]
 simp [IntKind.wrap, IntKind.bits, IntKind.signed]
 omega
/-- What lies behind the end. -/
def mixX (b : List Int) (q : Int) : Int := rd b (Int.tmod q b.length) * 131 + rd b (Int.tmod (q * 7 + 3) b.length) * 1117 + q * 29 + Int.tdiv q b.length * 53
/-- Behind the end: the mixture. -/
theorem pick_far {b : List Int} (hb : BY b) {n p : Int} (hn : 1 ≤ n) (hp : 0 ≤ p) (hp2 : p ≤ 1099511627776) (h0 : b.length ≠ 0) (hlt : ¬ p < b.length) :
 0 ≤ mixX b p ∧ Ev (fun k => spec_l6Rd_pick.f k b p n) ((((mixX b p).toNat ^^^ (mixX b p).toNat / 64 : Nat) : Int) % n, p + 1) := by
 have hl := hb.1
 have hlp : (0 : Int) < b.length := by omega
 have t1 : 0 ≤ Int.tmod p b.length := Int.tmod_nonneg _ hp
 have t2 : Int.tmod p b.length < b.length := Int.tmod_lt_of_pos _ hlp
 have t3 : 0 ≤ Int.tmod (p * 7 + 3) b.length := Int.tmod_nonneg _ (by omega)
 have t4 : Int.tmod (p * 7 + 3) b.length < b.length := Int.tmod_lt_of_pos _ hlp
 have r1 := hb.rd t1 t2
 have r2 := hb.rd t3 t4
 have d1 : 0 ≤ Int.tdiv p b.length := Int.tdiv_nonneg hp (by omega)
 have d2 : Int.tdiv p b.length ≤ p := by rw [Int.tdiv_eq_ediv_of_nonneg hp]; exact Int.ediv_le_self _ hp
 have x0 : 0 ≤ mixX b p := by unfold mixX; omega
 have x1 : mixX b p ≤ 100000000000000 := by unfold mixX; omega
 have x2 : Int.tdiv (mixX b p) 64 = mixX b p / 64 := Int.tdiv_eq_ediv_of_nonneg x0
 have x4 : (mixX b p / 64).toNat = (mixX b p).toNat / 64 := by omega
 have x3 : Go.bits .xor .i64 (mixX b p) (Int.tdiv (mixX b p) 64) = ((mixX b p).toNat ^^^ (mixX b p).toNat / 64 : Nat) := by
  rw [x2]
  have := xor_i64 (mixX b p).toNat (mixX b p / 64).toNat (by omega) (by omega)
  rw [Int.toNat_of_nonneg x0, Int.toNat_of_nonneg (by omega)] at this
  rw [this, x4]
 refine ⟨x0, ?_⟩
 rw [← Int.tmod_eq_emod_of_nonneg (by omega), ← x3]
 unfold spec_l6Rd_pick.f
 refine Ev.neg (by omega) ?_
 refine Ev.succ ?_
 simp only [spec_l6Rd_pick.j0]
 refine Ev.neg (by simp only [beq_iff_eq]; omega) ?_
 have e : wrap64 (wrap64 (p + 1) - 1) = p := by rw [w64 (x := p + 1) (by omega) (by omega), w64 (by omega) (by omega)]; omega
 rw [e]
 have e7 : wrap64 (wrap64 (p * 7) + 3) = p * 7 + 3 := by rw [w64 (x := p * 7) (by omega) (by omega), w64 (by omega) (by omega)]
 rw [e7]
 refine Ev.neg (by omega) (Ev.neg (by omega) (Ev.pos t1 (Ev.pos t2 (Ev.pos t3 (Ev.pos t4 (Ev.neg (by omega) ?_))))))
 have em : wrap64 (wrap64 (wrap64 (wrap64 (wrap64 (rd b (Int.tmod p b.length)) * 131) + wrap64 (wrap64 (rd b (Int.tmod (p * 7 + 3) b.length)) * 1117)) + wrap64 (p * 29)) + wrap64 (wrap64 (Int.tdiv p b.length) * 53)) = mixX b p := by
  unfold mixX
  generalize rd b (Int.tmod p b.length) = A at *
  generalize rd b (Int.tmod (p * 7 + 3) b.length) = B at *
  generalize Int.tdiv p b.length = D at *
  simp (disch := omega) only [w64]
 rw [em, w64 (x := Int.tdiv (mixX b p) 64) (by omega) (by omega), w64 (by omega) (by omega)]
 exact Ev.now _
theorem pick_ev {b : List Int} (hb : BY b) {n p : Int} (hn : 1 ≤ n) (hp : 0 ≤ p) (hp2 : p ≤ 1099511627776) :
 ∃ r, 0 ≤ r ∧ r < n ∧ Ev (fun k => spec_l6Rd_pick.f k b p n) (r, p + 1) := by
 have hl := hb.1
 by_cases h0 : b.length = 0
 · refine ⟨0, by omega, by omega, ?_⟩
   unfold spec_l6Rd_pick.f
   refine Ev.neg (by omega) ?_
   refine Ev.succ ?_
   simp only [spec_l6Rd_pick.j0]
   refine Ev.pos (by simp [h0]) ?_
   rw [w64 (by omega) (by omega)]
   exact Ev.now _
 · by_cases hlt : p < b.length
   · have hr := hb.rd hp hlt
     refine ⟨Int.tmod (rd b p) n, ?_, ?_, ?_⟩
     · exact Int.tmod_nonneg _ hr.1
     · exact Int.tmod_lt_of_pos _ (by omega)
     · unfold spec_l6Rd_pick.f
       refine Ev.neg (by omega) ?_
       refine Ev.succ ?_
       simp only [spec_l6Rd_pick.j0]
       refine Ev.neg (by simp only [beq_iff_eq]; omega) ?_
       have e : wrap64 (wrap64 (p + 1) - 1) = p := by rw [w64 (x := p + 1) (by omega) (by omega), w64 (by omega) (by omega)]; omega
       rw [e]
       refine Ev.pos hlt (Ev.pos hp (Ev.neg (by omega) ?_))
       rw [w64 (by omega) (by omega), w64 (by omega) (by omega)]
       exact Ev.now _
   · obtain ⟨_, h⟩ := pick_far hb hn hp hp2 h0 hlt
     exact ⟨_, Int.emod_nonneg _ (by omega), Int.emod_lt_of_pos _ (by omega), h⟩
theorem wf64 {a : Int} (h : (Lit.int .i64 a).wf = true) : -9223372036854775808 ≤ a ∧ a ≤ 9223372036854775807 := by
 simp [Lit.wf, IntKind.min, IntKind.max, IntKind.bits, IntKind.signed] at h
 omega
theorem wf8 {a : Int} (h : (Lit.int .u8 a).wf = true) : 0 ≤ a ∧ a < 256 := by
 simp [Lit.wf, IntKind.min, IntKind.max, IntKind.bits, IntKind.signed] at h
 omega
theorem spec_l6Open_ev {l : List Int} (hw : ∀ x ∈ l, (Lit.int .u8 x).wf = true) : ∃ b, BY b ∧ spec_l6Open.f l = some (b, 0) := by
 unfold spec_l6Open.f
 by_cases h : (l.length : Int) > 2000
 · refine ⟨l.take 2000, ⟨by rw [List.length_take]; omega, fun x hx => wf8 (hw x (List.mem_of_mem_take hx))⟩, ?_⟩
   rw [if_pos h, if_pos (by omega)]
 · exact ⟨l, ⟨by omega, fun x hx => wf8 (hw x hx)⟩, by rw [if_neg h]⟩
/-- The terms that are drawn. -/
def Drw (t : Int) : Prop := t.natAbs ∈ [1, 2, 3, 4, 5, 6, 7, 8, 10, 12, 15, 21, 30]
/-- What is drawn as a form: terms of a few sizes; the first one is seldom out of range. -/
def Dr (l : List Int) : Prop := l = [] ∨ ∃ x r, l = x :: r ∧ (Drw x ∨ x = 0 ∨ x = 31) ∧ ∀ t ∈ r, Drw t
theorem rd16 {i : Int} (h0 : 0 ≤ i) (h1 : i < 16) : Drw (rd [1, 2, 3, 5, 6, 7, 1, 10, 12, 3, 15, 4, 21, 1, 30, 8] i) ∧ 1 ≤ rd [1, 2, 3, 5, 6, 7, 1, 10, 12, 3, 15, 4, 21, 1, 30, 8] i ∧ rd [1, 2, 3, 5, 6, 7, 1, 10, 12, 3, 15, 4, 21, 1, 30, 8] i ≤ 30 := by
 have : ∀ n : Nat, n < 16 → Drw (rd [1, 2, 3, 5, 6, 7, 1, 10, 12, 3, 15, 4, 21, 1, 30, 8] (n : Int)) ∧ 1 ≤ rd [1, 2, 3, 5, 6, 7, 1, 10, 12, 3, 15, 4, 21, 1, 30, 8] (n : Int) ∧ rd [1, 2, 3, 5, 6, 7, 1, 10, 12, 3, 15, 4, 21, 1, 30, 8] (n : Int) ≤ 30 := by
  unfold Drw rd
  decide
 have h := this i.toNat (by omega)
 rwa [Int.toNat_of_nonneg h0] at h
theorem Drw.neg {t : Int} (h : Drw t) : Drw (-t) := by unfold Drw at *; rwa [Int.natAbs_neg]
theorem l91Form_l {b : List Int} (hb : BY b) (m : Nat) (hm : m ≤ 100) : ∀ (d : Nat) (o : List Int) (i : Nat) (p : Int), i + d = m → o.length = i → (∀ t ∈ o, Drw t) → 0 < m → 0 ≤ p → p + 2 * d + 2 ≤ 1000000000000 →
 ∃ r q, Dr r ∧ r.length ≤ m ∧ p ≤ q ∧ q ≤ p + 2 * d + 2 ∧ Ev (fun k => spec_l91Form.l0 k o (m : Int) (i : Int) b p) (r, q) := by
 intro d
 induction d with
 | zero =>
  intro o i p hi ho ht h0 hp hp2
  obtain ⟨r1, a1, a2, e1⟩ := pick_ev hb (n := 40) (p := p) (by omega) hp (by omega)
  have hne : o ≠ [] := by intro e; subst e; simp at ho; omega
  obtain ⟨x, r, rfl⟩ : ∃ x r, o = x :: r := List.exists_cons_of_ne_nil hne
  by_cases c1 : r1 = 0
  · obtain ⟨r2, a3, a4, e2⟩ := pick_ev hb (n := 2) (p := p + 1) (by omega) (by omega) (by omega)
    refine ⟨rd [0, 31] r2 :: r, p + 1 + 1, .inr ⟨_, _, rfl, ?_, fun t h => ht t (by simp [h])⟩, by simp at ho ⊢; omega, by omega, by omega, ?_⟩
    · rcases (by omega : r2 = 0 ∨ r2 = 1) with rfl | rfl
      · exact .inr (.inl rfl)
      · exact .inr (.inr rfl)
    · refine Ev.succ ?_
      simp only [spec_l91Form.l0]
      refine Ev.neg (by omega) (Ev.bind e1 (Ev.pos c1 (Ev.sbind (Ev.bind e2 ?_))))
      refine Ev.pos a3 (Ev.pos (by simp; omega) (Ev.pos (by simp only [List.length_cons]; omega) ?_))
      exact Ev.ret rfl
  · by_cases c2 : r1 = 1
    · refine ⟨[], p + 1, .inl rfl, by simp, by omega, by omega, ?_⟩
      refine Ev.succ ?_
      simp only [spec_l91Form.l0]
      exact Ev.neg (by omega) (Ev.bind e1 (Ev.neg c1 (Ev.pos c2 (Ev.now _))))
    · refine ⟨x :: r, p + 1, .inr ⟨x, r, rfl, .inl (ht x (by simp)), fun t h => ht t (by simp [h])⟩, by simp at ho ⊢; omega, by omega, by omega, ?_⟩
      refine Ev.succ ?_
      simp only [spec_l91Form.l0]
      exact Ev.neg (by omega) (Ev.bind e1 (Ev.neg c1 (Ev.neg c2 (Ev.now _))))
 | succ d ih =>
  intro o i p hi ho ht h0 hp hp2
  obtain ⟨r1, a1, a2, e1⟩ := pick_ev hb (n := 16) (p := p) (by omega) hp (by omega)
  obtain ⟨r2, a3, a4, e2⟩ := pick_ev hb (n := 5) (p := p + 1) (by omega) (by omega) (by omega)
  obtain ⟨t1, t2, t3⟩ := rd16 a1 a2
  have step : ∃ y, Drw y ∧ ∀ r q, Ev (fun k => spec_l91Form.l0 k (o ++ [y]) (m : Int) ((i + 1 : Nat) : Int) b (p + 1 + 1)) (r, q) → Ev (fun k => spec_l91Form.l0 k o (m : Int) (i : Int) b p) (r, q) := by
   by_cases c : r2 < 2
   · refine ⟨-(rd [1, 2, 3, 5, 6, 7, 1, 10, 12, 3, 15, 4, 21, 1, 30, 8] r1), t1.neg, fun r q h => ?_⟩
     refine Ev.succ ?_
     simp only [spec_l91Form.l0]
     refine Ev.pos (by omega) (Ev.sbind (Ev.bind e1 (Ev.pos a1 (Ev.pos (by simp; omega) (Ev.bind e2 (Ev.pos c (Ev.pos (by omega) ?_)))))))
     dsimp only
     rw [w64 (x := (i : Int) + 1) (by omega) (by omega), w64 (by omega) (by omega), cast_succ]
     exact h
   · refine ⟨rd [1, 2, 3, 5, 6, 7, 1, 10, 12, 3, 15, 4, 21, 1, 30, 8] r1, t1, fun r q h => ?_⟩
     refine Ev.succ ?_
     simp only [spec_l91Form.l0]
     refine Ev.pos (by omega) (Ev.sbind (Ev.bind e1 (Ev.pos a1 (Ev.pos (by simp; omega) (Ev.bind e2 (Ev.neg c (Ev.pos (by omega) ?_)))))))
     dsimp only
     rw [w64 (x := (i : Int) + 1) (by omega) (by omega), cast_succ]
     exact h
  obtain ⟨y, hy, hs⟩ := step
  obtain ⟨r, q, h1, h2, h3, h4, h5⟩ := ih (o ++ [y]) (i + 1) (p + 1 + 1) (by omega) (by simp [ho]) (by
   intro t h
   rcases List.mem_append.1 h with h | h
   · exact ht t h
   · rw [List.mem_singleton.1 h]; exact hy) h0 (by omega) (by omega)
  exact ⟨r, q, h1, h2, by omega, by omega, hs r q h5⟩
/-- A drawn form. -/
theorem spec_l91Form_ev {b : List Int} (hb : BY b) {n p : Int} (hn : 1 ≤ n) (hn2 : n ≤ 50) (hp : 0 ≤ p) (hp2 : p ≤ 900000000000) :
 ∃ r q, Dr r ∧ (r.length : Int) ≤ n ∧ p ≤ q ∧ q ≤ p + 2 * n + 3 ∧ Ev (fun k => spec_l91Form.f k b p n) (r, q) := by
 obtain ⟨r1, a1, a2, e1⟩ := pick_ev hb (n := n) (p := p) hn hp (by omega)
 obtain ⟨m, hm⟩ : ∃ m : Nat, 1 + r1 = m := ⟨(1 + r1).toNat, by omega⟩
 obtain ⟨r, q, h1, h2, h3, h4, h5⟩ := l91Form_l hb m (by omega) m [] 0 (p + 1) (by omega) rfl (by simp) (by omega) (by omega) (by omega)
 refine ⟨r, q, h1, by omega, by omega, by omega, ?_⟩
 unfold spec_l91Form.f
 refine Ev.bind e1 ?_
 dsimp only
 rw [w64 (by omega) (by omega), hm]
 exact h5
theorem Drw.bd {t : Int} (h : Drw t) : t ≠ 0 ∧ -30 ≤ t ∧ t ≤ 30 := by
 unfold Drw at h
 simp only [List.mem_cons, List.not_mem_nil, or_false] at h
 omega
theorem Dr.md {l : List Int} (h : Dr l) (hl : l.length ≤ 1000) : Md l := by
 refine ⟨by omega, fun t ht => ?_⟩
 rcases h with rfl | ⟨x, r, rfl, hx, hr⟩
 · simp at ht
 · rcases List.mem_cons.1 ht with rfl | ht
   · rcases hx with hx | rfl | rfl
     · have := hx.bd; omega
     · omega
     · omega
   · have := (hr t ht).bd; omega
/-- Of a drawn form, the terms are drawn ones. -/
theorem Dr.terms {l : List Int} (h : Dr l) (hv : fv l = true) : ∀ t ∈ l, Drw t := by
 obtain ⟨h1, _⟩ := fv_iff.1 hv
 intro t ht
 rcases h with rfl | ⟨x, r, rfl, hx, hr⟩
 · simp at ht
 · rcases List.mem_cons.1 ht with rfl | ht
   · rcases hx with hx | rfl | rfl
     · exact hx
     · have := h1 0 (by simp); omega
     · have := h1 31 (by simp); omega
   · exact hr t ht
theorem times_l {f : List Int} {n : Int} (h : fv f = true) (hn : n ≠ 0) (ht : fv (tms f n) = true) (L : List Int) (hL : L.length ≤ 100) : ∀ (r : List Int) (i : Nat), L.drop i = r →
 Ev (fun k => laws_FnTimes.l0 k f (tms f n) (tms f 1) true (tms f 1) true L (i : Int)) true
 | [], i, h1 => by
  have := drop_nil h1
  have hl := fv_len h
  refine Ev.succ ?_
  simp only [laws_FnTimes.l0]
  refine Ev.neg (by omega) (Ev.pos (by simp) (Ev.pos (by simp) (Ev.bind (laws_sameInts_ev (by unfold tms; simp; omega)) (Ev.pos rfl ?_))))
  by_cases c : (f.length : Int) % 2 = 1
  · exact Ev.pos c (Ev.now _)
  · refine Ev.neg c (Ev.bind (impl_FormDisc_ev (Md.of_fv ht)) (Ev.bind (impl_FormDisc_ev (Md.of_fv h)) (Ev.ret ?_)))
    rw [fdisc_of h, fdisc_of ht]
    unfold tms
    rw [Nt.cor_prod n hn (fv_nz h), if_pos (by omega)]
    simp
 | p :: r, i, h1 => by
  obtain ⟨v1, v2, v3⟩ := drop_cons h1
  refine Ev.succ ?_
  simp only [laws_FnTimes.l0]
  rw [v2, w64 (by omega) (by omega), cast_succ]
  refine Ev.pos (by omega) (Ev.pos (by omega) (Ev.bind (impl_FormVanishes_ev (Md.of_fv ht)) (Ev.bind (impl_FormVanishes_ev (Md.of_fv h)) (Ev.neg ?_ (times_l h hn ht L hL r (i + 1) v3)))))
  rw [fvan_tms h hn ht]; simp
theorem draw_times {l : List Int} (hl : ∀ x ∈ l, (Lit.int .u8 x).wf = true) : ∃ f n, Dr f ∧ f.length ≤ 4 ∧ Ev (fun k => spec_DrawFormTimes.f k l) (f, n) := by
 obtain ⟨b, hb, ho⟩ := spec_l6Open_ev hl
 obtain ⟨f, q, h1, h2, h3, h4, h5⟩ := spec_l91Form_ev hb (n := 4) (p := 0) (by omega) (by omega) (by omega) (by omega)
 obtain ⟨x, x1, x2, e1⟩ := pick_ev hb (n := 16) (p := q) (by omega) (by omega) (by omega)
 by_cases c : x = 0
 · obtain ⟨y, y1, y2, e2⟩ := pick_ev hb (n := 2) (p := q + 1) (by omega) (by omega) (by omega)
   refine ⟨f, rd [0, 5001] y, h1, by omega, ?_⟩
   unfold spec_DrawFormTimes.f
   rw [ho]
   exact Ev.sbind (Ev.bind h5 (Ev.bind e1 (Ev.pos c (Ev.sbind (Ev.bind e2 (Ev.pos y1 (Ev.pos (by simp only [List.length_cons, List.length_nil]; omega) (Ev.now _))))))))
 · obtain ⟨y, y1, y2, e2⟩ := pick_ev hb (n := 8) (p := q + 1) (by omega) (by omega) (by omega)
   refine ⟨f, rd [1, -1, 2, 3, -2, 4, 5, -3] y, h1, by omega, ?_⟩
   unfold spec_DrawFormTimes.f
   rw [ho]
   exact Ev.sbind (Ev.bind h5 (Ev.bind e1 (Ev.neg c (Ev.sbind (Ev.bind e2 (Ev.pos y1 (Ev.pos (by simp only [List.length_cons, List.length_nil]; omega) (Ev.now _))))))))
theorem the : laws_FnTimes.Pure := by
 intro l _ _ hl
 refine Ev.rounds ?_
 unfold laws_FnTimes.f
 by_cases h : (l.length : Int) > 1048576
 · exact Ev.pos h (Ev.now _)
 · obtain ⟨f, n, h1, h2, hd⟩ := draw_times hl
   have hM : Md f := h1.md (by omega)
   have hlen : (ftimes f n).1.length ≤ 1000000 := by
    unfold ftimes
    split
    · unfold tms; simp; omega
    · simp
   refine Ev.neg h (Ev.bind hd (Ev.bind (impl_FormTimes_ev hM) (Ev.bind (spec_FormTimes_ev hM) (Ev.neg (by simp) (Ev.bind (laws_sameInts_ev hlen) (Ev.pos rfl (Ev.succ ?_)))))))
   simp only [laws_FnTimes.j0]
   by_cases c : fv f = true ∧ n ≠ 0 ∧ isN n = true ∧ fv (tms f n) = true
   · obtain ⟨hv, hn, hN, ht⟩ := c
     rw [ftimes_of ⟨hv, hn, hN, ht⟩]
     have e : ftimes (tms f n) n = (tms f 1, true) := by
      have := tms_tms hv hn
      rw [ftimes_of ⟨ht, hn, hN, by rw [this]; exact tms_one hv⟩, this]
     refine Ev.neg (by simp) (Ev.bind (impl_FormTimes_ev (Md.of_fv ht)) (Ev.bind (impl_FormCores_ev hM) ?_))
     rw [e, ftimes_one hv]
     exact times_l hv hn ht [0, 2, 3, 5] (by simp) _ 0 rfl
   · rw [ftimes_no c]
     exact Ev.pos (by simp) (Ev.pos (by simp) (Ev.bind (laws_sameInts_ev (by simp)) (Ev.now _)))
end Go.Proofs.Ytkbklmlahnjcmaa.KFnTimes

/- What the printed functions of the law FnVanishOdd compute, and why the law holds of it; for all arguments that its statement speaks of. -/
import Derived.Test.YtbfnkfnapfaimaaH
import Derived.Test.YtbfnkfnapfaimaaPFnVanishOddx9
import Derived.Test.YtbfnkfnapfaimaaNtA
import Derived.Test.YtbfnkfnapfaimaaNtC
import Derived.Test.YtbfnkfnapfaimaaNtE
import Derived.Test.YtbfnkfnapfaimaaNtK
import Derived.Test.YtbfnkfnapfaimaaNtG
import Derived.Test.YtbfnkfnapfaimaaNtD
set_option linter.unusedVariables false
set_option linter.unusedSimpArgs false
namespace Go.Proofs.Ytbfnkfnapfaimaa.KFnVanishOdd
open Go.RowKit Go.Proofs.YtbfnkfnapfaimaaW.PrintWords Go.Proofs.YtbfnkfnapfaimaaW.PrintLast Go.Proofs.YtbfnkfnapfaimaaW.PrintMore Go.Proofs.Ytbfnkfnapfaimaa.PFnVanishOdd Go.Proofs.Ytbfnkfnapfaimaa.K
open Go.Proofs.Ytbfnkfnapfaimaa

theorem tmod_emod {a m : Int} (h : 0 ≤ a) : Int.tmod a m = a % m := Int.tmod_eq_emod_of_nonneg h
theorem tdiv_ediv {a m : Int} (h : 0 ≤ a) : Int.tdiv a m = a / m := Int.tdiv_eq_ediv_of_nonneg h
theorem small_mul2 {a b : Int} (ha : 0 ≤ a) (ha' : a ≤ 5000) (hb : 0 ≤ b) (hb' : b ≤ 5000) : 0 ≤ a * b ∧ a * b ≤ 25000000 := by
  have h1 : a * b ≤ 5000 * 5000 := Int.mul_le_mul (by omega) (by omega) hb (by omega)
  have h2 := Int.mul_nonneg ha hb
  omega
/-- A name is no larger than this. -/
theorem names_small {p : Int} (hp : Nt.Pl p) (hp5 : p ≤ 5000) : ∀ n ∈ Nt.names p, n ≠ 0 ∧ n.natAbs ≤ 25000000 := by
  intro n hn
  refine ⟨Nt.names_nz hp n hn, ?_⟩
  unfold Nt.names at hn
  split at hn
  · simp at hn; omega
  · split at hn
    · simp at hn; omega
    · rename_i h0 h2
      have hp := hp.resolve_left h0
      obtain ⟨n1, n2, n3, n4⟩ := Nt.nr_spec hp h2
      have hm := small_mul2 (a := p) (b := Nt.nr p) (by omega) (by omega) (by omega) (by omega)
      simp only [List.mem_cons, List.not_mem_nil, or_false] at hn
      rcases hn with rfl | rfl | rfl | rfl <;> omega
theorem sq_le {m p : Int} (h0 : 2 ≤ m) (h : m * m ≤ p) : m < p := by
  have : m * 2 ≤ m * m := Int.mul_le_mul_of_nonneg_left h0 (by omega)
  omega
theorem small_sq {m : Int} (h0 : 0 ≤ m) (h : m ≤ 100000) : 0 ≤ m * m ∧ m * m ≤ 10000000000 := by
  have h1 : m * m ≤ m * 100000 := Int.mul_le_mul_of_nonneg_left h h0
  have h2 := Int.mul_nonneg h0 h0
  omega


open Classical in
/-- Is it a prime, at most 5000? -/
noncomputable def isP (p : Int) : Bool := decide (Nt.Pr p ∧ p ≤ 5000)
theorem isP_iff {p : Int} : isP p = true ↔ Nt.Pr p ∧ p ≤ 5000 := by unfold isP; simp
theorem isP_false {p : Int} (h : ¬ (Nt.Pr p ∧ p ≤ 5000)) : isP p = false := by unfold isP; simpa using h
theorem isP_true {p : Int} (h : Nt.Pr p ∧ p ≤ 5000) : isP p = true := isP_iff.2 h

open Classical in
/-- Is it a place, at most 5000? -/
noncomputable def isPl (p : Int) : Bool := decide (p = 0 ∨ (Nt.Pr p ∧ p ≤ 5000))
theorem isPl_iff {p : Int} : isPl p = true ↔ p = 0 ∨ (Nt.Pr p ∧ p ≤ 5000) := by unfold isPl; simp
theorem isPl_pl {p : Int} (h : isPl p = true) : Nt.Pl p ∧ 0 ≤ p ∧ p ≤ 5000 := by
  rcases isPl_iff.1 h with rfl | ⟨h1, h2⟩
  · exact ⟨.inl rfl, by omega, by omega⟩
  · exact ⟨.inr h1, by have := h1.1; omega, h2⟩
theorem isPl_of {p : Int} (h : p ≠ 0) : isPl p = isP p := by
  unfold isPl isP
  simp [h]

/-- A term of a form. -/
def okT (t : Int) : Bool := decide (t ≠ 0 ∧ -30 ≤ t ∧ t ≤ 30)
theorem okT_iff {t : Int} : okT t = true ↔ t ≠ 0 ∧ -30 ≤ t ∧ t ≤ 30 := by unfold okT; simp
/-- Is it a form? -/
def fv (l : List Int) : Bool := l.all okT && decide (1 ≤ l.length ∧ l.length ≤ 4)
theorem fv_iff {l : List Int} : fv l = true ↔ (∀ t ∈ l, t ≠ 0 ∧ -30 ≤ t ∧ t ≤ 30) ∧ 1 ≤ l.length ∧ l.length ≤ 4 := by
  unfold fv; simp [okT_iff]
/-- Not too large, as far as the walk goes. -/
def Md (l : List Int) : Prop := l.length ≤ 1000000 ∧ ∀ t ∈ l, -1000000000000 ≤ t ∧ t ≤ 1000000000000
theorem Md.of_fv {l : List Int} (h : fv l = true) : Md l := by
  obtain ⟨h1, h2, h3⟩ := fv_iff.1 h
  exact ⟨by omega, fun t ht => by have := h1 t ht; omega⟩
/-- How many are less than 0. -/
def less : List Int → Nat
  | [] => 0
  | t :: l => if t < 0 then less l + 1 else less l
theorem less_le : ∀ l : List Int, less l ≤ l.length
  | [] => by simp [less]
  | t :: l => by have := less_le l; unfold less; split <;> simp <;> omega
theorem less_append : ∀ a b : List Int, less (a ++ b) = less a + less b
  | [], b => by simp [less]
  | t :: a, b => by
    have := less_append a b
    simp only [List.cons_append, less]
    split <;> omega

theorem less_ng : ∀ l : List Int, less l = Nt.ng l
  | [] => rfl
  | t :: l => by unfold less Nt.ng; rw [less_ng l]
theorem fv_nz {l : List Int} (h : fv l = true) : Nt.Nz l := fun t ht => ((fv_iff.1 h).1 t ht).1
theorem fv_len {l : List Int} (h : fv l = true) : 1 ≤ l.length ∧ l.length ≤ 4 := (fv_iff.1 h).2
theorem fv_bd {l : List Int} (h : fv l = true) : ∀ t ∈ l, t.natAbs ≤ 30 := fun t ht => by have := (fv_iff.1 h).1 t ht; omega
theorem step_bd {a t : Int} {n : Nat} (h : a.natAbs * 30 ^ (n + 1) ≤ 810000) (ht : t.natAbs ≤ 30) : (a * t).natAbs * 30 ^ n ≤ 810000 ∧ (a * t).natAbs ≤ 810000 := by
  have h1 : (a * t).natAbs * 30 ^ n ≤ 810000 := by
    refine Nat.le_trans ?_ h
    rw [Int.natAbs_mul, Nat.pow_succ, Nat.mul_comm (30 ^ n) 30, ← Nat.mul_assoc]
    exact Nat.mul_le_mul_right _ (Nat.mul_le_mul_left _ ht)
  exact ⟨h1, Nat.le_trans (Nat.le_mul_of_pos_right _ (Nat.pow_pos (by omega))) h1⟩
theorem prod_le : ∀ {l : List Int}, (∀ t ∈ l, t.natAbs ≤ 30) → (Nt.prod l).natAbs ≤ 30 ^ l.length
  | [], _ => by simp [Nt.prod]
  | t :: l, h => by
    unfold Nt.prod
    rw [Int.natAbs_mul, List.length_cons, Nat.pow_succ, Nat.mul_comm]
    exact Nat.mul_le_mul (prod_le fun s hs => h s (by simp [hs])) (h t (by simp))
theorem pow_four {n : Nat} (h : n ≤ 4) : 30 ^ n ≤ 810000 := Nat.le_trans (Nat.pow_le_pow_right (by omega) h) (by omega)
theorem prod_bd {l : List Int} (h : fv l = true) : Nt.prod l ≠ 0 ∧ (Nt.prod l).natAbs ≤ 810000 :=
  ⟨Nt.prod_nz (fv_nz h), Nat.le_trans (prod_le (fv_bd h)) (pow_four (fv_len h).2)⟩
theorem nz_take {l : List Int} (h : Nt.Nz l) (i : Nat) : Nt.Nz (l.take i) := fun t ht => h t (List.mem_of_mem_take ht)
theorem rd_take {xs : List Int} {i j : Nat} (h : j < i) : rd (xs.take i) (j : Int) = rd xs (j : Int) := by
  unfold rd
  simp [List.getD_eq_getElem?_getD, List.getElem?_take, h]
theorem pm_bd {x : Int} (h : x = 1 ∨ x = -1) : -1 ≤ x ∧ x ≤ 1 := by omega
theorem pm_mul {x y : Int} (h : x = 1 ∨ x = -1) (k : y = 1 ∨ y = -1) : x * y = 1 ∨ x * y = -1 := by
  rcases h with rfl | rfl <;> rcases k with rfl | rfl <;> simp
theorem prod_snoc (l : List Int) (t : Int) : Nt.prod (l ++ [t]) = Nt.prod l * t := by rw [Nt.prod_app]; simp [Nt.prod]
theorem getlen {xs : List Int} {i : Nat} (h : i < xs.length) : xs.drop i = rd xs (i : Int) :: xs.drop (i + 1) := by
  rw [List.drop_eq_getElem_cons h]
  congr 1
  unfold rd
  simp [List.getD_eq_getElem?_getD, h]

/-- What FormVanishes tells. -/
noncomputable def fvan (f : List Int) (p : Int) : Bool := fv f && (isPl p && Nt.van p f)
theorem fvan_of {f : List Int} {p : Int} (h : fv f = true) (h' : isPl p = true) : fvan f p = Nt.van p f := by unfold fvan; rw [h, h']; rfl
theorem fvan_no {f : List Int} {p : Int} (h : ¬ fv f = true) : fvan f p = false := by unfold fvan; rw [show fv f = false by simpa using h]; rfl
theorem fvan_iff {f : List Int} {p : Int} : fvan f p = true ↔ fv f = true ∧ isPl p = true ∧ Nt.van p f = true := by unfold fvan; simp

theorem impl_prime_l {p : Int} (hp2 : p ≤ 5000) : ∀ (d : Nat) (m : Int), 2 ≤ m → m ≤ 5001 → (p - m).toNat ≤ d → (∀ q, 2 ≤ q → q < m → ¬ q ∣ p) →
    Ev (fun k => impl_prime.l0 k p m) (isP p) := by
  intro d
  induction d with
  | zero =>
    intro m h2 h3 hd hq
    have hs := small_sq (m := m) (by omega) (by omega)
    refine Ev.succ ?_
    simp only [impl_prime.l0]
    rw [w64 (by omega) (by omega)]
    have hgt : p < m * m := by
      rcases Int.lt_or_le p (m * m) with h | h
      · exact h
      · have := sq_le h2 h; omega
    refine Ev.neg (by omega) (Ev.ret ?_)
    by_cases h : 2 ≤ p
    · rw [isP_true ⟨Nt.pr_of_sqrt h (by omega) hq hgt, hp2⟩]; simpa using h
    · rw [isP_false (fun h' => h h'.1.1)]; simpa using h
  | succ d ih =>
    intro m h2 h3 hd hq
    have hs := small_sq (m := m) (by omega) (by omega)
    refine Ev.succ ?_
    simp only [impl_prime.l0]
    rw [w64 (by omega) (by omega)]
    by_cases hle : m * m ≤ p
    · have hlt := sq_le h2 hle
      refine Ev.pos hle (Ev.neg (by omega) ?_)
      by_cases ht : Int.tmod p m = 0
      · refine Ev.pos ht (Ev.ret ?_)
        rw [isP_false (fun h => Nt.not_pr_of_dvd h2 hle (Nt.tmod_zero_iff.1 ht) h.1)]
      · refine Ev.neg ht ?_
        rw [w64 (by omega) (by omega)]
        refine ih (m + 1) (by omega) (by omega) (by omega) (fun q h1 h2 => ?_)
        by_cases e : q = m
        · rw [e]; exact fun h => ht (Nt.tmod_zero_iff.2 h)
        · exact hq q h1 (by omega)
    · refine Ev.neg hle (Ev.ret ?_)
      by_cases h : 2 ≤ p
      · rw [isP_true ⟨Nt.pr_of_sqrt h (by omega) hq (by omega), hp2⟩]; simpa using h
      · rw [isP_false (fun h' => h h'.1.1)]; simpa using h

theorem impl_PrimeIs_ev {p : Int} : Ev (fun k => impl_PrimeIs.f k p) (isP p) := by
  unfold impl_PrimeIs.f
  by_cases h : p ≤ 5000
  · refine Ev.pos h (Ev.bind (a := isP p) ?_ (Ev.now _))
    unfold impl_prime.f
    exact impl_prime_l h _ 2 (by omega) (by omega) (Nat.le_refl _) (fun q h1 h2 => by omega)
  · refine Ev.neg h (Ev.ret ?_)
    rw [isP_false (fun h' => h h'.2)]

theorem impl_PlaceValid_ev {p : Int} : Ev (fun k => impl_PlaceValid.f k p) (isPl p) := by
  unfold impl_PlaceValid.f
  by_cases h : p = 0
  · refine Ev.pos h (Ev.ret ?_)
    rw [isPl_iff.2 (.inl h)]
  · refine Ev.neg h (Ev.bind impl_PrimeIs_ev (Ev.ret ?_))
    rw [isPl_of h]

theorem impl_FormValid_l (xs : List Int) (hx : Md xs) : ∀ (r : List Int) (i : Nat), xs.drop i = r → Ev (fun k => impl_FormValid.l0 k xs xs (xs.length : Int) (i : Int)) (r.all okT && decide (1 ≤ xs.length ∧ xs.length ≤ 4))
  | [], i, h => by
    have := drop_nil h
    refine Ev.succ ?_
    simp only [impl_FormValid.l0]
    refine Ev.neg (by omega) ?_
    by_cases h1 : (xs.length : Int) ≥ 1
    · exact Ev.pos h1 (Ev.ret (by simp only [List.all_nil, Bool.true_and, decide_eq_decide]; omega))
    · exact Ev.neg h1 (Ev.ret (by simp only [List.all_nil, Bool.true_and]; symm; rw [decide_eq_false_iff_not]; omega))
  | t :: r, i, h => by
    obtain ⟨h1, h2, h3⟩ := drop_cons h
    have hb := hx.2 t (h2 ▸ rd_mem h1)
    have hl := hx.1
    refine Ev.succ ?_
    simp only [impl_FormValid.l0]
    rw [h2]
    refine Ev.pos (by omega) (Ev.pos (by omega) (Ev.pos (by omega) ?_))
    by_cases h0 : t = 0
    · exact Ev.pos h0 (Ev.ret (by simp [okT, h0]))
    · refine Ev.neg h0 ?_
      unfold impl_size.f
      rw [w64 (by omega) (by omega)]
      refine Ev.sbind ?_
      have hm : mx t (-t) = if t < 0 then -t else t := by unfold mx; split <;> split <;> omega
      rw [hm]
      by_cases hs : (if t < 0 then -t else t) > 30
      · refine Ev.pos hs (Ev.ret ?_)
        have : okT t = false := by unfold okT; simp; intro _ _; split at hs <;> omega
        simp [this]
      · refine Ev.neg hs ?_
        have : okT t = true := okT_iff.2 ⟨h0, by split at hs <;> omega, by split at hs <;> omega⟩
        rw [w64 (by omega) (by omega), cast_succ]
        refine Ev.to (impl_FormValid_l xs hx r (i + 1) h3) ?_
        simp [this]
theorem impl_FormValid_ev {xs : List Int} (hx : Md xs) : Ev (fun k => impl_FormValid.f k xs) (fv xs) := by
  unfold impl_FormValid.f
  exact impl_FormValid_l xs hx xs 0 rfl

theorem impl_product_l (xs : List Int) (hl : xs.length ≤ 1000000) : ∀ (r : List Int) (i : Nat) (a : Int), xs.drop i = r → (∀ t ∈ r, t.natAbs ≤ 30) → a.natAbs * 30 ^ r.length ≤ 810000 → Ev (fun k => impl_product.l0 k a xs (xs.length : Int) (i : Int)) (a * Nt.prod r)
  | [], i, a, h, _, _ => by
    have := drop_nil h
    refine Ev.succ ?_
    simp only [impl_product.l0]
    exact Ev.neg (by omega) (Ev.ret (by simp [Nt.prod]))
  | t :: r, i, a, h, ht, hb => by
    obtain ⟨h1, h2, h3⟩ := drop_cons h
    obtain ⟨b1, b2⟩ := step_bd hb (ht t (by simp))
    refine Ev.succ ?_
    simp only [impl_product.l0]
    rw [h2, w64 (x := a * t) (by omega) (by omega), w64 (x := (i : Int) + 1) (by omega) (by omega), cast_succ]
    refine Ev.pos (by omega) (Ev.pos (by omega) (Ev.pos (by omega) ?_))
    exact Ev.to (impl_product_l xs hl r (i + 1) (a * t) h3 (fun s hs => ht s (by simp [hs])) b1) (by simp only [Nt.prod, Int.mul_assoc])
theorem impl_product_ev {xs : List Int} (h : fv xs = true) : Ev (fun k => impl_product.f k xs) (Nt.prod xs) := by
  unfold impl_product.f
  have := fv_len h
  exact Ev.to (impl_product_l xs (by omega) xs 0 1 rfl (fv_bd h) (by have := pow_four this.2; simpa using this)) (by simp)

theorem isq8 {u : Int} (h : u % 2 = 1) : u % 8 = 1 ∨ u % 8 = 3 ∨ u % 8 = 5 ∨ u % 8 = 7 := by omega
theorem pw_if (e : Int) (k : Nat) : Nt.pw e k = if k % 2 = 1 then e else 1 := rfl
/-- The exponent at 2: of rests by 8. -/
theorem exp8 {i j : Nat} {u v : Int} (hu : u % 2 = 1) (hv : v % 2 = 1) :
    (((u % 8 - 1) / 2 * ((v % 8 - 1) / 2) + i * ((v % 8) * (v % 8) - 1) / 8 + j * ((u % 8) * (u % 8) - 1) / 8) % 2) = ((Nt.e4 u * Nt.e4 v + i * Nt.e8 v + j * Nt.e8 u : Nat) : Int) % 2 := by
  unfold Nt.e4 Nt.e8
  have k3 : u % 4 = u % 8 % 4 := by omega
  have k4 : v % 4 = v % 8 % 4 := by omega
  rw [k3, k4]
  rcases isq8 hu with a | a | a | a <;> rcases isq8 hv with b | b | b | b <;> simp only [a, b] <;> simp <;> omega
theorem exp16 {i j : Nat} {u v : Int} (hu : u % 2 = 1) (hv : v % 2 = 1) :
    (((u % 16 - 1) / 2 * ((v % 16 - 1) / 2) + i * (((v % 16) * (v % 16) - 1) / 8) + j * (((u % 16) * (u % 16) - 1) / 8)) % 2) = ((Nt.e4 u * Nt.e4 v + i * Nt.e8 v + j * Nt.e8 u : Nat) : Int) % 2 := by
  unfold Nt.e4 Nt.e8
  have h1 : u % 16 = 1 ∨ u % 16 = 3 ∨ u % 16 = 5 ∨ u % 16 = 7 ∨ u % 16 = 9 ∨ u % 16 = 11 ∨ u % 16 = 13 ∨ u % 16 = 15 := by omega
  have h2 : v % 16 = 1 ∨ v % 16 = 3 ∨ v % 16 = 5 ∨ v % 16 = 7 ∨ v % 16 = 9 ∨ v % 16 = 11 ∨ v % 16 = 13 ∨ v % 16 = 15 := by omega
  have k1 : u % 8 = u % 16 % 8 := by omega
  have k2 : v % 8 = v % 16 % 8 := by omega
  have k3 : u % 4 = u % 16 % 4 := by omega
  have k4 : v % 4 = v % 16 % 4 := by omega
  rw [k1, k2, k3, k4]
  rcases h1 with a | a | a | a | a | a | a | a <;> rcases h2 with b | b | b | b | b | b | b | b <;> simp only [a, b] <;> simp <;> omega
/-- How often a prime divides is bounded by the size. -/
theorem two_pow_le (p : Int) (hp : 2 ≤ p) : ∀ k : Nat, (2 : Int) ^ k ≤ p ^ k
  | 0 => by simp
  | k + 1 => by
    rw [Int.pow_succ, Int.pow_succ]
    exact Int.mul_le_mul (two_pow_le p hp k) hp (by omega) (by have := Nt.pow_pos' hp k; omega)
theorem lt_two_pow' (k : Nat) : (k : Int) < 2 ^ k := by
  have := @Nat.lt_two_pow_self k
  exact_mod_cast this
theorem vl_small {n p : Int} {m : Nat} (hp : 2 ≤ p) (hn : n ≠ 0) (hb : n.natAbs < 2 ^ m) : Nt.vl n p < m := by
  rcases Nat.lt_or_ge (Nt.vl n p) m with h | h
  · exact h
  · exfalso
    obtain ⟨h1, h2⟩ := Nt.vl_spec hp hn
    have hu : Nt.un n p ≠ 0 := fun e => h2 (e ▸ Int.dvd_zero p)
    have e : n.natAbs = (Nt.un n p).natAbs * (p ^ Nt.vl n p).natAbs := by rw [← Int.natAbs_mul, ← h1]
    have h3 : 1 * (p ^ Nt.vl n p).natAbs ≤ (Nt.un n p).natAbs * (p ^ Nt.vl n p).natAbs := Nat.mul_le_mul_right _ (by omega)
    have h4 := two_pow_le p hp (Nt.vl n p)
    have h5 : (2 : Nat) ^ m ≤ 2 ^ Nt.vl n p := Nat.pow_le_pow_right (by omega) h
    have h6 : (((2 : Nat) ^ Nt.vl n p : Nat) : Int) = (2 : Int) ^ Nt.vl n p := by exact_mod_cast rfl
    omega
theorem un_le {n p : Int} (hp : 2 ≤ p) (hn : n ≠ 0) : (Nt.un n p).natAbs ≤ n.natAbs := by
  obtain ⟨h1, h2⟩ := Nt.vl_spec hp hn
  have e : n.natAbs = (Nt.un n p).natAbs * (p ^ Nt.vl n p).natAbs := by rw [← Int.natAbs_mul, ← h1]
  have h3 := Nt.pow_pos' hp (Nt.vl n p)
  have := Nat.mul_le_mul_left (Nt.un n p).natAbs (show 1 ≤ (p ^ Nt.vl n p).natAbs by omega)
  omega
theorem par_sign {e : Int} {n : Nat} (h : e % 2 = (n : Int) % 2) : (if e % 2 = 0 then (1 : Int) else -1) = Nt.pw (-1) n := by
  rw [pw_if, h]
  rcases Nat.mod_two_eq_zero_or_one n with h | h
  · rw [if_pos (by omega), if_neg (by omega)]
  · rw [if_neg (by omega), if_pos h]
theorem leg_neg {p : Int} (hp : Nt.Pr p) (h2 : p ≠ 2) (n : Nat) : Nt.pw (Nt.leg (-1) p) n = Nt.pw (-1) (n * Nt.hf p) := by
  rw [Nt.leg_neg_one hp h2, pw_if, pw_if, Nat.mul_mod]
  rcases Nat.mod_two_eq_zero_or_one n with h | h <;> rcases Nat.mod_two_eq_zero_or_one (Nt.hf p) with h' | h' <;> rw [h, h'] <;> simp

theorem impl_power_l (x : Int) (hx : -5000 ≤ x ∧ x ≤ 5000) (n : Nat) (hn : n ≤ 4) : ∀ (d i : Nat), i + d = n → Ev (fun k => impl_power.l0 k x (x ^ i) (n : Int) (i : Int)) (x ^ n)
  | 0, i, h => by
    refine Ev.succ ?_
    simp only [impl_power.l0]
    refine Ev.neg (by omega) (Ev.ret ?_)
    rw [show i = n by omega]
  | d + 1, i, h => by
    refine Ev.succ ?_
    simp only [impl_power.l0]
    refine Ev.pos (by omega) ?_
    have hb : -625000000000000 ≤ x ^ i ∧ x ^ i ≤ 625000000000000 := by
      have h1 : (x ^ i).natAbs ≤ 5000 ^ 4 := by
        rw [Int.natAbs_pow]
        exact Nat.le_trans (Nat.pow_le_pow_left (show x.natAbs ≤ 5000 by omega) i) (Nat.pow_le_pow_right (by omega) (by omega))
      omega
    have hb2 : -3125000000000000000 ≤ x ^ i * x ∧ x ^ i * x ≤ 3125000000000000000 := by
      have h1 : (x ^ i * x).natAbs ≤ 625000000000000 * 5000 := by
        rw [Int.natAbs_mul]
        exact Nat.mul_le_mul (by omega) (by omega)
      omega
    rw [w64 (x := x ^ i * x) (by omega) (by omega), w64 (by omega) (by omega), cast_succ, ← Int.pow_succ]
    exact impl_power_l x hx n hn d (i + 1) (by omega)
theorem impl_power_ev {x e : Int} (hx : -5000 ≤ x ∧ x ≤ 5000) (n : Nat) (he : e = n) (hn : n ≤ 4) : Ev (fun k => impl_power.f k x e) (x ^ n) := by
  subst he
  unfold impl_power.f
  simpa using impl_power_l x hx n hn n 0 (by omega)
theorem impl_power_par {x e : Int} (hx : -5000 ≤ x ∧ x ≤ 5000) (n : Nat) (he : e = ((n % 2 : Nat) : Int)) : Ev (fun k => impl_power.f k x e) (Nt.pw x n) := by
  refine Ev.to (impl_power_ev hx (n % 2) he (by omega)) ?_
  rw [pw_if]
  rcases Nat.mod_two_eq_zero_or_one n with h | h <;> rw [h] <;> simp [Int.pow_succ]
theorem impl_power_l5 (x : Int) (hx : -5000 ≤ x ∧ x ≤ 5000) (n : Nat) (hn : n ≤ 5) : ∀ (d i : Nat), i + d = n → Ev (fun k => impl_power.l0 k x (x ^ i) (n : Int) (i : Int)) (x ^ n)
  | 0, i, h => by
    refine Ev.succ ?_
    simp only [impl_power.l0]
    refine Ev.neg (by omega) (Ev.ret ?_)
    rw [show i = n by omega]
  | d + 1, i, h => by
    refine Ev.succ ?_
    simp only [impl_power.l0]
    refine Ev.pos (by omega) ?_
    have hb : -625000000000000 ≤ x ^ i ∧ x ^ i ≤ 625000000000000 := by
      have h1 : (x ^ i).natAbs ≤ 5000 ^ 4 := by
        rw [Int.natAbs_pow]
        exact Nat.le_trans (Nat.pow_le_pow_left (show x.natAbs ≤ 5000 by omega) i) (Nat.pow_le_pow_right (by omega) (by omega))
      omega
    have hb2 : -3125000000000000000 ≤ x ^ i * x ∧ x ^ i * x ≤ 3125000000000000000 := by
      have h1 : (x ^ i * x).natAbs ≤ 625000000000000 * 5000 := by
        rw [Int.natAbs_mul]
        exact Nat.mul_le_mul (by omega) (by omega)
      omega
    rw [w64 (x := x ^ i * x) (by omega) (by omega), w64 (by omega) (by omega), cast_succ, ← Int.pow_succ]
    exact impl_power_l5 x hx n hn d (i + 1) (by omega)
theorem impl_power_ev5 {x e : Int} (hx : -5000 ≤ x ∧ x ≤ 5000) (n : Nat) (he : e = n) (hn : n ≤ 5) : Ev (fun k => impl_power.f k x e) (x ^ n) := by
  subst he
  unfold impl_power.f
  simpa using impl_power_l5 x hx n hn n 0 (by omega)

theorem div_facts {n p : Int} (hp : 2 ≤ p) (hn : n ≠ 0) (h : Int.tmod n p = 0) : Int.tdiv n p ≠ 0 ∧ (Int.tdiv n p).natAbs < n.natAbs ∧ Nt.vl n p = Nt.vl (Int.tdiv n p) p + 1 ∧ Nt.un n p = Nt.un (Int.tdiv n p) p := by
  obtain ⟨c, rfl⟩ := Nt.tmod_zero_iff.1 h
  rw [Int.mul_tdiv_cancel_left _ (by omega)]
  have hc : c ≠ 0 := by intro e; subst e; simp at hn
  refine ⟨hc, ?_, ?_⟩
  · rw [Int.natAbs_mul]
    have h1 : 2 ≤ p.natAbs := by omega
    have := Nat.mul_le_mul_right c.natAbs h1
    have : 0 < c.natAbs := by omega
    omega
  · obtain ⟨h1, h2⟩ := Nt.vl_spec hp hc
    refine Nt.vl_eq hp hn h2 ?_
    rw [Int.pow_succ]
    generalize p ^ Nt.vl c p = X at *
    generalize Nt.un c p = U at *
    rw [h1]; grind
theorem div_none {n p : Int} (hp : 2 ≤ p) (hn : n ≠ 0) (h : ¬ Int.tmod n p = 0) : Nt.vl n p = 0 ∧ Nt.un n p = n :=
  Nt.vl_unit hp hn (fun hd => h (Nt.tmod_zero_iff.2 hd))
theorem vl_le_abs {n p : Int} (hp : 2 ≤ p) : ∀ (d : Nat) (n : Int), n ≠ 0 → n.natAbs ≤ d → Nt.vl n p ≤ n.natAbs
  | 0, n, hn, h => by omega
  | d + 1, n, hn, h => by
    by_cases ht : Int.tmod n p = 0
    · obtain ⟨h1, h2, h3, _⟩ := div_facts hp hn ht
      have := vl_le_abs (n := n) hp d (Int.tdiv n p) h1 (by omega)
      omega
    · rw [(div_none hp hn ht).1]; omega

theorem impl_split_l {p : Int} (hp : 2 ≤ p) : ∀ (d : Nat) (n : Int) (v : Nat), n ≠ 0 → n.natAbs ≤ d → d ≤ 1000000000000 → v + n.natAbs ≤ 1000000000000 →
    Ev (fun k => impl_split.l0 k n p (v : Int)) (((v + Nt.vl n p : Nat) : Int), Nt.un n p) := by
  intro d
  induction d with
  | zero => intro n v hn h; omega
  | succ d ih =>
    intro n v hn h hd hv
    refine Ev.succ ?_
    simp only [impl_split.l0]
    refine Ev.neg (by omega) ?_
    by_cases ht : Int.tmod n p = 0
    · obtain ⟨h1, h2, h3, h4⟩ := div_facts hp hn ht
      refine Ev.pos ht ?_
      rw [w64 (x := Int.tdiv n p) (by omega) (by omega), w64 (by omega) (by omega), cast_succ]
      refine Ev.to (ih (Int.tdiv n p) (v + 1) h1 (by omega) (by omega) (by omega)) ?_
      rw [h3, h4]; congr 2; omega
    · refine Ev.neg ht (Ev.ret ?_)
      obtain ⟨h1, h2⟩ := div_none hp hn ht
      rw [h1, h2]; rfl
theorem impl_split_ev {n p : Int} (hp : 2 ≤ p) (hn : n ≠ 0) (hb : n.natAbs ≤ 1000000000000) : Ev (fun k => impl_split.f k n p) ((Nt.vl n p : Int), Nt.un n p) := by
  have := impl_split_l hp _ n 0 hn (Nat.le_refl _) hb (by omega)
  unfold impl_split.f
  simpa using this

theorem impl_rest_eq {a m : Int} (hm : 0 < m) (hm2 : m ≤ 1000000) : impl_rest.f a m = some (a % m) := by
  unfold impl_rest.f
  have := Nt.rest_bd (a := a) hm
  rw [if_neg (by omega), w64 (by omega) (by omega), Nt.rest_eq hm]

theorem impl_residue_l {p u : Int} (hp : Nt.Pr p) (h2 : p ≠ 2) (hp5 : p ≤ 5000) (hu : ¬ p ∣ u) : ∀ (d : Nat) (x : Int), 1 ≤ x → x ≤ p → (p - x).toNat ≤ d → (∀ y, 1 ≤ y → y < x → y * y % p ≠ u % p) →
    Ev (fun k => impl_residue.l0 k p (u % p) x) (Nt.leg u p) := by
  have hp1 := hp.1
  intro d
  induction d with
  | zero =>
    intro x h1 h3 hd hy
    refine Ev.succ ?_
    simp only [impl_residue.l0]
    rw [tdiv_ediv (by omega), w64 (by omega) (by omega)]
    refine Ev.neg (by omega) (Ev.ret ?_)
    refine ((Nt.leg_pm hu).resolve_left fun h => ?_).symm
    obtain ⟨y, y1, y2, y3⟩ := (Nt.leg_search hp h2 hu).1 h
    exact hy y y1 (by omega) y3
  | succ d ih =>
    intro x h1 h3 hd hy
    have hs := small_sq (m := x) (by omega) (by omega)
    refine Ev.succ ?_
    simp only [impl_residue.l0]
    rw [tdiv_ediv (a := p) (by omega), w64 (x := p / 2) (by omega) (by omega)]
    by_cases hle : x ≤ p / 2
    · refine Ev.pos hle (Ev.neg (by omega) ?_)
      rw [w64 (x := x * x) (by omega) (by omega), tmod_emod (by omega)]
      by_cases he : x * x % p = u % p
      · refine Ev.pos he (Ev.ret ?_)
        exact ((Nt.leg_search hp h2 hu).2 ⟨x, h1, hle, he⟩).symm
      · refine Ev.neg he ?_
        rw [w64 (by omega) (by omega)]
        refine ih (x + 1) (by omega) (by omega) (by omega) (fun y y1 y2 => ?_)
        by_cases e : y = x
        · rw [e]; exact he
        · exact hy y y1 (by omega)
    · refine Ev.neg hle (Ev.ret ?_)
      refine ((Nt.leg_pm hu).resolve_left fun h => ?_).symm
      obtain ⟨y, y1, y2, y3⟩ := (Nt.leg_search hp h2 hu).1 h
      exact hy y y1 (by omega) y3

theorem impl_residue_ev {p u : Int} (hp : Nt.Pr p) (h2 : p ≠ 2) (hp5 : p ≤ 5000) : Ev (fun k => impl_residue.f k u p) (Nt.leg u p) := by
  unfold impl_residue.f
  rw [impl_rest_eq hp.pos (by omega)]
  refine Ev.sbind ?_
  by_cases h : p ∣ u
  · refine Ev.pos (Int.emod_eq_zero_of_dvd h) (Ev.ret ?_)
    exact (Nt.leg_zero h).symm
  · refine Ev.neg (fun e => h (Int.dvd_of_emod_eq_zero e)) ?_
    exact impl_residue_l hp h2 hp5 h _ 1 (by omega) (by have := hp.1; omega) (Nat.le_refl _) (fun y h1 h2 => by omega)

theorem pw_bd {x : Int} (hx : -1 ≤ x ∧ x ≤ 1) (n : Nat) : -1 ≤ Nt.pw x n ∧ Nt.pw x n ≤ 1 := by rw [pw_if]; split <;> omega
theorem tri_mul {x y : Int} (hx : -1 ≤ x ∧ x ≤ 1) (hy : -1 ≤ y ∧ y ≤ 1) : -1 ≤ x * y ∧ x * y ≤ 1 := by
  rcases (by omega : x = -1 ∨ x = 0 ∨ x = 1) with h | h | h <;> rw [h] <;> omega

theorem impl_symbol_ev {a b p : Int} (hp : Nt.Pl p) (hp5 : p ≤ 5000) (ha : a ≠ 0) (hb : b ≠ 0) (ha2 : a.natAbs ≤ 1000000000000) (hb2 : b.natAbs ≤ 1000000000000) :
    Ev (fun k => impl_symbol.f k a b p) (Nt.hil a b p) := by
  unfold impl_symbol.f
  rcases hp with rfl | hp
  · refine Ev.pos rfl ?_
    unfold Nt.hil
    rw [if_pos rfl]
    refine Ev.by_ite (fun h1 => Ev.by_ite (fun h2 => Ev.ret (by rw [if_pos ⟨h1, h2⟩])) (fun h2 => Ev.ret (by rw [if_neg (fun h => h2 h.2)]))) (fun h1 => Ev.ret (by rw [if_neg (fun h => h1 h.1)]))
  · have hp1 := hp.1
    refine Ev.neg (by omega) (Ev.bind (impl_split_ev hp1 ha ha2) (Ev.bind (impl_split_ev hp1 hb hb2) ?_))
    dsimp only
    have i1 := vl_small (m := 40) hp1 ha (by omega)
    have j1 := vl_small (m := 40) hp1 hb (by omega)
    obtain ⟨a1, a2⟩ := Nt.vl_spec hp1 ha
    obtain ⟨b1, b2⟩ := Nt.vl_spec hp1 hb
    by_cases h2 : p = 2
    · subst h2
      have ou := Nt.odd_of a2
      have ov := Nt.odd_of b2
      refine Ev.pos rfl ?_
      rw [impl_rest_eq (by omega) (by omega), impl_rest_eq (by omega) (by omega)]
      refine Ev.sbind (Ev.sbind ?_)
      have hex := exp8 (i := Nt.vl a 2) (j := Nt.vl b 2) ou ov
      rw [Nt.hil_two]
      unfold Nt.hil2
      generalize Nt.vl a 2 = i at *
      generalize Nt.vl b 2 = j at *
      generalize Nt.un a 2 = u at *
      generalize Nt.un b 2 = v at *
      have u8 : u % 8 = 1 ∨ u % 8 = 3 ∨ u % 8 = 5 ∨ u % 8 = 7 := isq8 ou
      have v8 : v % 8 = 1 ∨ v % 8 = 3 ∨ v % 8 = 5 ∨ v % 8 = 7 := isq8 ov
      have su : 0 ≤ u % 8 * (u % 8) - 1 ∧ u % 8 * (u % 8) - 1 ≤ 48 := by rcases u8 with h | h | h | h <;> rw [h] <;> omega
      have sv : 0 ≤ v % 8 * (v % 8) - 1 ∧ v % 8 * (v % 8) - 1 ≤ 48 := by rcases v8 with h | h | h | h <;> rw [h] <;> omega
      have siv : 0 ≤ (i : Int) * (v % 8 * (v % 8) - 1) ∧ (i : Int) * (v % 8 * (v % 8) - 1) ≤ 40 * 48 := ⟨Int.mul_nonneg (by omega) sv.1, Int.mul_le_mul (by omega) sv.2 sv.1 (by omega)⟩
      have sju : 0 ≤ (j : Int) * (u % 8 * (u % 8) - 1) ∧ (j : Int) * (u % 8 * (u % 8) - 1) ≤ 40 * 48 := ⟨Int.mul_nonneg (by omega) su.1, Int.mul_le_mul (by omega) su.2 su.1 (by omega)⟩
      have hu2 : 0 ≤ (u % 8 - 1) / 2 ∧ (u % 8 - 1) / 2 ≤ 3 := by omega
      have hv2 : 0 ≤ (v % 8 - 1) / 2 ∧ (v % 8 - 1) / 2 ≤ 3 := by omega
      have suv : 0 ≤ (u % 8 - 1) / 2 * ((v % 8 - 1) / 2) ∧ (u % 8 - 1) / 2 * ((v % 8 - 1) / 2) ≤ 3 * 3 := ⟨Int.mul_nonneg hu2.1 hv2.1, Int.mul_le_mul hu2.2 hv2.2 hv2.1 (by omega)⟩
      have q1 : wrap64 (u % 8 * (u % 8)) = u % 8 * (u % 8) := w64 (by omega) (by omega)
      have q2 : wrap64 (v % 8 * (v % 8)) = v % 8 * (v % 8) := w64 (by omega) (by omega)
      have q3 : wrap64 (u % 8 - 1) = u % 8 - 1 := w64 (by omega) (by omega)
      have q4 : wrap64 (v % 8 - 1) = v % 8 - 1 := w64 (by omega) (by omega)
      rw [q1, q2, q3, q4, w64 (x := u % 8 * (u % 8) - 1) (by omega) (by omega), w64 (x := v % 8 * (v % 8) - 1) (by omega) (by omega),
        w64 (x := (i : Int) * (v % 8 * (v % 8) - 1)) (by omega) (by omega), w64 (x := (j : Int) * (u % 8 * (u % 8) - 1)) (by omega) (by omega),
        tdiv_ediv siv.1, tdiv_ediv sju.1, tdiv_ediv (a := u % 8 - 1) (by omega), tdiv_ediv (a := v % 8 - 1) (by omega)]
      generalize (i : Int) * (v % 8 * (v % 8) - 1) = A at *
      generalize (j : Int) * (u % 8 * (u % 8) - 1) = B at *
      rw [w64 (x := (u % 8 - 1) / 2) (by omega) (by omega), w64 (x := (v % 8 - 1) / 2) (by omega) (by omega)]
      generalize (u % 8 - 1) / 2 * ((v % 8 - 1) / 2) = C at *
      rw [w64 (x := A / 8) (by omega) (by omega), w64 (x := B / 8) (by omega) (by omega), w64 (x := C) (by omega) (by omega), w64 (x := C + A / 8) (by omega) (by omega), w64 (x := C + A / 8 + B / 8) (by omega) (by omega), tmod_emod (by omega)]
      exact Ev.bind (impl_power_par (by omega) _ (by rw [hex]; omega)) (Ev.now _)
    · have h3 := Nt.odd_ge hp h2
      have ho := Nt.odd_odd hp h2
      refine Ev.neg h2 ?_
      unfold Nt.hil
      rw [if_neg (by omega), if_neg h2]
      unfold Nt.hilp
      rw [leg_neg hp h2]
      have lu := Nt.leg_range (Nt.un a p) p
      have lv := Nt.leg_range (Nt.un b p) p
      have hij : 0 ≤ (Nt.vl a p : Int) * (Nt.vl b p : Int) ∧ (Nt.vl a p : Int) * (Nt.vl b p : Int) ≤ 40 * 40 := ⟨Int.mul_nonneg (by omega) (by omega), Int.mul_le_mul (by omega) (by omega) (by omega) (by omega)⟩
      have hijp : 0 ≤ (Nt.vl a p : Int) * (Nt.vl b p : Int) * (p - 1) ∧ (Nt.vl a p : Int) * (Nt.vl b p : Int) * (p - 1) ≤ 1600 * 5000 := ⟨Int.mul_nonneg hij.1 (by omega), Int.mul_le_mul (by omega) (by omega) (by omega) (by omega)⟩
      have ee : (Nt.vl a p : Int) * (Nt.vl b p : Int) * (p - 1) / 2 = ((Nt.vl a p * Nt.vl b p * Nt.hf p : Nat) : Int) := by
        have : p - 1 = 2 * (Nt.hf p : Int) := by unfold Nt.hf; omega
        rw [this]
        push_cast
        rw [show (Nt.vl a p : Int) * (Nt.vl b p : Int) * (2 * (Nt.hf p : Int)) = 2 * ((Nt.vl a p : Int) * (Nt.vl b p : Int) * (Nt.hf p : Int)) by grind]
        omega
      rw [w64 (x := (Nt.vl a p : Int) * (Nt.vl b p : Int)) (by omega) (by omega), w64 (x := p - 1) (by omega) (by omega), w64 (x := (Nt.vl a p : Int) * (Nt.vl b p : Int) * (p - 1)) (by omega) (by omega), tdiv_ediv hijp.1, ee, w64 (by omega) (by omega)]
      refine Ev.bind (impl_power_par (by omega) (Nt.vl a p * Nt.vl b p * Nt.hf p) (by rw [tmod_emod (by omega)]; omega)) ?_
      refine Ev.bind (impl_residue_ev hp h2 hp5) (Ev.bind (impl_power_par (by omega) (Nt.vl b p) (by rw [tmod_emod (by omega)]; omega)) ?_)
      refine Ev.bind (impl_residue_ev hp h2 hp5) (Ev.bind (impl_power_par (by omega) (Nt.vl a p) (by rw [tmod_emod (by omega)]; omega)) ?_)
      have x1 := pw_bd (x := -1) (by omega) (Nt.vl a p * Nt.vl b p * Nt.hf p)
      have x2 := pw_bd lu (Nt.vl b p)
      have x3 := pw_bd lv (Nt.vl a p)
      have x4 := tri_mul x1 x2
      have x5 := tri_mul x4 x3
      rw [w64 (x := Nt.pw (-1) _ * Nt.pw _ _) (by omega) (by omega), w64 (by omega) (by omega)]
      exact Ev.now _

theorem impl_invariant_l1 {xs : List Int} {p : Int} (h : fv xs = true) (hp : Nt.Pl p) (hp5 : p ≤ 5000) (i : Nat) (hi : i < xs.length) (res : Int)
    (hnext : Ev (fun k => impl_invariant.l0 k xs p (Nt.inv p (xs.take (i + 1))) xs (xs.length : Int) ((i + 1 : Nat) : Int)) res) :
    ∀ (d j : Nat) (e : Int), j + d = i → e = Nt.inv p (xs.take i) * Nt.hil (rd xs (i : Int)) (Nt.prod (xs.take j)) p →
      Ev (fun k => impl_invariant.l1 k xs p e (rd xs (i : Int)) xs (xs.length : Int) (i : Int) (xs.take i) ((xs.take i).length : Int) (j : Int)) res := by
  have hl := fv_len h
  have hn := fv_nz h
  have ht : rd xs (i : Int) ∈ xs := rd_mem hi
  have htn := hn _ ht
  have htb := fv_bd h _ ht
  have hlen : (xs.take i).length = i := by simp; omega
  intro d
  induction d with
  | zero =>
    intro j e hj he
    refine Ev.succ ?_
    simp only [impl_invariant.l1]
    rw [w64 (x := (i : Int) + 1) (by omega) (by omega), cast_succ]
    refine Ev.neg (by omega) ?_
    have : e = Nt.inv p (xs.take (i + 1)) := by
      rw [he, take_snoc hi, Nt.inv_snoc hp (nz_take hn i) htn, Nt.hil_comm, show j = i by omega]
    rw [this]
    exact hnext
  | succ d ih =>
    intro j e hj he
    have hjl : j < xs.length := by omega
    have hb := rd_mem hjl
    have hbn := hn _ hb
    have hbb := fv_bd h _ hb
    have hpn := Nt.prod_nz (nz_take hn j)
    have pe : e = 1 ∨ e = -1 := by rw [he]; exact pm_mul (Nt.inv_pm hp (nz_take hn i)) (Nt.hil_pm hp htn hpn)
    have pp := pm_mul pe (Nt.hil_pm hp htn hbn)
    refine Ev.succ ?_
    simp only [impl_invariant.l1]
    rw [rd_take (xs := xs) (show j < i by omega), w64 (x := (j : Int) + 1) (by omega) (by omega), cast_succ]
    refine Ev.pos (by omega) (Ev.pos (by omega) (Ev.pos (by omega) (Ev.bind (impl_symbol_ev hp hp5 htn hbn (by omega) (by omega)) ?_)))
    rw [w64 (by omega) (by omega)]
    refine ih (j + 1) _ (by omega) ?_
    rw [he, take_snoc hjl, prod_snoc, Nt.hil_mul_right hp htn hpn hbn, Int.mul_assoc]
theorem impl_invariant_l0 {xs : List Int} {p : Int} (h : fv xs = true) (hp : Nt.Pl p) (hp5 : p ≤ 5000) : ∀ (d i : Nat), i + d = xs.length →
    Ev (fun k => impl_invariant.l0 k xs p (Nt.inv p (xs.take i)) xs (xs.length : Int) (i : Int)) (Nt.inv p xs) := by
  have hl := fv_len h
  have hn := fv_nz h
  intro d
  induction d with
  | zero =>
    intro i hi
    refine Ev.succ ?_
    simp only [impl_invariant.l0]
    exact Ev.neg (by omega) (Ev.ret (by rw [show i = xs.length by omega, List.take_length]))
  | succ d ih =>
    intro i hi
    refine Ev.succ ?_
    simp only [impl_invariant.l0, Int.toNat_natCast]
    refine Ev.pos (by omega) (Ev.pos (by omega) (Ev.pos (by omega) (Ev.pos (by omega) ?_)))
    refine impl_invariant_l1 h hp hp5 i (by omega) _ (ih (i + 1) (by omega)) i 0 _ (by omega) ?_
    rw [List.take_zero, show Nt.prod [] = 1 from rfl, Nt.hil_one_right hp (hn _ (rd_mem (by omega))), Int.mul_one]
theorem impl_invariant_ev {xs : List Int} {p : Int} (h : fv xs = true) (hp : Nt.Pl p) (hp5 : p ≤ 5000) : Ev (fun k => impl_invariant.f k xs p) (Nt.inv p xs) := by
  unfold impl_invariant.f
  exact impl_invariant_l0 h hp hp5 xs.length 0 (by omega)

theorem impl_localSquare_ev {a p : Int} (hp : Nt.Pl p) (hp5 : p ≤ 5000) (ha : a ≠ 0) (ha2 : a.natAbs ≤ 1000000000000) : Ev (fun k => impl_localSquare.f k a p) (Nt.lsq a p) := by
  unfold impl_localSquare.f Nt.lsq
  by_cases h0 : p = 0
  · rw [if_pos h0]
    exact Ev.pos h0 (Ev.now _)
  · have hp := hp.resolve_left h0
    rw [if_neg h0]
    refine Ev.neg h0 (Ev.bind (impl_split_ev hp.1 ha ha2) ?_)
    dsimp only
    rw [tmod_emod (by omega)]
    by_cases hv : Nt.vl a p % 2 = 0
    · rw [if_pos hv]
      refine Ev.pos (by omega) ?_
      by_cases h2 : p = 2
      · subst h2
        rw [if_pos rfl, impl_rest_eq (by omega) (by omega)]
        exact Ev.pos rfl (Ev.sbind (Ev.now _))
      · rw [if_neg h2]
        exact Ev.neg h2 (Ev.bind (impl_residue_ev hp h2 hp5) (Ev.now _))
    · rw [if_neg hv]
      exact Ev.neg (by omega) (Ev.now _)

theorem impl_lessTerms_l (xs : List Int) (hx : Md xs) : ∀ (r : List Int) (i n : Nat), n ≤ i → xs.drop i = r → Ev (fun k => impl_lessTerms.l0 k (n : Int) xs (xs.length : Int) (i : Int)) ((n + less r : Nat) : Int)
  | [], i, n, hn, h => by
    have := drop_nil h
    refine Ev.succ ?_
    simp only [impl_lessTerms.l0]
    exact Ev.neg (by omega) (Ev.ret (by simp [less]))
  | t :: r, i, n, hn, h => by
    obtain ⟨h1, h2, h3⟩ := drop_cons h
    have hl := hx.1
    refine Ev.succ ?_
    simp only [impl_lessTerms.l0]
    rw [h2]
    refine Ev.pos (by omega) (Ev.pos (by omega) (Ev.pos (by omega) ?_))
    rw [w64 (x := (i : Int) + 1) (by omega) (by omega), w64 (x := (n : Int) + 1) (by omega) (by omega), cast_succ, cast_succ]
    by_cases h0 : t < 0
    · refine Ev.pos h0 (Ev.to (impl_lessTerms_l xs hx r (i + 1) (n + 1) (by omega) h3) ?_)
      simp only [less, if_pos h0]; omega
    · refine Ev.neg h0 (Ev.to (impl_lessTerms_l xs hx r (i + 1) n (by omega) h3) ?_)
      simp only [less, if_neg h0]
theorem impl_lessTerms_ev {xs : List Int} (hx : Md xs) : Ev (fun k => impl_lessTerms.f k xs) ((less xs : Nat) : Int) := by
  unfold impl_lessTerms.f
  refine Ev.to (impl_lessTerms_l xs hx xs 0 0 (Nat.le_refl _) rfl) ?_
  simp

theorem impl_vanishes_ev {f : List Int} {p : Int} (h : fv f = true) (hp : Nt.Pl p) (hp5 : p ≤ 5000) : Ev (fun k => impl_vanishes.f k f p) (Nt.van p f) := by
  obtain ⟨b1, b2⟩ := prod_bd h
  have hl := fv_len h
  unfold impl_vanishes.f
  refine Ev.bind (impl_product_ev h) ?_
  rw [w64 (by omega) (by omega)]
  by_cases c : p = 0
  · refine Ev.pos c (Ev.bind (impl_lessTerms_ev (Md.of_fv h)) ?_)
    have e : Nt.van p f = decide (0 < Nt.ng f ∧ Nt.ng f < f.length) := by unfold Nt.van; rw [if_pos c]
    rw [e, less_ng]
    by_cases c1 : ((Nt.ng f : Nat) : Int) > 0
    · exact Ev.pos c1 (Ev.ret (by rw [decide_eq_decide]; omega))
    · exact Ev.neg c1 (Ev.ret (by symm; rw [decide_eq_false_iff_not]; omega))
  · refine Ev.neg c ?_
    unfold Nt.van
    rw [if_neg c]
    by_cases c2 : f.length = 2
    · rw [if_pos c2]
      exact Ev.pos (by omega) (Ev.bind (impl_localSquare_ev hp hp5 (by omega) (by omega)) (Ev.now _))
    · rw [if_neg c2]
      refine Ev.neg (by omega) ?_
      by_cases c3 : f.length = 3
      · rw [if_pos c3]
        exact Ev.pos (by omega) (Ev.bind (impl_invariant_ev h hp hp5) (Ev.bind (impl_symbol_ev hp hp5 (by omega) (by omega) (by omega) (by omega)) (Ev.now _)))
      · rw [if_neg c3]
        refine Ev.neg (by omega) ?_
        by_cases c4 : f.length = 4
        · rw [if_pos c4]
          refine Ev.pos (by omega) (Ev.bind (impl_localSquare_ev hp hp5 b1 (by omega)) ?_)
          by_cases c5 : Nt.lsq (Nt.prod f) p = true
          · exact Ev.pos c5 (Ev.bind (impl_invariant_ev h hp hp5) (Ev.bind (impl_symbol_ev hp hp5 (by omega) (by omega) (by omega) (by omega)) (Ev.ret (by rw [c5]; rfl))))
          · refine Ev.neg c5 (Ev.ret ?_)
            have : Nt.lsq (Nt.prod f) p = false := by simpa using c5
            rw [this]; rfl
        · rw [if_neg c4]
          exact Ev.neg (by omega) (Ev.now _)

theorem impl_FormVanishes_ev {f : List Int} {p : Int} (hf : Md f) : Ev (fun k => impl_FormVanishes.f k f p) (fvan f p) := by
  unfold impl_FormVanishes.f
  refine Ev.bind (impl_FormValid_ev hf) ?_
  by_cases h : fv f = true
  · refine Ev.pos h (Ev.bind impl_PlaceValid_ev ?_)
    by_cases h' : isPl p = true
    · obtain ⟨q1, q2, q3⟩ := isPl_pl h'
      rw [fvan_of h h']
      exact Ev.pos h' (Ev.bind (impl_vanishes_ev h q1 q3) (Ev.now _))
    · exact Ev.neg h' (Ev.ret (by unfold fvan; rw [show isPl p = false by simpa using h']; simp))
  · rw [fvan_no h]
    exact Ev.neg h (Ev.now _)

/-- Is it a number? -/
def isN (a : Int) : Bool := decide (-5000 ≤ a ∧ a ≤ 5000)
theorem isN_iff {a : Int} : isN a = true ↔ -5000 ≤ a ∧ a ≤ 5000 := by unfold isN; simp

theorem impl_isNumber_eq (a : Int) : impl_isNumber.f a = some (isN a) := by
  unfold impl_isNumber.f isN
  split
  · congr 1; simp only [decide_eq_decide]; omega
  · congr 1; simp; omega

theorem spec_l6In_eq (a b c : Int) : spec_l6In.f a b c = some (decide (b ≤ a ∧ a ≤ c)) := by
  unfold spec_l6In.f
  split
  · congr 1; simp only [decide_eq_decide]; omega
  · congr 1; simp; omega

theorem spec_PrimeIs_l {p : Int} (hp : 2 ≤ p) (hp2 : p ≤ 5000) : ∀ (d : Nat) (m : Int), 2 ≤ m → m ≤ 5001 → (p - m).toNat ≤ d → (∀ q, 2 ≤ q → q < m → ¬ q ∣ p) →
    Ev (fun k => spec_PrimeIs.l0 k p m) (isP p) := by
  intro d
  induction d with
  | zero =>
    intro m h2 h3 hd hq
    have hs := small_sq (m := m) (by omega) (by omega)
    refine Ev.succ ?_
    simp only [spec_PrimeIs.l0]
    rw [w64 (by omega) (by omega)]
    have hgt : p < m * m := by
      rcases Int.lt_or_le p (m * m) with h | h
      · exact h
      · have := sq_le h2 h; omega
    refine Ev.neg (by omega) (Ev.ret ?_)
    rw [isP_true ⟨Nt.pr_of_sqrt hp (by omega) hq hgt, hp2⟩]
  | succ d ih =>
    intro m h2 h3 hd hq
    have hs := small_sq (m := m) (by omega) (by omega)
    refine Ev.succ ?_
    simp only [spec_PrimeIs.l0]
    rw [w64 (by omega) (by omega)]
    by_cases hle : m * m ≤ p
    · have hlt := sq_le h2 hle
      refine Ev.pos hle (Ev.neg (by omega) ?_)
      by_cases ht : Int.tmod p m = 0
      · refine Ev.pos ht (Ev.ret ?_)
        rw [isP_false (fun h => Nt.not_pr_of_dvd h2 hle (Nt.tmod_zero_iff.1 ht) h.1)]
      · refine Ev.neg ht ?_
        rw [w64 (by omega) (by omega)]
        refine ih (m + 1) (by omega) (by omega) (by omega) (fun q h1 h2 => ?_)
        by_cases e : q = m
        · rw [e]; exact fun h => ht (Nt.tmod_zero_iff.2 h)
        · exact hq q h1 (by omega)
    · refine Ev.neg hle (Ev.ret ?_)
      rw [isP_true ⟨Nt.pr_of_sqrt hp (by omega) hq (by omega), hp2⟩]

theorem spec_PrimeIs_ev {p : Int} : Ev (fun k => spec_PrimeIs.f k p) (isP p) := by
  unfold spec_PrimeIs.f
  rw [spec_l6In_eq]
  refine Ev.sbind ?_
  by_cases h : 2 ≤ p ∧ p ≤ 5000
  · refine Ev.pos (by simpa using h) ?_
    exact spec_PrimeIs_l h.1 h.2 _ 2 (by omega) (by omega) (Nat.le_refl _) (fun q h1 h2 => by omega)
  · refine Ev.neg (by simpa using h) (Ev.ret ?_)
    rw [isP_false (fun h' => h ⟨h'.1.1, h'.2⟩)]

theorem spec_PlaceValid_ev {p : Int} : Ev (fun k => spec_PlaceValid.f k p) (isPl p) := by
  unfold spec_PlaceValid.f
  by_cases h : p = 0
  · refine Ev.pos h (Ev.ret ?_)
    rw [isPl_iff.2 (.inl h)]
  · refine Ev.neg h (Ev.bind spec_PrimeIs_ev (Ev.ret ?_))
    rw [isPl_of h]

theorem l6In_eq (a b c : Int) : spec_l6In.f a b c = some (decide (b ≤ a ∧ a ≤ c)) := by
  unfold spec_l6In.f
  split
  · congr 1; simp only [decide_eq_decide]; omega
  · congr 1; simp; omega
theorem spec_FormValid_l (xs : List Int) (hx : Md xs) : ∀ (r : List Int) (i : Nat), xs.drop i = r → Ev (fun k => spec_FormValid.l0 k xs (i : Int)) (r.all okT && decide (1 ≤ xs.length ∧ xs.length ≤ 4))
  | [], i, h => by
    have := drop_nil h
    refine Ev.succ ?_
    simp only [spec_FormValid.l0]
    refine Ev.neg (by omega) ?_
    rw [l6In_eq]
    refine Ev.sbind (Ev.ret ?_)
    simp only [List.all_nil, Bool.true_and, decide_eq_decide]; omega
  | t :: r, i, h => by
    obtain ⟨h1, h2, h3⟩ := drop_cons h
    have hl := hx.1
    refine Ev.succ ?_
    simp only [spec_FormValid.l0]
    rw [h2, l6In_eq]
    refine Ev.pos (by omega) (Ev.pos (by omega) ?_)
    by_cases h0 : t = 0
    · exact Ev.pos h0 (Ev.ret (by simp [okT, h0]))
    · refine Ev.neg h0 (Ev.sbind ?_)
      by_cases hs : -30 ≤ t ∧ t ≤ 30
      · have : okT t = true := okT_iff.2 ⟨h0, hs⟩
        refine Ev.pos (by simpa using hs) ?_
        rw [w64 (by omega) (by omega), cast_succ]
        refine Ev.to (spec_FormValid_l xs hx r (i + 1) h3) ?_
        simp [this]
      · have : okT t = false := by unfold okT; simp; intro _; omega
        refine Ev.neg (by simpa using hs) (Ev.ret (by simp [this]))
theorem spec_FormValid_ev {xs : List Int} (hx : Md xs) : Ev (fun k => spec_FormValid.f k xs) (fv xs) := by
  unfold spec_FormValid.f
  exact spec_FormValid_l xs hx xs 0 rfl

theorem spec_l4Product_l (xs : List Int) (hl : xs.length ≤ 1000000) : ∀ (r : List Int) (i : Nat) (a : Int), xs.drop i = r → (∀ t ∈ r, t.natAbs ≤ 30) → a.natAbs * 30 ^ r.length ≤ 810000 → Ev (fun k => spec_l4Product.l0 k xs a (i : Int)) (a * Nt.prod r)
  | [], i, a, h, _, _ => by
    have := drop_nil h
    refine Ev.succ ?_
    simp only [spec_l4Product.l0]
    exact Ev.neg (by omega) (Ev.ret (by simp [Nt.prod]))
  | t :: r, i, a, h, ht, hb => by
    obtain ⟨h1, h2, h3⟩ := drop_cons h
    obtain ⟨b1, b2⟩ := step_bd hb (ht t (by simp))
    refine Ev.succ ?_
    simp only [spec_l4Product.l0]
    rw [h2, w64 (x := a * t) (by omega) (by omega), w64 (x := (i : Int) + 1) (by omega) (by omega), cast_succ]
    refine Ev.pos (by omega) (Ev.pos (by omega) ?_)
    exact Ev.to (spec_l4Product_l xs hl r (i + 1) (a * t) h3 (fun s hs => ht s (by simp [hs])) b1) (by simp only [Nt.prod, Int.mul_assoc])
theorem spec_l4Product_ev {xs : List Int} (h : fv xs = true) : Ev (fun k => spec_l4Product.f k xs) (Nt.prod xs) := by
  unfold spec_l4Product.f
  have := fv_len h
  exact Ev.to (spec_l4Product_l xs (by omega) xs 0 1 rfl (fv_bd h) (by have := pow_four this.2; simpa using this)) (by simp)

theorem spec_l1Valuation_l {p : Int} (hp : 2 ≤ p) : ∀ (d : Nat) (n : Int) (v : Nat), n ≠ 0 → n.natAbs ≤ d → d ≤ 1000000000000 → v + n.natAbs ≤ 1000000000000 →
    Ev (fun k => spec_l1Valuation.l0 k n p (v : Int)) (((v + Nt.vl n p : Nat) : Int), Nt.un n p) := by
  intro d
  induction d with
  | zero => intro n v hn h; omega
  | succ d ih =>
    intro n v hn h hd hv
    refine Ev.succ ?_
    simp only [spec_l1Valuation.l0]
    refine Ev.neg (by omega) ?_
    by_cases ht : Int.tmod n p = 0
    · obtain ⟨h1, h2, h3, h4⟩ := div_facts hp hn ht
      refine Ev.pos ht ?_
      rw [w64 (x := Int.tdiv n p) (by omega) (by omega), w64 (by omega) (by omega), cast_succ]
      refine Ev.to (ih (Int.tdiv n p) (v + 1) h1 (by omega) (by omega) (by omega)) ?_
      rw [h3, h4]; congr 2; omega
    · refine Ev.neg ht (Ev.ret ?_)
      obtain ⟨h1, h2⟩ := div_none hp hn ht
      rw [h1, h2]; rfl
theorem spec_l1Valuation_ev {n p : Int} (hp : 2 ≤ p) (hn : n ≠ 0) (hb : n.natAbs ≤ 1000000000000) : Ev (fun k => spec_l1Valuation.f k n p) ((Nt.vl n p : Int), Nt.un n p) := by
  have := spec_l1Valuation_l hp _ n 0 hn (Nat.le_refl _) hb (by omega)
  unfold spec_l1Valuation.f
  simpa using this

theorem spec_l1Mod_eq {a m : Int} (hm : 0 < m) (hm2 : m ≤ 1000000) : spec_l1Mod.f a m = some (a % m) := by
  unfold spec_l1Mod.f
  have := Nt.rest_bd (a := a) hm
  rw [if_neg (by omega), w64 (by omega) (by omega), Nt.rest_eq hm]

theorem pow_split (x : Int) (e : Nat) : x ^ e = (x * x) ^ (e / 2) * (if e % 2 = 1 then x else 1) := by
  have h : x ^ e = x ^ (2 * (e / 2) + e % 2) := by congr 1; omega
  rw [h, Int.pow_add, Int.pow_mul]
  congr 1
  · congr 1; simp [Int.pow_succ]
  · rcases Nat.mod_two_eq_zero_or_one e with h | h <;> rw [h] <;> simp [Int.pow_succ]
theorem emod_pow_congr {a b m : Int} (h : a % m = b % m) : ∀ e : Nat, a ^ e % m = b ^ e % m
  | 0 => by rw [Int.pow_zero, Int.pow_zero]
  | e + 1 => by rw [Int.pow_succ, Int.pow_succ, Int.mul_emod, emod_pow_congr h e, h, ← Int.mul_emod]
theorem emod_mul_congr {a b c d m : Int} (h : a % m = b % m) (h' : c % m = d % m) : a * c % m = b * d % m := by
  rw [Int.mul_emod, h, h', ← Int.mul_emod]
theorem small_mul {a b m : Int} (ha : 0 ≤ a) (ha' : a ≤ m) (hb : 0 ≤ b) (hb' : b ≤ m) (hm : m ≤ 100000) : 0 ≤ a * b ∧ a * b ≤ 10000000000 := by
  have h1 : a * b ≤ 100000 * 100000 := Int.mul_le_mul (by omega) (by omega) hb (by omega)
  have h2 := Int.mul_nonneg ha hb
  omega

theorem spec_l1Power_l {m : Int} (hm : 1 < m) (hm2 : m ≤ 5000) : ∀ (d : Nat) (e : Nat) (x o : Int), e ≤ d → e ≤ 1000000 → 0 ≤ x → x < m → 0 ≤ o → o < m →
    Ev (fun k => spec_l1Power.l0 k x (e : Int) m o) (o * x ^ e % m) := by
  intro d
  induction d with
  | zero =>
    intro e x o he _ hx hx' ho ho'
    obtain rfl : e = 0 := by omega
    refine Ev.succ ?_
    simp only [spec_l1Power.l0]
    refine Ev.neg (by omega) (Ev.ret ?_)
    rw [Int.pow_zero, Int.mul_one, Int.emod_eq_of_lt ho ho']
  | succ d ih =>
    intro e x o he he2 hx hx' ho ho'
    refine Ev.succ ?_
    simp only [spec_l1Power.l0]
    by_cases h0 : e = 0
    · subst h0
      refine Ev.neg (by omega) (Ev.ret ?_)
      rw [Int.pow_zero, Int.mul_one, Int.emod_eq_of_lt ho ho']
    · refine Ev.pos (by omega) ?_
      have hxx := small_mul hx (by omega : x ≤ m) hx (by omega) (by omega)
      have hox := small_mul ho (by omega : o ≤ m) hx (by omega) (by omega)
      rw [tmod_emod (a := (e : Int)) (by omega), tdiv_ediv (a := (e : Int)) (by omega), w64 (x := (e : Int) / 2) (by omega) (by omega), w64 (x := x * x) (by omega) (by omega), w64 (x := o * x) (by omega) (by omega), tmod_emod hxx.1, tmod_emod hox.1]
      have e2 : ((e : Int) / 2) = ((e / 2 : Nat) : Int) := by omega
      rw [e2]
      have r1 := Int.emod_nonneg (x * x) (show m ≠ 0 by omega)
      have r2 := Int.emod_lt_of_pos (x * x) (show 0 < m by omega)
      have r3 := Int.emod_nonneg (o * x) (show m ≠ 0 by omega)
      have r4 := Int.emod_lt_of_pos (o * x) (show 0 < m by omega)
      have k1 := emod_pow_congr (Int.emod_emod (x * x) m) (e / 2)
      by_cases ho2 : (e : Int) % 2 = 1
      · refine Ev.pos ho2 (Ev.neg (by omega) (Ev.to (ih (e / 2) _ _ (by omega) (by omega) r1 r2 r3 r4) ?_))
        rw [pow_split x e, if_pos (by omega)]
        rw [emod_mul_congr (Int.emod_emod (o * x) m) k1]
        congr 1
        generalize (x * x) ^ (e / 2) = P
        grind
      · refine Ev.neg ho2 (Ev.neg (by omega) (Ev.to (ih (e / 2) _ _ (by omega) (by omega) r1 r2 ho ho') ?_))
        rw [pow_split x e, if_neg (by omega), Int.mul_one]
        exact emod_mul_congr rfl k1

theorem spec_l1Residue_ev {p u : Int} (hp : Nt.Pr p) (h2 : p ≠ 2) (hp5 : p ≤ 5000) : Ev (fun k => spec_l1Residue.f k u p) (Nt.leg u p) := by
  have h3 := Nt.odd_ge hp h2
  unfold spec_l1Residue.f spec_l1Power.f
  rw [w64 (x := p - 1) (by omega) (by omega), tdiv_ediv (by omega), w64 (by omega) (by omega)]
  have e : (p - 1) / 2 = (Nt.hf p : Int) := by unfold Nt.hf; omega
  rw [e, spec_l1Mod_eq hp.pos (by omega)]
  have r1 := Int.emod_nonneg u (show p ≠ 0 by omega)
  have r2 := Int.emod_lt_of_pos u (show 0 < p by omega)
  have hh : Nt.hf p ≤ 1000000 := by unfold Nt.hf; omega
  have h1 : (1 : Int) % p = 1 := Int.emod_eq_of_lt (by omega) (by omega)
  rw [h1]
  refine Ev.bind (Ev.neg (by omega) (Ev.sbind (spec_l1Power_l (by omega) hp5 _ (Nt.hf p) (u % p) 1 (Nat.le_refl _) hh r1 r2 (by omega) (by omega)))) ?_
  rw [Int.one_mul, emod_pow_congr (Int.emod_emod u p)]
  have hl := Nt.leg_of_pow (u := u) hp h2
  by_cases hc : u ^ Nt.hf p % p = p - 1
  · rw [if_pos hc] at hl
    exact Ev.pos hc (Ev.ret hl)
  · rw [if_neg hc] at hl
    exact Ev.neg hc (Ev.ret hl)

theorem spec_l3Half_eq (e : Int) : spec_l3Half.f e = some (if Int.tmod e 2 = 0 then 1 else -1) := by
  unfold spec_l3Half.f; split <;> rfl
theorem half_par {e : Int} (h0 : 0 ≤ e) (n : Nat) (h : e % 2 = (n : Int) % 2) : spec_l3Half.f e = some (Nt.pw (-1) n) := by
  rw [spec_l3Half_eq, tmod_emod h0, par_sign h]
theorem tri_mul' {x y : Int} (hx : -1 ≤ x ∧ x ≤ 1) (hy : -1 ≤ y ∧ y ≤ 1) : -1 ≤ x * y ∧ x * y ≤ 1 := by
  rcases (by omega : x = -1 ∨ x = 0 ∨ x = 1) with h | h | h <;> rw [h] <;> omega
theorem spec_l3Symbol_ev {a b p : Int} (hp : Nt.Pl p) (hp5 : p ≤ 5000) (ha : a ≠ 0) (hb : b ≠ 0) (ha2 : a.natAbs ≤ 1000000000000) (hb2 : b.natAbs ≤ 1000000000000) :
    Ev (fun k => spec_l3Symbol.f k a b p) (Nt.hil a b p) := by
  unfold spec_l3Symbol.f
  rcases hp with rfl | hp
  · refine Ev.pos rfl ?_
    unfold Nt.hil
    rw [if_pos rfl]
    refine Ev.by_ite (fun h1 => Ev.by_ite (fun h2 => Ev.ret (by rw [if_pos ⟨h1, h2⟩])) (fun h2 => Ev.ret (by rw [if_neg (fun h => h2 h.2)]))) (fun h1 => Ev.ret (by rw [if_neg (fun h => h1 h.1)]))
  · have hp1 := hp.1
    refine Ev.neg (by omega) (Ev.bind (spec_l1Valuation_ev hp1 ha ha2) (Ev.bind (spec_l1Valuation_ev hp1 hb hb2) ?_))
    dsimp only
    have i1 := vl_small (m := 40) hp1 ha (by omega)
    have j1 := vl_small (m := 40) hp1 hb (by omega)
    obtain ⟨a1, a2⟩ := Nt.vl_spec hp1 ha
    obtain ⟨b1, b2⟩ := Nt.vl_spec hp1 hb
    by_cases h2 : p = 2
    · subst h2
      have ou := Nt.odd_of a2
      have ov := Nt.odd_of b2
      refine Ev.pos rfl ?_
      rw [spec_l1Mod_eq (by omega) (by omega), spec_l1Mod_eq (by omega) (by omega)]
      refine Ev.sbind (Ev.sbind ?_)
      have hex := exp16 (i := Nt.vl a 2) (j := Nt.vl b 2) ou ov
      rw [Nt.hil_two]
      unfold Nt.hil2
      generalize Nt.vl a 2 = i at *
      generalize Nt.vl b 2 = j at *
      generalize Nt.un a 2 = u at *
      generalize Nt.un b 2 = v at *
      have u1 : 0 ≤ u % 16 ∧ u % 16 ≤ 15 ∧ 1 ≤ u % 16 := by omega
      have v1 : 0 ≤ v % 16 ∧ v % 16 ≤ 15 ∧ 1 ≤ v % 16 := by omega
      have su0 : 1 * 1 ≤ u % 16 * (u % 16) ∧ u % 16 * (u % 16) ≤ 15 * 15 := ⟨Int.mul_le_mul u1.2.2 u1.2.2 (by omega) (by omega), Int.mul_le_mul u1.2.1 u1.2.1 (by omega) (by omega)⟩
      have sv0 : 1 * 1 ≤ v % 16 * (v % 16) ∧ v % 16 * (v % 16) ≤ 15 * 15 := ⟨Int.mul_le_mul v1.2.2 v1.2.2 (by omega) (by omega), Int.mul_le_mul v1.2.1 v1.2.1 (by omega) (by omega)⟩
      have hu2 : 0 ≤ (u % 16 - 1) / 2 ∧ (u % 16 - 1) / 2 ≤ 7 := by omega
      have hv2 : 0 ≤ (v % 16 - 1) / 2 ∧ (v % 16 - 1) / 2 ≤ 7 := by omega
      have suv : 0 ≤ (u % 16 - 1) / 2 * ((v % 16 - 1) / 2) ∧ (u % 16 - 1) / 2 * ((v % 16 - 1) / 2) ≤ 7 * 7 := ⟨Int.mul_nonneg hu2.1 hv2.1, Int.mul_le_mul hu2.2 hv2.2 hv2.1 (by omega)⟩
      rw [w64 (x := u % 16 * (u % 16)) (by omega) (by omega), w64 (x := v % 16 * (v % 16)) (by omega) (by omega), w64 (x := u % 16 - 1) (by omega) (by omega), w64 (x := v % 16 - 1) (by omega) (by omega)]
      generalize u % 16 * (u % 16) = U at *
      generalize v % 16 * (v % 16) = V at *
      rw [w64 (x := U - 1) (by omega) (by omega), w64 (x := V - 1) (by omega) (by omega), tdiv_ediv (a := U - 1) (by omega), tdiv_ediv (a := V - 1) (by omega), tdiv_ediv (a := u % 16 - 1) (by omega), tdiv_ediv (a := v % 16 - 1) (by omega),
        w64 (x := (U - 1) / 8) (by omega) (by omega), w64 (x := (V - 1) / 8) (by omega) (by omega), w64 (x := (u % 16 - 1) / 2) (by omega) (by omega), w64 (x := (v % 16 - 1) / 2) (by omega) (by omega)]
      have siv : 0 ≤ (i : Int) * ((V - 1) / 8) ∧ (i : Int) * ((V - 1) / 8) ≤ 40 * 28 := ⟨Int.mul_nonneg (by omega) (by omega), Int.mul_le_mul (by omega) (by omega) (by omega) (by omega)⟩
      have sju : 0 ≤ (j : Int) * ((U - 1) / 8) ∧ (j : Int) * ((U - 1) / 8) ≤ 40 * 28 := ⟨Int.mul_nonneg (by omega) (by omega), Int.mul_le_mul (by omega) (by omega) (by omega) (by omega)⟩
      generalize (i : Int) * ((V - 1) / 8) = A at *
      generalize (j : Int) * ((U - 1) / 8) = B at *
      generalize (u % 16 - 1) / 2 * ((v % 16 - 1) / 2) = C at *
      rw [w64 (x := A) (by omega) (by omega), w64 (x := B) (by omega) (by omega), w64 (x := C) (by omega) (by omega), w64 (x := C + A) (by omega) (by omega), w64 (x := C + A + B) (by omega) (by omega)]
      rw [half_par (by omega) _ hex]
      exact Ev.sbind (Ev.now _)
    · have h3 := Nt.odd_ge hp h2
      have ho := Nt.odd_odd hp h2
      refine Ev.neg h2 ?_
      unfold Nt.hil
      rw [if_neg (by omega), if_neg h2]
      unfold Nt.hilp
      rw [leg_neg hp h2]
      have lu := Nt.leg_range (Nt.un a p) p
      have lv := Nt.leg_range (Nt.un b p) p
      have hij : 0 ≤ (Nt.vl a p : Int) * (Nt.vl b p : Int) ∧ (Nt.vl a p : Int) * (Nt.vl b p : Int) ≤ 40 * 40 := ⟨Int.mul_nonneg (by omega) (by omega), Int.mul_le_mul (by omega) (by omega) (by omega) (by omega)⟩
      have e1 : (p - 1) / 2 = (Nt.hf p : Int) := by unfold Nt.hf; omega
      have hf1 : Nt.hf p ≤ 5000 := by unfold Nt.hf; omega
      have hijp : 0 ≤ (Nt.vl a p : Int) * (Nt.vl b p : Int) * (Nt.hf p : Int) ∧ (Nt.vl a p : Int) * (Nt.vl b p : Int) * (Nt.hf p : Int) ≤ 1600 * 5000 := ⟨Int.mul_nonneg hij.1 (by omega), Int.mul_le_mul (by omega) (by omega) (by omega) (by omega)⟩
      rw [w64 (x := (Nt.vl a p : Int) * (Nt.vl b p : Int)) (by omega) (by omega), w64 (x := p - 1) (by omega) (by omega), tdiv_ediv (a := p - 1) (by omega), e1, w64 (x := (Nt.hf p : Int)) (by omega) (by omega), w64 (x := (Nt.vl a p : Int) * (Nt.vl b p : Int) * (Nt.hf p : Int)) (by omega) (by omega)]
      rw [half_par hijp.1 (Nt.vl a p * Nt.vl b p * Nt.hf p) (by push_cast; rfl)]
      refine Ev.sbind ?_
      have x1 : -1 ≤ Nt.pw (-1) (Nt.vl a p * Nt.vl b p * Nt.hf p) ∧ Nt.pw (-1) (Nt.vl a p * Nt.vl b p * Nt.hf p) ≤ 1 := by rw [pw_if]; split <;> omega
      generalize Nt.pw (-1) (Nt.vl a p * Nt.vl b p * Nt.hf p) = S at *
      rw [tmod_emod (a := (Nt.vl a p : Int)) (by omega), tmod_emod (a := (Nt.vl b p : Int)) (by omega), pw_if, pw_if]
      have x4 := tri_mul' x1 lu
      have x5 := tri_mul' x1 lv
      have x6 := tri_mul' x4 lv
      by_cases hj : Nt.vl b p % 2 = 1
      · rw [if_pos hj]
        refine Ev.pos (by omega) (Ev.bind (spec_l1Residue_ev hp h2 hp5) ?_)
        by_cases hi : Nt.vl a p % 2 = 1
        · rw [if_pos hi]
          refine Ev.pos (by omega) (Ev.bind (spec_l1Residue_ev hp h2 hp5) ?_)
          rw [w64 (x := S * _) (by omega) (by omega), w64 (by omega) (by omega)]
          exact Ev.now _
        · rw [if_neg hi, Int.mul_one]
          refine Ev.neg (by omega) ?_
          rw [w64 (by omega) (by omega)]
          exact Ev.now _
      · rw [if_neg hj, Int.mul_one]
        refine Ev.neg (by omega) ?_
        by_cases hi : Nt.vl a p % 2 = 1
        · rw [if_pos hi]
          refine Ev.pos (by omega) (Ev.bind (spec_l1Residue_ev hp h2 hp5) ?_)
          rw [w64 (by omega) (by omega)]
          exact Ev.now _
        · rw [if_neg hi, Int.mul_one]
          exact Ev.neg (by omega) (Ev.now _)

theorem spec_l4Invariant_l1 {xs : List Int} {p : Int} (h : fv xs = true) (hp : Nt.Pl p) (hp5 : p ≤ 5000) (i : Nat) (hi : i < xs.length) (res : Int)
    (hnext : Ev (fun k => spec_l4Invariant.l0 k xs p (Nt.inv p (xs.take (i + 1))) ((i + 1 : Nat) : Int)) res) :
    ∀ (d j : Nat) (e : Int), j + d = i → e = Nt.inv p (xs.take i) * Nt.hil (rd xs (i : Int)) (Nt.prod (xs.take j)) p →
      Ev (fun k => spec_l4Invariant.l1 k xs p e (i : Int) (j : Int)) res := by
  have hl := fv_len h
  have hn := fv_nz h
  have ht : rd xs (i : Int) ∈ xs := rd_mem hi
  have htn := hn _ ht
  have htb := fv_bd h _ ht
  intro d
  induction d with
  | zero =>
    intro j e hj he
    refine Ev.succ ?_
    simp only [spec_l4Invariant.l1]
    rw [w64 (x := (i : Int) + 1) (by omega) (by omega), cast_succ]
    refine Ev.neg (by omega) ?_
    have : e = Nt.inv p (xs.take (i + 1)) := by
      rw [he, take_snoc hi, Nt.inv_snoc hp (nz_take hn i) htn, Nt.hil_comm, show j = i by omega]
    rw [this]
    exact hnext
  | succ d ih =>
    intro j e hj he
    have hjl : j < xs.length := by omega
    have hb := rd_mem hjl
    have hbn := hn _ hb
    have hbb := fv_bd h _ hb
    have hpn := Nt.prod_nz (nz_take hn j)
    have pe : e = 1 ∨ e = -1 := by rw [he]; exact pm_mul (Nt.inv_pm hp (nz_take hn i)) (Nt.hil_pm hp htn hpn)
    have pp := pm_mul pe (Nt.hil_pm hp htn hbn)
    refine Ev.succ ?_
    simp only [spec_l4Invariant.l1]
    rw [w64 (x := (j : Int) + 1) (by omega) (by omega), cast_succ]
    refine Ev.pos (by omega) (Ev.pos (by omega) (Ev.pos (by omega) (Ev.pos (by omega) (Ev.pos (by omega) (Ev.bind (spec_l3Symbol_ev hp hp5 hbn htn (by omega) (by omega)) ?_)))))
    rw [Nt.hil_comm, w64 (by omega) (by omega)]
    refine ih (j + 1) _ (by omega) ?_
    rw [he, take_snoc hjl, prod_snoc, Nt.hil_mul_right hp htn hpn hbn, Int.mul_assoc]
theorem spec_l4Invariant_l0 {xs : List Int} {p : Int} (h : fv xs = true) (hp : Nt.Pl p) (hp5 : p ≤ 5000) : ∀ (d i : Nat), i + d = xs.length →
    Ev (fun k => spec_l4Invariant.l0 k xs p (Nt.inv p (xs.take i)) (i : Int)) (Nt.inv p xs) := by
  have hl := fv_len h
  have hn := fv_nz h
  intro d
  induction d with
  | zero =>
    intro i hi
    refine Ev.succ ?_
    simp only [spec_l4Invariant.l0]
    exact Ev.neg (by omega) (Ev.ret (by rw [show i = xs.length by omega, List.take_length]))
  | succ d ih =>
    intro i hi
    refine Ev.succ ?_
    simp only [spec_l4Invariant.l0]
    refine Ev.pos (by omega) ?_
    refine spec_l4Invariant_l1 h hp hp5 i (by omega) _ (ih (i + 1) (by omega)) i 0 _ (by omega) ?_
    rw [List.take_zero, show Nt.prod [] = 1 from rfl, Nt.hil_one_right hp (hn _ (rd_mem (by omega))), Int.mul_one]
theorem spec_l4Invariant_ev {xs : List Int} {p : Int} (h : fv xs = true) (hp : Nt.Pl p) (hp5 : p ≤ 5000) : Ev (fun k => spec_l4Invariant.f k xs p) (Nt.inv p xs) := by
  unfold spec_l4Invariant.f
  exact spec_l4Invariant_l0 h hp hp5 xs.length 0 (by omega)

theorem spec_l2Square_ev {a p : Int} (hp : Nt.Pl p) (hp5 : p ≤ 5000) (ha : a ≠ 0) (ha2 : a.natAbs ≤ 1000000000000) : Ev (fun k => spec_l2Square.f k a p) (Nt.lsq a p) := by
  unfold spec_l2Square.f Nt.lsq
  by_cases h0 : p = 0
  · rw [if_pos h0]
    exact Ev.pos h0 (Ev.now _)
  · have hp := hp.resolve_left h0
    rw [if_neg h0]
    refine Ev.neg h0 (Ev.bind (spec_l1Valuation_ev hp.1 ha ha2) ?_)
    dsimp only
    rw [tmod_emod (by omega)]
    by_cases h2 : p = 2
    · subst h2
      refine Ev.pos rfl ?_
      by_cases hv : Nt.vl a 2 % 2 = 0
      · rw [if_pos hv, if_pos rfl, spec_l1Mod_eq (by omega) (by omega)]
        exact Ev.pos (by omega) (Ev.sbind (Ev.now _))
      · rw [if_neg hv]
        exact Ev.neg (by omega) (Ev.now _)
    · refine Ev.neg h2 ?_
      by_cases hv : Nt.vl a p % 2 = 0
      · rw [if_pos hv, if_neg h2]
        exact Ev.pos (by omega) (Ev.bind (spec_l1Residue_ev hp h2 hp5) (Ev.now _))
      · rw [if_neg hv]
        exact Ev.neg (by omega) (Ev.now _)

theorem spec_l4Less_l (xs : List Int) (hx : Md xs) : ∀ (r : List Int) (i n : Nat), n ≤ i → xs.drop i = r → Ev (fun k => spec_l4Less.l0 k xs (n : Int) (i : Int)) ((n + less r : Nat) : Int)
  | [], i, n, hn, h => by
    have := drop_nil h
    refine Ev.succ ?_
    simp only [spec_l4Less.l0]
    exact Ev.neg (by omega) (Ev.ret (by simp [less]))
  | t :: r, i, n, hn, h => by
    obtain ⟨h1, h2, h3⟩ := drop_cons h
    have hl := hx.1
    refine Ev.succ ?_
    simp only [spec_l4Less.l0]
    rw [h2]
    refine Ev.pos (by omega) (Ev.pos (by omega) ?_)
    rw [w64 (x := (i : Int) + 1) (by omega) (by omega), w64 (x := (n : Int) + 1) (by omega) (by omega), cast_succ, cast_succ]
    by_cases h0 : t < 0
    · refine Ev.pos h0 (Ev.to (spec_l4Less_l xs hx r (i + 1) (n + 1) (by omega) h3) ?_)
      simp only [less, if_pos h0]; omega
    · refine Ev.neg h0 (Ev.to (spec_l4Less_l xs hx r (i + 1) n (by omega) h3) ?_)
      simp only [less, if_neg h0]
theorem spec_l4Less_ev {xs : List Int} (hx : Md xs) : Ev (fun k => spec_l4Less.f k xs) ((less xs : Nat) : Int) := by
  unfold spec_l4Less.f
  refine Ev.to (spec_l4Less_l xs hx xs 0 0 (Nat.le_refl _) rfl) ?_
  simp

theorem spec_l4Vanishes_ev {f : List Int} {p : Int} (h : fv f = true) (hp : Nt.Pl p) (hp5 : p ≤ 5000) : Ev (fun k => spec_l4Vanishes.f k f p) (Nt.van p f) := by
  obtain ⟨b1, b2⟩ := prod_bd h
  have hl := fv_len h
  unfold spec_l4Vanishes.f
  by_cases c : p = 0
  · refine Ev.pos c (Ev.bind (spec_l4Less_ev (Md.of_fv h)) ?_)
    have e : Nt.van p f = decide (0 < Nt.ng f ∧ Nt.ng f < f.length) := by unfold Nt.van; rw [if_pos c]
    rw [e, less_ng]
    by_cases c1 : ((Nt.ng f : Nat) : Int) > 0
    · refine Ev.pos c1 (Ev.bind (spec_l4Less_ev (Md.of_fv h)) (Ev.ret ?_))
      rw [less_ng, decide_eq_decide]; omega
    · exact Ev.neg c1 (Ev.ret (by symm; rw [decide_eq_false_iff_not]; omega))
  · refine Ev.neg c (Ev.bind (spec_l4Product_ev h) ?_)
    rw [w64 (by omega) (by omega)]
    unfold Nt.van
    rw [if_neg c]
    by_cases c1 : f.length = 1
    · rw [if_neg (by omega), if_neg (by omega), if_neg (by omega)]
      exact Ev.pos (by omega) (Ev.now _)
    · refine Ev.neg (by omega) ?_
      by_cases c2 : f.length = 2
      · rw [if_pos c2]
        exact Ev.pos (by omega) (Ev.bind (spec_l2Square_ev hp hp5 (by omega) (by omega)) (Ev.now _))
      · rw [if_neg c2]
        refine Ev.neg (by omega) ?_
        by_cases c3 : f.length = 3
        · rw [if_pos c3]
          exact Ev.pos (by omega) (Ev.bind (spec_l4Invariant_ev h hp hp5) (Ev.bind (spec_l3Symbol_ev hp hp5 (by omega) (by omega) (by omega) (by omega)) (Ev.now _)))
        · rw [if_neg c3, if_pos (show f.length = 4 by omega)]
          refine Ev.neg (by omega) (Ev.bind (spec_l2Square_ev hp hp5 b1 (by omega)) ?_)
          by_cases c5 : Nt.lsq (Nt.prod f) p = true
          · exact Ev.pos c5 (Ev.bind (spec_l4Invariant_ev h hp hp5) (Ev.bind (spec_l3Symbol_ev hp hp5 (by omega) (by omega) (by omega) (by omega)) (Ev.ret (by rw [c5]; rfl))))
          · refine Ev.neg c5 (Ev.ret ?_)
            have : Nt.lsq (Nt.prod f) p = false := by simpa using c5
            rw [this]; rfl

theorem spec_FormVanishes_ev {f : List Int} {p : Int} (hf : Md f) : Ev (fun k => spec_FormVanishes.f k f p) (fvan f p) := by
  unfold spec_FormVanishes.f
  refine Ev.bind (spec_FormValid_ev hf) ?_
  by_cases h : fv f = true
  · refine Ev.pos h (Ev.bind spec_PlaceValid_ev ?_)
    by_cases h' : isPl p = true
    · obtain ⟨q1, q2, q3⟩ := isPl_pl h'
      rw [fvan_of h h']
      exact Ev.pos h' (Ev.bind (spec_l4Vanishes_ev h q1 q3) (Ev.now _))
    · exact Ev.neg h' (Ev.ret (by unfold fvan; rw [show isPl p = false by simpa using h']; simp))
  · rw [fvan_no h]
    exact Ev.neg h (Ev.now _)

/-- 0, 2 and the odd primes of some kind, ascending. -/
def IsPlaces (Q : Int → Prop) (l : List Int) : Prop := l.Pairwise (· < ·) ∧ ∀ p, p ∈ l ↔ p = 0 ∨ p = 2 ∨ (Nt.Pr p ∧ Q p)
theorem IsPlaces.uniq {Q R : Int → Prop} {l m : List Int} (hl : IsPlaces Q l) (hm : IsPlaces R m) (h : ∀ p, Nt.Pr p → p ≠ 2 → (Q p ↔ R p)) : l = m := by
  refine Nt.asc_ext hl.1 hm.1 (fun x => ?_)
  rw [hl.2, hm.2]
  by_cases h2 : x = 2
  · simp [h2]
  · constructor
    · rintro (h' | h' | ⟨a, b⟩)
      · exact .inl h'
      · exact .inr (.inl h')
      · exact .inr (.inr ⟨a, (h x a h2).1 b⟩)
    · rintro (h' | h' | ⟨a, b⟩)
      · exact .inl h'
      · exact .inr (.inl h')
      · exact .inr (.inr ⟨a, (h x a h2).2 b⟩)
theorem IsPlaces.pl {Q : Int → Prop} {l : List Int} (h : IsPlaces Q l) : ∀ p ∈ l, Nt.Pl p := by
  intro p hp
  rcases (h.2 p).1 hp with rfl | rfl | h'
  · exact .inl rfl
  · exact .inr Nt.pr2
  · exact .inr h'.1
theorem asc_nodup {l : List Int} (h : l.Pairwise (· < ·)) : l.Nodup := h.imp (fun h => by omega)

theorem sq_small {p : Int} (h0 : 0 ≤ p) (h : p ≤ 1000001) : 0 ≤ p * p ∧ p * p ≤ 1000002000001 := by
  have h1 : p * p ≤ 1000001 * 1000001 := Int.mul_le_mul h h (by omega) (by omega)
  have h2 := Int.mul_nonneg h0 h0
  omega
theorem sq_lt {p n : Int} (h : p * p ≤ n) (hn : n ≤ 1000000000000) (h0 : 0 ≤ p) : p ≤ 1000000 := by
  rcases Int.lt_or_le 1000000 p with h' | h'
  · have : 1000001 * 1000001 ≤ p * p := Int.mul_le_mul (by omega) (by omega) (by omega) (by omega)
    omega
  · exact h'
theorem impl_primesOf_l {N : Int} (hN : N ≤ 1000000000000) : ∀ (d : Nat) (n p : Int) (out : List Int), (1000001 - p).toNat ≤ d → 2 ≤ p → p ≤ 1000001 → (out.length : Int) ≤ p → Nt.St N n p out →
    ∃ L, Nt.IsPL N L ∧ Ev (fun k => impl_primesOf.l0 k n out p) L := by
  intro d
  induction d with
  | zero =>
    intro n p out hd h2 h3 ho hS
    have hs := sq_small (p := p) (by omega) h3
    have hle : n < p * p := by
      have e : p = 1000001 := by omega
      subst e
      have := hS.2.1
      omega
    refine ⟨_, hS.last h2 hle, Ev.succ ?_⟩
    simp only [impl_primesOf.l0]
    rw [w64 (by omega) (by omega)]
    refine Ev.neg (by omega) ?_
    by_cases hn : n > 1
    · exact Ev.pos hn (Ev.pos (by omega) (Ev.ret (if_pos hn).symm))
    · exact Ev.neg hn (Ev.ret (if_neg hn).symm)
  | succ d ih =>
    intro n p out hd h2 h3 ho hS
    have hs := sq_small (p := p) (by omega) h3
    by_cases hle : p * p ≤ n
    · have hp6 := sq_lt hle (by have := hS.2.1; omega) (by omega)
      by_cases hdv : p ∣ n
      · obtain ⟨L, h4, h5⟩ := ih (Nt.un n p) (p + 1) (out ++ [p]) (by omega) (by omega) (by omega) (by simp; omega) (hS.step h2 hdv)
        refine ⟨L, h4, Ev.succ ?_⟩
        simp only [impl_primesOf.l0]
        have := hS.1
        have := hS.2.1
        rw [w64 (x := p * p) (by omega) (by omega), w64 (x := p + 1) (by omega) (by omega)]
        exact Ev.pos hle (Ev.neg (by omega) (Ev.pos (Nt.tmod_zero_iff.2 hdv) (Ev.pos (by omega) (Ev.bind (impl_split_ev h2 (by omega) (by omega)) h5))))
      · obtain ⟨L, h4, h5⟩ := ih n (p + 1) out (by omega) (by omega) (by omega) (by omega) (hS.skip hdv)
        refine ⟨L, h4, Ev.succ ?_⟩
        simp only [impl_primesOf.l0]
        rw [w64 (x := p * p) (by omega) (by omega), w64 (x := p + 1) (by omega) (by omega)]
        exact Ev.pos hle (Ev.neg (by omega) (Ev.neg (fun h => hdv (Nt.tmod_zero_iff.1 h)) h5))
    · refine ⟨_, hS.last h2 (by omega), Ev.succ ?_⟩
      simp only [impl_primesOf.l0]
      rw [w64 (by omega) (by omega)]
      refine Ev.neg (by omega) ?_
      by_cases hn : n > 1
      · exact Ev.pos hn (Ev.pos (by omega) (Ev.ret (if_pos hn).symm))
      · exact Ev.neg hn (Ev.ret (if_neg hn).symm)
theorem pl_abs {n : Int} {L : List Int} (h : Nt.IsPL (n.natAbs : Int) L) : Nt.IsPL n L := ⟨h.1, fun p => by rw [h.2, Int.dvd_natAbs]⟩
theorem mx_abs' (t : Int) : mx t (-t) = (t.natAbs : Int) := by unfold mx; split <;> omega
theorem impl_primesOf_ev {n : Int} (hn : n ≠ 0) (hn2 : n.natAbs ≤ 1000000000000) : ∃ L, Nt.IsPL n L ∧ Ev (fun k => impl_primesOf.f k n) L := by
  obtain ⟨L, h1, h2⟩ := impl_primesOf_l (N := (n.natAbs : Int)) (by omega) _ (n.natAbs : Int) 2 [] (Nat.le_refl _) (by omega) (by omega) (by simp) (Nt.St.start (by omega))
  refine ⟨L, pl_abs h1, ?_⟩
  unfold impl_primesOf.f impl_size.f
  rw [w64 (by omega) (by omega), mx_abs']
  exact Ev.sbind h2

theorem rd_app {A B : List Int} {v : Int} : rd (A ++ v :: B) (A.length : Int) = v := by
  unfold rd
  simp [List.getD_eq_getElem?_getD]
theorem cmp_Less_eq (a b : Int) : cmp_Less_int.f a b = some (decide (a < b)) := by
  unfold cmp_Less_int.f cmp_isNaN_int.f
  simp
/-- What a sort is to give. -/
def Srt (xs ys : List Int) : Prop := ys.Pairwise (· ≤ ·) ∧ ys.Perm xs
/-- The inner loop carries v down to its place. -/
theorem insert_l (n : Int) (hn : n ≤ 100) (i : Nat) (hi : (i : Int) < n) (C : List Int) (hC : (i : Int) + 1 + C.length = n)
    (hnext : ∀ S : List Int, S.length = i + 1 → S.Pairwise (· ≤ ·) → ∃ ys, Ev (fun k => slices_insertionSortOrdered_int.l0 k (S ++ C) 0 n ((i + 1 : Nat) : Int)) ys ∧ Srt (S ++ C) ys) :
    ∀ (m : Nat) (A B : List Int) (v : Int), A.length = m → A.length + B.length = i → (A ++ B).Pairwise (· ≤ ·) → (∀ b ∈ B, v < b) →
      ∃ ys, Ev (fun k => slices_insertionSortOrdered_int.l1 k (A ++ v :: B ++ C) 0 n (i : Int) (A.length : Int)) ys ∧ Srt (A ++ v :: B ++ C) ys := by
  intro m
  induction m with
  | zero =>
    intro A B v hA hAB hs hv
    obtain rfl : A = [] := List.eq_nil_of_length_eq_zero hA
    obtain ⟨ys, h1, h2⟩ := hnext (v :: B) (by simp at hAB ⊢; omega) (List.pairwise_cons.2 ⟨fun b hb => by have := hv b hb; omega, by simpa using hs⟩)
    refine ⟨ys, Ev.succ ?_, by simpa using h2⟩
    simp only [slices_insertionSortOrdered_int.l1]
    refine Ev.neg (by simp) ?_
    rw [w64 (by omega) (by omega), cast_succ]
    exact h1
  | succ m ih =>
    intro A B v hA hAB hs hv
    obtain ⟨A', u, rfl⟩ : ∃ A' u, A = A' ++ [u] := ⟨A.dropLast, A.getLast (by intro e; subst e; simp at hA), (List.dropLast_concat_getLast _).symm⟩
    have hm : A'.length = m := by simpa using hA
    have hAl : ((A' ++ [u]).length : Int) = (A'.length : Int) + 1 := by simp
    have hBl : (A'.length : Int) + 1 + B.length = i := by simp at hAB; omega
    have hxl : ((A' ++ [u] ++ v :: B ++ C).length : Int) = n := by simp; omega
    have e1 : rd (A' ++ [u] ++ v :: B ++ C) ((A' ++ [u]).length : Int) = v := by
      rw [List.append_assoc (A' ++ [u]), List.cons_append]; exact rd_app
    have e2 : rd (A' ++ [u] ++ v :: B ++ C) (A'.length : Int) = u := by
      have : A' ++ [u] ++ v :: B ++ C = A' ++ u :: (v :: B ++ C) := by simp
      rw [this]
      exact rd_app
    have w1 : wrap64 (((A' ++ [u]).length : Int) - 1) = (A'.length : Int) := by rw [hAl, w64 (by omega) (by omega)]; omega
    by_cases c : v < u
    · have e3 : ((A' ++ [u] ++ v :: B ++ C).set ((A' ++ [u]).length : Int).toNat u).set ((A'.length : Int)).toNat v = A' ++ v :: (u :: B) ++ C := by
        have k1 : ((A' ++ [u]).length : Int).toNat = A'.length + 1 := by simp
        rw [k1, Int.toNat_natCast]
        have : A' ++ [u] ++ v :: B ++ C = A' ++ u :: v :: (B ++ C) := by simp
        rw [this]
        simp
      obtain ⟨ys, h1, h2, h3⟩ := ih A' (u :: B) v hm (by simp at hAB ⊢; omega) (by simpa using hs) (by
        intro b hb
        rcases List.mem_cons.1 hb with rfl | hb
        · exact c
        · exact hv b hb)
      refine ⟨ys, Ev.succ ?_, h2, h3.trans ?_⟩
      · simp only [slices_insertionSortOrdered_int.l1]
        rw [w1, e1, e2, cmp_Less_eq, e3]
        exact Ev.pos (by omega) (Ev.pos (by omega) (Ev.pos (by omega) (Ev.pos (by omega) (Ev.pos (by omega) (Ev.sbind (Ev.pos (by simpa using c) h1))))))
      · have a1 : A' ++ v :: (u :: B) ++ C = A' ++ v :: u :: (B ++ C) := by simp
        have a2 : A' ++ [u] ++ v :: B ++ C = A' ++ u :: v :: (B ++ C) := by simp
        rw [a1, a2]
        exact (List.Perm.swap u v (B ++ C)).append_left A'
    · have hs' := List.pairwise_append.1 hs
      obtain ⟨ys, h1, h2, h3⟩ := hnext (A' ++ [u] ++ v :: B) (by simp at hAB ⊢; omega) (by
        rw [List.pairwise_append]
        refine ⟨hs'.1, List.pairwise_cons.2 ⟨fun b hb => by have := hv b hb; omega, hs'.2.1⟩, fun a ha b hb => ?_⟩
        rcases List.mem_cons.1 hb with rfl | hb
        · have hp := List.pairwise_append.1 hs'.1
          rcases List.mem_append.1 ha with ha | ha
          · have := hp.2.2 a ha u (by simp); omega
          · rw [List.mem_singleton.1 ha]; omega
        · exact hs'.2.2 a ha b hb)
      refine ⟨ys, Ev.succ ?_, h2, h3⟩
      simp only [slices_insertionSortOrdered_int.l1]
      rw [w1, e1, e2, cmp_Less_eq, w64 (x := (i : Int) + 1) (by omega) (by omega), cast_succ]
      exact Ev.pos (by omega) (Ev.pos (by omega) (Ev.pos (by omega) (Ev.pos (by omega) (Ev.pos (by omega) (Ev.sbind (Ev.neg (by simpa using c) h1))))))
/-- The outer loop. -/
theorem outer_l (n : Int) (hn : n ≤ 100) : ∀ (T S : List Int), ((S ++ T).length : Int) = n → S.Pairwise (· ≤ ·) → ∃ ys, Ev (fun k => slices_insertionSortOrdered_int.l0 k (S ++ T) 0 n (S.length : Int)) ys ∧ Srt (S ++ T) ys
  | [], S, hl, hs => by
    refine ⟨S ++ [], Ev.succ ?_, by simpa using hs, List.Perm.refl _⟩
    simp only [slices_insertionSortOrdered_int.l0]
    exact Ev.neg (by simp at hl; omega) (Ev.now _)
  | c :: C, S, hl, hs => by
    have hl2 : (S.length : Int) + 1 + C.length = n := by simp at hl; omega
    obtain ⟨ys, h1, h2⟩ := insert_l n hn S.length (by omega) C hl2 (fun S' h1 h2 => by
      have := outer_l n hn C S' (by simp; omega) h2
      rw [h1] at this
      exact this) S.length S [] c rfl (by simp) (by simpa using hs) (by simp)
    refine ⟨ys, Ev.succ ?_, by simpa using h2⟩
    simp only [slices_insertionSortOrdered_int.l0]
    refine Ev.pos (by omega) ?_
    simpa using h1
theorem insertion_ev {xs : List Int} (hl : xs.length ≤ 12) : ∃ ys, Ev (fun k => slices_insertionSortOrdered_int.f k xs 0 (xs.length : Int)) ys ∧ Srt xs ys := by
  unfold slices_insertionSortOrdered_int.f
  rw [w64 (by omega) (by omega)]
  cases xs with
  | nil =>
    refine ⟨[], Ev.succ ?_, by simp, List.Perm.refl _⟩
    simp only [slices_insertionSortOrdered_int.l0]
    exact Ev.neg (by simp) (Ev.now _)
  | cons x xs =>
    have := outer_l ((x :: xs).length : Int) (by omega) xs [x] (by simp) (by simp)
    simpa using this
theorem bits_Len_ev {n : Int} (h0 : 0 ≤ n) (h1 : n ≤ 12) : ∃ v, Ev (fun k => bits_Len.f k n) v := by
  have key : ∀ m ∈ List.range 13, (bits_Len.f 3 (m : Int)).isSome = true := by decide +kernel
  have := key n.toNat (by simp; omega)
  rw [Int.toNat_of_nonneg h0] at this
  obtain ⟨v, hv⟩ := Option.isSome_iff_exists.1 this
  exact ⟨v, Ev.of (fun k => bits_Len.mono _ k) hv⟩
theorem u64_small {n : Int} (h0 : 0 ≤ n) (h1 : n ≤ 12) : IntKind.u64.wrap n = n := by
  rw [IntKind.wrap_u64]; omega
/-- A row of at most 12 numbers, sorted. -/
theorem slices_Sort_ev {xs : List Int} (hl : xs.length ≤ 12) : ∃ ys, Ev (fun k => slices_Sort_int_int.f k xs) ys ∧ Srt xs ys := by
  obtain ⟨ys, h1, h2⟩ := insertion_ev hl
  obtain ⟨v, hv⟩ := bits_Len_ev (n := (xs.length : Int)) (by omega) (by omega)
  refine ⟨ys, ?_, h2⟩
  unfold slices_Sort_int_int.f slices_pdqsortOrdered_int.f
  rw [u64_small (by omega) (by omega)]
  refine Ev.bind hv (Ev.bind (a := ys) (Ev.succ ?_) (Ev.now _))
  simp only [slices_pdqsortOrdered_int.l0]
  rw [w64 (by omega) (by omega)]
  exact Ev.pos (by omega) (Ev.bind h1 (Ev.now _))

theorem slices_Contains_l (xs : List Int) (v : Int) (hl : xs.length ≤ 10000000) : ∀ (r : List Int) (i : Nat), xs.drop i = r → ∃ j : Int, (0 ≤ j ↔ v ∈ r) ∧ Ev (fun k => slices_Index_int_int.l0 k xs v (xs.length : Int) (i : Int)) j
  | [], i, h => by
    have := drop_nil h
    refine ⟨-1, by simp, Ev.succ ?_⟩
    simp only [slices_Index_int_int.l0]
    exact Ev.neg (by omega) (Ev.now _)
  | t :: r, i, h => by
    obtain ⟨h1, h2, h3⟩ := drop_cons h
    by_cases c : v = t
    · refine ⟨(i : Int), by simp [c], Ev.succ ?_⟩
      simp only [slices_Index_int_int.l0]
      rw [h2]
      exact Ev.pos (by omega) (Ev.pos (by omega) (Ev.pos (by omega) (Ev.pos c (Ev.now _))))
    · obtain ⟨j, j1, j2⟩ := slices_Contains_l xs v hl r (i + 1) h3
      refine ⟨j, by rw [j1]; simp [c], Ev.succ ?_⟩
      simp only [slices_Index_int_int.l0]
      rw [h2, w64 (by omega) (by omega), cast_succ]
      exact Ev.pos (by omega) (Ev.pos (by omega) (Ev.pos (by omega) (Ev.neg c j2)))
theorem slices_Contains_any {xs : List Int} {v : Int} (hl : xs.length ≤ 10000000) : Ev (fun k => slices_Contains_int_int.f k xs v) (decide (v ∈ xs)) := by
  obtain ⟨j, h1, h2⟩ := slices_Contains_l xs v hl xs 0 rfl
  unfold slices_Contains_int_int.f slices_Index_int_int.f
  refine Ev.bind h2 (Ev.ret ?_)
  simp only [decide_eq_decide, ge_iff_le]
  exact h1
/-- What has been found so far. -/
def Got (Q : Int → Prop) (o : List Int) : Prop := o.Nodup ∧ ∀ p, p ∈ o ↔ p = 0 ∨ p = 2 ∨ (Nt.Pr p ∧ Q p)
theorem placesOf_l1 (L : List Int) (hL : L.length ≤ 100) (P : List Int) (hP : P.length ≤ 1000000) (i : Nat) (hi : i < L.length) (n : Int) (Q : Int → Prop) (S : List Int)
    (hnext : ∀ o, Got (fun p => Q p ∨ p ∣ n) o → Ev (fun k => impl_placesOf.l0 k o L (L.length : Int) ((i + 1 : Nat) : Int)) S) :
    ∀ (r : List Int) (j : Nat) (o : List Int), P.drop j = r → j ≤ P.length → o.length ≤ 2000000 + j → o.Nodup → (∀ p, (p ∈ o ∨ p ∈ r) ↔ p = 0 ∨ p = 2 ∨ (Nt.Pr p ∧ (Q p ∨ p ∣ n))) →
      Ev (fun k => impl_placesOf.l1 k o L (L.length : Int) (i : Int) P (P.length : Int) (j : Int)) S
  | [], j, o, h, hj, ho, hd, hm => by
    have := drop_nil h
    refine Ev.succ ?_
    simp only [impl_placesOf.l1]
    rw [w64 (x := (i : Int) + 1) (by omega) (by omega), cast_succ]
    exact Ev.neg (by omega) (hnext o ⟨hd, fun p => by rw [← hm p]; simp⟩)
  | t :: r, j, o, h, hj, ho, hd, hm => by
    obtain ⟨h1, h2, h3⟩ := drop_cons h
    refine Ev.succ ?_
    simp only [impl_placesOf.l1]
    rw [h2, w64 (x := (j : Int) + 1) (by omega) (by omega), cast_succ]
    refine Ev.pos (by omega) (Ev.pos (by omega) (Ev.pos (by omega) (Ev.bind (slices_Contains_any (by omega)) ?_)))
    by_cases c : t ∈ o
    · refine Ev.pos (by simpa using c) ?_
      refine placesOf_l1 L hL P hP i hi n Q S hnext r (j + 1) o h3 (by omega) (by omega) hd (fun p => ?_)
      rw [← hm p]
      constructor
      · rintro (h | h)
        · exact .inl h
        · exact .inr (by simp [h])
      · rintro (h | h)
        · exact .inl h
        · rcases List.mem_cons.1 h with rfl | h
          · exact .inl c
          · exact .inr h
    · refine Ev.neg (by simpa using c) (Ev.pos (by omega) ?_)
      refine placesOf_l1 L hL P hP i hi n Q S hnext r (j + 1) (o ++ [t]) h3 (by omega) (by simp; omega) ?_ (fun p => ?_)
      · rw [List.nodup_append]
        exact ⟨hd, by simp, fun a ha b hb => by rw [List.mem_singleton.1 hb]; exact fun e => c (e ▸ ha)⟩
      · rw [← hm p]
        simp only [List.mem_append, List.mem_cons, List.not_mem_nil, or_false]
        constructor
        · rintro ((h | h) | h)
          · exact .inl h
          · exact .inr (.inl h)
          · exact .inr (.inr h)
        · rintro (h | h | h)
          · exact .inl (.inl h)
          · exact .inl (.inr h)
          · exact .inr h
theorem pl_length {n : Int} {L : List Int} (h : Nt.IsPL n L) (hn : n ≠ 0) (hn2 : n.natAbs ≤ 1000000000000) : L.length ≤ 1000000 := by
  have hd := Nt.prod_dvd (l := L) (n := n) (asc_nodup h.1) (fun p hp => (h.2 p).1 hp)
  have hle := Int.le_of_dvd (show 0 < ((n.natAbs : Nat) : Int) by omega) (Int.dvd_natAbs.2 hd)
  have : ∀ l : List Int, (∀ p ∈ l, Nt.Pr p) → (l.length : Int) < 2 ^ l.length ∧ (2 : Int) ^ l.length ≤ Nt.prod l := by
    intro l hp
    induction l with
    | nil => simp [Nt.prod]
    | cons p l ih =>
      obtain ⟨a, b⟩ := ih (fun q hq => hp q (by simp [hq]))
      have h2 := (hp p (by simp)).1
      have : 2 * 2 ^ l.length ≤ p * Nt.prod l := Int.mul_le_mul h2 b (by omega) (by omega)
      simp only [List.length_cons, Int.pow_succ, Nt.prod]
      omega
  obtain ⟨a, b⟩ := this L (fun p hp => ((h.2 p).1 hp).1)
  rcases Nat.lt_or_ge 40 L.length with h4 | h4
  · exfalso
    have : (2 : Int) ^ 41 ≤ 2 ^ L.length := by
      have := Nat.pow_le_pow_right (show 0 < 2 by omega) (show 41 ≤ L.length by omega)
      exact_mod_cast this
    omega
  · omega
theorem got_ex : ∀ (r : List Int), (∀ n ∈ r, n ≠ 0 ∧ n.natAbs ≤ 1000000000000) → ∃ o, Got (fun p => ∃ n ∈ r, p ∣ n) o
  | [], _ => ⟨[0, 2], by decide, fun p => by simp⟩
  | n :: r, h => by
    obtain ⟨o, h1, h2⟩ := got_ex r (fun m hm => h m (by simp [hm]))
    obtain ⟨n1, n2⟩ := h n (by simp)
    obtain ⟨P, p1, _⟩ := impl_primesOf_ev n1 n2
    refine ⟨o ++ P.filter (fun p => decide (p ∉ o)), ?_, fun p => ?_⟩
    · rw [List.nodup_append]
      refine ⟨h1, (asc_nodup p1.1).filter _, fun a ha b hb => ?_⟩
      have := (List.mem_filter.1 hb).2
      intro e; subst e
      simp at this
      exact this ha
    · simp only [List.mem_append, List.mem_filter, decide_eq_true_eq, List.mem_cons, exists_eq_or_imp]
      rw [p1.2]
      by_cases hpo : p ∈ o
      · simp only [hpo, not_true_eq_false, and_false, or_false, true_iff]
        rcases (h2 p).1 hpo with h | h | ⟨h, h'⟩
        · exact .inl h
        · exact .inr (.inl h)
        · exact .inr (.inr ⟨h, .inr h'⟩)
      · simp only [hpo, not_false_eq_true, and_true, false_or]
        have hno := fun h => hpo ((h2 p).2 h)
        constructor
        · rintro ⟨h, h'⟩; exact .inr (.inr ⟨h, .inl h'⟩)
        · rintro (h | h | ⟨h, h' | h'⟩)
          · exact absurd (.inl h) hno
          · exact absurd (.inr (.inl h)) hno
          · exact ⟨h, h'⟩
          · exact absurd (.inr (.inr ⟨h, h'⟩)) hno
theorem got_le {Q R : Int → Prop} {o o' : List Int} (h : Got Q o) (h' : Got R o') (hQ : ∀ p, Q p → R p) : o.length ≤ o'.length :=
  Nt.length_le_of_sub h.1 (fun x hx => by
    rw [h'.2]
    rcases (h.2 x).1 hx with h1 | h1 | ⟨h1, h2⟩
    · exact .inl h1
    · exact .inr (.inl h1)
    · exact .inr (.inr ⟨h1, hQ x h2⟩))
theorem placesOf_l0 (L : List Int) (hL : L.length ≤ 100) (hn : ∀ n ∈ L, n ≠ 0 ∧ n.natAbs ≤ 1000000000000) (hcount : ∀ o, Got (fun p => ∃ n ∈ L, p ∣ n) o → o.length ≤ 12) :
    ∀ (r : List Int) (i : Nat) (o : List Int) (Q : Int → Prop), L.drop i = r → Got Q o → (∀ p, (Q p ∨ ∃ n ∈ r, p ∣ n) ↔ ∃ n ∈ L, p ∣ n) →
      ∃ S, IsPlaces (fun p => ∃ n ∈ L, p ∣ n) S ∧ Ev (fun k => impl_placesOf.l0 k o L (L.length : Int) (i : Int)) S
  | [], i, o, Q, h, hG, hQ => by
    have := drop_nil h
    have hG' : Got (fun p => ∃ n ∈ L, p ∣ n) o := ⟨hG.1, fun p => by
      show p ∈ o ↔ p = 0 ∨ p = 2 ∨ (Nt.Pr p ∧ ∃ n ∈ L, p ∣ n)
      rw [hG.2, ← hQ p]; simp⟩
    obtain ⟨S, s1, s2, s3⟩ := slices_Sort_ev (hcount o hG')
    refine ⟨S, ⟨?_, fun p => by rw [s3.mem_iff]; exact hG'.2 p⟩, Ev.succ ?_⟩
    · have hn := (s3.nodup_iff).2 hG.1
      exact (List.pairwise_and_iff.2 ⟨s2, hn⟩).imp (fun ⟨h1, h2⟩ => by omega)
    · simp only [impl_placesOf.l0]
      exact Ev.neg (by omega) (Ev.bind s1 (Ev.now _))
  | n :: r, i, o, Q, h, hG, hQ => by
    obtain ⟨h1, h2, h3⟩ := drop_cons h
    obtain ⟨n1, n2⟩ := hn n (h2 ▸ rd_mem h1)
    obtain ⟨P, p1, p2⟩ := impl_primesOf_ev n1 n2
    have key : ∀ o', Got (fun p => Q p ∨ p ∣ n) o' → ∃ S, IsPlaces (fun p => ∃ n ∈ L, p ∣ n) S ∧ Ev (fun k => impl_placesOf.l0 k o' L (L.length : Int) ((i + 1 : Nat) : Int)) S := fun o' hG' =>
      placesOf_l0 L hL hn hcount r (i + 1) o' _ h3 hG' (fun p => by
        rw [← hQ p]
        simp only [List.mem_cons, exists_eq_or_imp, or_assoc])
    -- all ways give one answer: it is told by its members
    obtain ⟨F, hF⟩ := got_ex L hn
    have hF12 := hcount F hF
    have hex : ∃ S, IsPlaces (fun p => ∃ n ∈ L, p ∣ n) S ∧ ∀ o', Got (fun p => Q p ∨ p ∣ n) o' → Ev (fun k => impl_placesOf.l0 k o' L (L.length : Int) ((i + 1 : Nat) : Int)) S := by
      have g0 : Got (fun p => Q p ∨ p ∣ n) (o ++ P.filter (fun p => decide (p ∉ o))) := by
        refine ⟨?_, fun p => ?_⟩
        · rw [List.nodup_append]
          refine ⟨hG.1, (asc_nodup p1.1).filter _, fun a ha b hb => ?_⟩
          have := (List.mem_filter.1 hb).2
          intro e; subst e
          simp at this
          exact this ha
        · simp only [List.mem_append, List.mem_filter, decide_eq_true_eq]
          rw [p1.2]
          by_cases hpo : p ∈ o
          · simp only [hpo, not_true_eq_false, and_false, or_false, true_iff]
            rcases (hG.2 p).1 hpo with h | h | ⟨h, h'⟩
            · exact .inl h
            · exact .inr (.inl h)
            · exact .inr (.inr ⟨h, .inl h'⟩)
          · simp only [hpo, not_false_eq_true, and_true, false_or]
            have hno := fun h => hpo ((hG.2 p).2 h)
            constructor
            · rintro ⟨h, h'⟩; exact .inr (.inr ⟨h, .inr h'⟩)
            · rintro (h | h | ⟨h, h' | h'⟩)
              · exact absurd (.inl h) hno
              · exact absurd (.inr (.inl h)) hno
              · exact absurd (.inr (.inr ⟨h, h'⟩)) hno
              · exact ⟨h, h'⟩
      obtain ⟨S, s1, _⟩ := key _ g0
      refine ⟨S, s1, fun o' hG' => ?_⟩
      obtain ⟨S', s1', s2'⟩ := key o' hG'
      have := s1.uniq s1' (fun p _ _ => Iff.rfl)
      rw [this]; exact s2'
    obtain ⟨S, s1, s2⟩ := hex
    have hoL : o.length ≤ 12 := by
      have := got_le hG hF (fun p hp => (hQ p).1 (.inl hp))
      omega
    refine ⟨S, s1, Ev.succ ?_⟩
    simp only [impl_placesOf.l0]
    rw [h2]
    refine Ev.pos (by omega) (Ev.pos (by omega) (Ev.pos (by omega) (Ev.bind p2 ?_)))
    refine placesOf_l1 L hL P (pl_length p1 n1 n2) i h1 n Q S s2 P 0 o rfl (by omega) (by omega) hG.1 (fun p => ?_)
    rw [p1.2, hG.2]
    constructor
    · rintro ((h | h | ⟨h, h'⟩) | ⟨h, h'⟩)
      · exact .inl h
      · exact .inr (.inl h)
      · exact .inr (.inr ⟨h, .inl h'⟩)
      · exact .inr (.inr ⟨h, .inr h'⟩)
    · rintro (h | h | ⟨h, h' | h'⟩)
      · exact .inl (.inl h)
      · exact .inl (.inr (.inl h))
      · exact .inl (.inr (.inr ⟨h, h'⟩))
      · exact .inr ⟨h, h'⟩
/-- The places of some numbers. -/
theorem impl_placesOf_ev {L : List Int} (hL : L.length ≤ 100) (hn : ∀ n ∈ L, n ≠ 0 ∧ n.natAbs ≤ 1000000000000) (hcount : ∀ o, Got (fun p => ∃ n ∈ L, p ∣ n) o → o.length ≤ 12) :
    ∃ S, IsPlaces (fun p => ∃ n ∈ L, p ∣ n) S ∧ Ev (fun k => impl_placesOf.f k L) S := by
  unfold impl_placesOf.f
  exact placesOf_l0 L hL hn hcount L 0 [0, 2] (fun _ => False) rfl ⟨by decide, fun p => by simp⟩ (fun p => by simp)

/-- A prime divides a term. -/
def QT (l : List Int) (p : Int) : Prop := ∃ n ∈ l, p ∣ n
theorem small_primes {p : Int} (hp : Nt.Pr p) (h : p ≤ 30) : p ∈ ([2, 3, 5, 7, 11, 13, 17, 19, 23, 29] : List Int) := by
  have key : ∀ m ∈ List.range 31, Nt.prB m = true → (m : Int) ∈ ([2, 3, 5, 7, 11, 13, 17, 19, 23, 29] : List Int) := by decide +kernel
  obtain ⟨m, rfl⟩ : ∃ m : Nat, p = m := ⟨p.toNat, by have := hp.1; omega⟩
  refine key m (by simp; omega) ?_
  unfold Nt.prB
  have h2 := hp.1
  simp only [Bool.and_eq_true, decide_eq_true_eq, List.all_eq_true, List.mem_range, Bool.or_eq_true, bne_iff_ne, ne_eq]
  refine ⟨by omega, fun k hk => ?_⟩
  by_cases hk2 : k < 2
  · exact .inl hk2
  · refine .inr fun hm => ?_
    have := hp.2 k (by omega) (Int.natCast_dvd_natCast.2 (Nat.dvd_of_mod_eq_zero hm))
    omega
theorem qt_le {l : List Int} (hl : ∀ n ∈ l, n ≠ 0 ∧ n.natAbs ≤ 30) {p : Int} (h : QT l p) : p ≤ 30 := by
  obtain ⟨n, hn, hd⟩ := h
  have := hl n hn
  have := Int.le_of_dvd (show 0 < ((n.natAbs : Nat) : Int) by omega) (Int.dvd_natAbs.2 hd)
  omega
theorem term_count {l : List Int} (hl : ∀ n ∈ l, n ≠ 0 ∧ n.natAbs ≤ 30) : ∀ o, Got (fun p => ∃ n ∈ l, p ∣ n) o → o.length ≤ 12 := by
  intro o ho
  have := Nt.length_le_of_sub (M := [0, 2, 3, 5, 7, 11, 13, 17, 19, 23, 29]) ho.1 (fun x hx => by
    rcases (ho.2 x).1 hx with hq | hq | ⟨hq, hd⟩
    · simp [hq]
    · simp [hq]
    · exact List.mem_cons_of_mem 0 (small_primes hq (qt_le hl hd)))
  simp only [List.length_cons, List.length_nil] at this
  omega
theorem term_places {l : List Int} (hlen : l.length ≤ 100) (hl : ∀ n ∈ l, n ≠ 0 ∧ n.natAbs ≤ 30) : ∃ S, IsPlaces (QT l) S ∧ S.length ≤ 12 ∧ (∀ p ∈ S, Nt.Pl p ∧ 0 ≤ p ∧ p ≤ 30) ∧ Ev (fun k => impl_placesOf.f k l) S := by
  obtain ⟨S, s1, s2⟩ := impl_placesOf_ev (L := l) hlen (fun n hn => ⟨(hl n hn).1, by have := (hl n hn).2; omega⟩) (term_count hl)
  refine ⟨S, s1, term_count hl S ⟨asc_nodup s1.1, s1.2⟩, fun p hp => ⟨IsPlaces.pl s1 p hp, ?_⟩, s2⟩
  rcases (s1.2 p).1 hp with rfl | rfl | ⟨h1, h2⟩
  · omega
  · omega
  · have := qt_le hl h2
    have := h1.1
    omega
theorem fv_terms {f : List Int} (h : fv f = true) : ∀ n ∈ f, n ≠ 0 ∧ n.natAbs ≤ 30 := fun n hn => ⟨fv_nz h n hn, fv_bd h n hn⟩
theorem qt_prod {p : Int} (hp : Nt.Pr p) : ∀ {l : List Int}, QT l p ↔ p ∣ Nt.prod l
  | [] => ⟨fun ⟨n, h, _⟩ => by simp at h, fun h => absurd h hp.not_dvd_one⟩
  | t :: l => by
    constructor
    · rintro ⟨n, hn, hd⟩
      unfold Nt.prod
      rcases List.mem_cons.1 hn with rfl | hn
      · exact Int.dvd_trans hd ⟨_, rfl⟩
      · exact Int.dvd_trans ((qt_prod hp).1 ⟨n, hn, hd⟩) ⟨t, by rw [Int.mul_comm]⟩
    · intro h
      rcases hp.dvd_mul h with h | h
      · exact ⟨t, by simp, h⟩
      · obtain ⟨n, hn, hd⟩ := (qt_prod hp).2 h
        exact ⟨n, by simp [hn], hd⟩
theorem S_isPl {l S : List Int} (h : IsPlaces (QT l) S) (hb : ∀ p ∈ S, Nt.Pl p ∧ 0 ≤ p ∧ p ≤ 30) : ∀ p ∈ S, isPl p = true := fun p hp => by
  rw [isPl_iff]
  rcases (hb p hp).1 with h0 | h1
  · exact .inl h0
  · exact .inr ⟨h1, by have := (hb p hp).2; omega⟩

theorem impl_FormPlaces_ev {f S : List Int} (h : fv f = true) (hS : IsPlaces (QT f) S) : Ev (fun k => impl_FormPlaces.f k f) S := by
  obtain ⟨S', s1, _, _, s4⟩ := term_places (l := f) (by have := fv_len h; omega) (fv_terms h)
  have := hS.uniq s1 (fun p _ _ => Iff.rfl)
  subst this
  unfold impl_FormPlaces.f
  exact Ev.bind (impl_FormValid_ev (Md.of_fv h)) (Ev.pos h (Ev.bind s4 (Ev.now _)))
theorem impl_FormPlaces_no {f : List Int} (h : ¬ fv f = true) (hf : Md f) : Ev (fun k => impl_FormPlaces.f k f) [] := by
  unfold impl_FormPlaces.f
  exact Ev.bind (impl_FormValid_ev hf) (Ev.neg h (Ev.now _))

theorem laws_hasInt_l (xs : List Int) (n : Int) (hl : xs.length ≤ 1000000) : ∀ (r : List Int) (i : Nat), xs.drop i = r → Ev (fun k => laws_hasInt.l0 k xs n (i : Int)) (decide (n ∈ r))
  | [], i, h => by
    have := drop_nil h
    refine Ev.succ ?_
    simp only [laws_hasInt.l0]
    exact Ev.neg (by omega) (Ev.ret (by simp))
  | t :: r, i, h => by
    obtain ⟨h1, h2, h3⟩ := drop_cons h
    refine Ev.succ ?_
    simp only [laws_hasInt.l0]
    rw [h2]
    refine Ev.pos (by omega) (Ev.pos (by omega) ?_)
    by_cases c : t = n
    · exact Ev.pos c (Ev.ret (by simp [c]))
    · refine Ev.neg c ?_
      rw [w64 (by omega) (by omega), cast_succ]
      refine Ev.to (laws_hasInt_l xs n hl r (i + 1) h3) ?_
      have : ¬ n = t := fun e => c e.symm
      simp [this]
theorem laws_hasInt_ev {xs : List Int} {n : Int} (hl : xs.length ≤ 1000000) : Ev (fun k => laws_hasInt.f k xs n) (decide (n ∈ xs)) := by
  unfold laws_hasInt.f
  exact laws_hasInt_l xs n hl xs 0 rfl

/-- What a reader reads: bytes, not too many. -/
def BY (b : List Int) : Prop := b.length ≤ 2000 ∧ ∀ x ∈ b, 0 ≤ x ∧ x < 256

theorem BY.rd {b : List Int} (hb : BY b) {i : Int} (h0 : 0 ≤ i) (h1 : i < b.length) : 0 ≤ rd b i ∧ rd b i < 256 := by
  obtain ⟨n, rfl⟩ : ∃ n : Nat, i = n := ⟨i.toNat, by omega⟩
  exact hb.2 _ (rd_mem (by omega))

theorem xor_i64 (a b : Nat) (ha : a < 9223372036854775808) (hb : b < 9223372036854775808) : Go.bits .xor .i64 (a : Int) (b : Int) = ((a ^^^ b : Nat) : Int) := by
  have hx : a ^^^ b < 2 ^ 63 := Nat.xor_lt_two_pow (by omega) (by omega)
  have h1 : (BitVec.ofInt 64 (a : Int)).toNat = a := by
    rw [BitVec.ofInt_natCast, BitVec.toNat_ofNat]; exact Nat.mod_eq_of_lt (by omega)
  have h2 : (BitVec.ofInt 64 (b : Int)).toNat = b := by
    rw [BitVec.ofInt_natCast, BitVec.toNat_ofNat]; exact Nat.mod_eq_of_lt (by omega)
  show IntKind.i64.wrap ((BitVec.ofInt 64 (a : Int) ^^^ BitVec.ofInt 64 (b : Int)).toNat : Int) = _
  rw [BitVec.toNat_xor, h1, h2]
  simp [IntKind.wrap, IntKind.bits, IntKind.signed]
  omega

/-- What lies behind the end. -/
def mixX (b : List Int) (q : Int) : Int := rd b (Int.tmod q b.length) * 131 + rd b (Int.tmod (q * 7 + 3) b.length) * 1117 + q * 29 + Int.tdiv q b.length * 53

theorem pick_ev {b : List Int} (hb : BY b) {n p : Int} (hn : 1 ≤ n) (hp : 0 ≤ p) (hp2 : p ≤ 1000000000) :
    ∃ r, 0 ≤ r ∧ r < n ∧ Ev (fun k => spec_l6Rd_pick.f k b p n) (r, p + 1) := by
  have hl := hb.1
  by_cases h0 : b.length = 0
  · refine ⟨0, by omega, by omega, ?_⟩
    unfold spec_l6Rd_pick.f
    refine Ev.neg (by omega) ?_
    refine Ev.succ ?_
    simp only [spec_l6Rd_pick.j0]
    refine Ev.pos (by simp [h0]) ?_
    rw [w64 (by omega) (by omega)]
    exact Ev.now _
  · by_cases hlt : p < b.length
    · have hr := hb.rd hp hlt
      refine ⟨Int.tmod (rd b p) n, ?_, ?_, ?_⟩
      · exact Int.tmod_nonneg _ hr.1
      · exact Int.tmod_lt_of_pos _ (by omega)
      · unfold spec_l6Rd_pick.f
        refine Ev.neg (by omega) ?_
        refine Ev.succ ?_
        simp only [spec_l6Rd_pick.j0]
        refine Ev.neg (by simp only [beq_iff_eq]; omega) ?_
        have e : wrap64 (wrap64 (p + 1) - 1) = p := by rw [w64 (x := p + 1) (by omega) (by omega), w64 (by omega) (by omega)]; omega
        rw [e]
        refine Ev.pos hlt (Ev.pos hp (Ev.neg (by omega) ?_))
        rw [w64 (by omega) (by omega), w64 (by omega) (by omega)]
        exact Ev.now _
    · have hlp : (0 : Int) < b.length := by omega
      have t1 : 0 ≤ Int.tmod p b.length := Int.tmod_nonneg _ hp
      have t2 : Int.tmod p b.length < b.length := Int.tmod_lt_of_pos _ hlp
      have t3 : 0 ≤ Int.tmod (p * 7 + 3) b.length := Int.tmod_nonneg _ (by omega)
      have t4 : Int.tmod (p * 7 + 3) b.length < b.length := Int.tmod_lt_of_pos _ hlp
      have r1 := hb.rd t1 t2
      have r2 := hb.rd t3 t4
      have d1 : 0 ≤ Int.tdiv p b.length := Int.tdiv_nonneg hp (by omega)
      have d2 : Int.tdiv p b.length ≤ p := by rw [Int.tdiv_eq_ediv_of_nonneg hp]; exact Int.ediv_le_self _ hp
      have x0 : 0 ≤ mixX b p := by unfold mixX; omega
      have x1 : mixX b p ≤ 900000000000 := by unfold mixX; omega
      have x2 : Int.tdiv (mixX b p) 64 = mixX b p / 64 := Int.tdiv_eq_ediv_of_nonneg x0
      have x3 : Go.bits .xor .i64 (mixX b p) (Int.tdiv (mixX b p) 64) = ((mixX b p).toNat ^^^ (mixX b p / 64).toNat : Nat) := by
        rw [x2]
        have := xor_i64 (mixX b p).toNat (mixX b p / 64).toNat (by omega) (by omega)
        rwa [Int.toNat_of_nonneg x0, Int.toNat_of_nonneg (by omega)] at this
      refine ⟨Int.tmod (Go.bits .xor .i64 (mixX b p) (Int.tdiv (mixX b p) 64)) n, ?_, ?_, ?_⟩
      · rw [x3]; exact Int.tmod_nonneg _ (by omega)
      · exact Int.tmod_lt_of_pos _ (by omega)
      · unfold spec_l6Rd_pick.f
        refine Ev.neg (by omega) ?_
        refine Ev.succ ?_
        simp only [spec_l6Rd_pick.j0]
        refine Ev.neg (by simp only [beq_iff_eq]; omega) ?_
        have e : wrap64 (wrap64 (p + 1) - 1) = p := by rw [w64 (x := p + 1) (by omega) (by omega), w64 (by omega) (by omega)]; omega
        rw [e]
        have e7 : wrap64 (wrap64 (p * 7) + 3) = p * 7 + 3 := by rw [w64 (x := p * 7) (by omega) (by omega), w64 (by omega) (by omega)]
        rw [e7]
        refine Ev.neg (by omega) (Ev.neg (by omega) (Ev.pos t1 (Ev.pos t2 (Ev.pos t3 (Ev.pos t4 (Ev.neg (by omega) ?_))))))
        have em : wrap64 (wrap64 (wrap64 (wrap64 (wrap64 (rd b (Int.tmod p b.length)) * 131) + wrap64 (wrap64 (rd b (Int.tmod (p * 7 + 3) b.length)) * 1117)) + wrap64 (p * 29)) + wrap64 (wrap64 (Int.tdiv p b.length) * 53)) = mixX b p := by
          unfold mixX
          generalize rd b (Int.tmod p b.length) = A at *
          generalize rd b (Int.tmod (p * 7 + 3) b.length) = B at *
          generalize Int.tdiv p b.length = D at *
          simp (disch := omega) only [w64]
        rw [em, w64 (x := Int.tdiv (mixX b p) 64) (by omega) (by omega), w64 (by omega) (by omega)]
        exact Ev.now _

theorem wf64 {a : Int} (h : (Lit.int .i64 a).wf = true) : -9223372036854775808 ≤ a ∧ a ≤ 9223372036854775807 := by
  simp [Lit.wf, IntKind.min, IntKind.max, IntKind.bits, IntKind.signed] at h
  omega
theorem wf8 {a : Int} (h : (Lit.int .u8 a).wf = true) : 0 ≤ a ∧ a < 256 := by
  simp [Lit.wf, IntKind.min, IntKind.max, IntKind.bits, IntKind.signed] at h
  omega

theorem spec_l6Open_ev {l : List Int} (hw : ∀ x ∈ l, (Lit.int .u8 x).wf = true) : ∃ b, BY b ∧ spec_l6Open.f l = some (b, 0) := by
  unfold spec_l6Open.f
  by_cases h : (l.length : Int) > 2000
  · refine ⟨l.take 2000, ⟨by rw [List.length_take]; omega, fun x hx => wf8 (hw x (List.mem_of_mem_take hx))⟩, ?_⟩
    rw [if_pos h, if_pos (by omega)]
  · exact ⟨l, ⟨by omega, fun x hx => wf8 (hw x hx)⟩, by rw [if_neg h]⟩

/-- The terms that are drawn. -/
def Drw (t : Int) : Prop := t.natAbs ∈ [1, 2, 3, 4, 5, 6, 7, 8, 10, 12, 15, 21, 30]
/-- What is drawn as a form: terms of a few sizes; the first one is seldom out of range. -/
def Dr (l : List Int) : Prop := l = [] ∨ ∃ x r, l = x :: r ∧ (Drw x ∨ x = 0 ∨ x = 31) ∧ ∀ t ∈ r, Drw t
theorem rd16 {i : Int} (h0 : 0 ≤ i) (h1 : i < 16) : Drw (rd [1, 2, 3, 5, 6, 7, 1, 10, 12, 3, 15, 4, 21, 1, 30, 8] i) ∧ 1 ≤ rd [1, 2, 3, 5, 6, 7, 1, 10, 12, 3, 15, 4, 21, 1, 30, 8] i ∧ rd [1, 2, 3, 5, 6, 7, 1, 10, 12, 3, 15, 4, 21, 1, 30, 8] i ≤ 30 := by
  have : ∀ n : Nat, n < 16 → Drw (rd [1, 2, 3, 5, 6, 7, 1, 10, 12, 3, 15, 4, 21, 1, 30, 8] (n : Int)) ∧ 1 ≤ rd [1, 2, 3, 5, 6, 7, 1, 10, 12, 3, 15, 4, 21, 1, 30, 8] (n : Int) ∧ rd [1, 2, 3, 5, 6, 7, 1, 10, 12, 3, 15, 4, 21, 1, 30, 8] (n : Int) ≤ 30 := by
    unfold Drw rd
    decide
  have h := this i.toNat (by omega)
  rwa [Int.toNat_of_nonneg h0] at h
theorem Drw.neg {t : Int} (h : Drw t) : Drw (-t) := by unfold Drw at *; rwa [Int.natAbs_neg]
theorem l91Form_l {b : List Int} (hb : BY b) (m : Nat) (hm : m ≤ 100) : ∀ (d : Nat) (o : List Int) (i : Nat) (p : Int), i + d = m → o.length = i → (∀ t ∈ o, Drw t) → 0 < m → 0 ≤ p → p + 2 * d + 2 ≤ 1000000 →
    ∃ r q, Dr r ∧ r.length ≤ m ∧ p ≤ q ∧ q ≤ p + 2 * d + 2 ∧ Ev (fun k => spec_l91Form.l0 k o (m : Int) (i : Int) b p) (r, q) := by
  intro d
  induction d with
  | zero =>
    intro o i p hi ho ht h0 hp hp2
    obtain ⟨r1, a1, a2, e1⟩ := pick_ev hb (n := 40) (p := p) (by omega) hp (by omega)
    have hne : o ≠ [] := by intro e; subst e; simp at ho; omega
    obtain ⟨x, r, rfl⟩ : ∃ x r, o = x :: r := List.exists_cons_of_ne_nil hne
    by_cases c1 : r1 = 0
    · obtain ⟨r2, a3, a4, e2⟩ := pick_ev hb (n := 2) (p := p + 1) (by omega) (by omega) (by omega)
      refine ⟨rd [0, 31] r2 :: r, p + 1 + 1, .inr ⟨_, _, rfl, ?_, fun t h => ht t (by simp [h])⟩, by simp at ho ⊢; omega, by omega, by omega, ?_⟩
      · rcases (by omega : r2 = 0 ∨ r2 = 1) with rfl | rfl
        · exact .inr (.inl rfl)
        · exact .inr (.inr rfl)
      · refine Ev.succ ?_
        simp only [spec_l91Form.l0]
        refine Ev.neg (by omega) (Ev.bind e1 (Ev.pos c1 (Ev.sbind (Ev.bind e2 ?_))))
        refine Ev.pos a3 (Ev.pos (by simp; omega) (Ev.pos (by simp only [List.length_cons]; omega) ?_))
        exact Ev.ret rfl
    · by_cases c2 : r1 = 1
      · refine ⟨[], p + 1, .inl rfl, by simp, by omega, by omega, ?_⟩
        refine Ev.succ ?_
        simp only [spec_l91Form.l0]
        exact Ev.neg (by omega) (Ev.bind e1 (Ev.neg c1 (Ev.pos c2 (Ev.now _))))
      · refine ⟨x :: r, p + 1, .inr ⟨x, r, rfl, .inl (ht x (by simp)), fun t h => ht t (by simp [h])⟩, by simp at ho ⊢; omega, by omega, by omega, ?_⟩
        refine Ev.succ ?_
        simp only [spec_l91Form.l0]
        exact Ev.neg (by omega) (Ev.bind e1 (Ev.neg c1 (Ev.neg c2 (Ev.now _))))
  | succ d ih =>
    intro o i p hi ho ht h0 hp hp2
    obtain ⟨r1, a1, a2, e1⟩ := pick_ev hb (n := 16) (p := p) (by omega) hp (by omega)
    obtain ⟨r2, a3, a4, e2⟩ := pick_ev hb (n := 5) (p := p + 1) (by omega) (by omega) (by omega)
    obtain ⟨t1, t2, t3⟩ := rd16 a1 a2
    have step : ∃ y, Drw y ∧ ∀ r q, Ev (fun k => spec_l91Form.l0 k (o ++ [y]) (m : Int) ((i + 1 : Nat) : Int) b (p + 1 + 1)) (r, q) → Ev (fun k => spec_l91Form.l0 k o (m : Int) (i : Int) b p) (r, q) := by
      by_cases c : r2 < 2
      · refine ⟨-(rd [1, 2, 3, 5, 6, 7, 1, 10, 12, 3, 15, 4, 21, 1, 30, 8] r1), t1.neg, fun r q h => ?_⟩
        refine Ev.succ ?_
        simp only [spec_l91Form.l0]
        refine Ev.pos (by omega) (Ev.sbind (Ev.bind e1 (Ev.pos a1 (Ev.pos (by simp; omega) (Ev.bind e2 (Ev.pos c (Ev.pos (by omega) ?_)))))))
        dsimp only
        rw [w64 (x := (i : Int) + 1) (by omega) (by omega), w64 (by omega) (by omega), cast_succ]
        exact h
      · refine ⟨rd [1, 2, 3, 5, 6, 7, 1, 10, 12, 3, 15, 4, 21, 1, 30, 8] r1, t1, fun r q h => ?_⟩
        refine Ev.succ ?_
        simp only [spec_l91Form.l0]
        refine Ev.pos (by omega) (Ev.sbind (Ev.bind e1 (Ev.pos a1 (Ev.pos (by simp; omega) (Ev.bind e2 (Ev.neg c (Ev.pos (by omega) ?_)))))))
        dsimp only
        rw [w64 (x := (i : Int) + 1) (by omega) (by omega), cast_succ]
        exact h
    obtain ⟨y, hy, hs⟩ := step
    obtain ⟨r, q, h1, h2, h3, h4, h5⟩ := ih (o ++ [y]) (i + 1) (p + 1 + 1) (by omega) (by simp [ho]) (by
      intro t h
      rcases List.mem_append.1 h with h | h
      · exact ht t h
      · rw [List.mem_singleton.1 h]; exact hy) h0 (by omega) (by omega)
    exact ⟨r, q, h1, h2, by omega, by omega, hs r q h5⟩
/-- A drawn form. -/
theorem spec_l91Form_ev {b : List Int} (hb : BY b) {n p : Int} (hn : 1 ≤ n) (hn2 : n ≤ 50) (hp : 0 ≤ p) (hp2 : p ≤ 900000) :
    ∃ r q, Dr r ∧ (r.length : Int) ≤ n ∧ p ≤ q ∧ q ≤ p + 2 * n + 3 ∧ Ev (fun k => spec_l91Form.f k b p n) (r, q) := by
  obtain ⟨r1, a1, a2, e1⟩ := pick_ev hb (n := n) (p := p) hn hp (by omega)
  obtain ⟨m, hm⟩ : ∃ m : Nat, 1 + r1 = m := ⟨(1 + r1).toNat, by omega⟩
  obtain ⟨r, q, h1, h2, h3, h4, h5⟩ := l91Form_l hb m (by omega) m [] 0 (p + 1) (by omega) rfl (by simp) (by omega) (by omega) (by omega)
  refine ⟨r, q, h1, by omega, by omega, by omega, ?_⟩
  unfold spec_l91Form.f
  refine Ev.bind e1 ?_
  dsimp only
  rw [w64 (by omega) (by omega), hm]
  exact h5
theorem Drw.bd {t : Int} (h : Drw t) : t ≠ 0 ∧ -30 ≤ t ∧ t ≤ 30 := by
  unfold Drw at h
  simp only [List.mem_cons, List.not_mem_nil, or_false] at h
  omega
theorem Dr.md {l : List Int} (h : Dr l) (hl : l.length ≤ 1000) : Md l := by
  refine ⟨by omega, fun t ht => ?_⟩
  rcases h with rfl | ⟨x, r, rfl, hx, hr⟩
  · simp at ht
  · rcases List.mem_cons.1 ht with rfl | ht
    · rcases hx with hx | rfl | rfl
      · have := hx.bd; omega
      · omega
      · omega
    · have := (hr t ht).bd; omega
/-- Of a drawn form, the terms are drawn ones. -/
theorem Dr.terms {l : List Int} (h : Dr l) (hv : fv l = true) : ∀ t ∈ l, Drw t := by
  obtain ⟨h1, _⟩ := fv_iff.1 hv
  intro t ht
  rcases h with rfl | ⟨x, r, rfl, hx, hr⟩
  · simp at ht
  · rcases List.mem_cons.1 ht with rfl | ht
    · rcases hx with hx | rfl | rfl
      · exact hx
      · have := h1 0 (by simp); omega
      · have := h1 31 (by simp); omega
    · exact hr t ht

/-- The places that are drawn. -/
def DP (p : Int) : Prop := p ∈ [0, 1, 4, -3, 97, 9, 2, 3, 5, 7, 11, 13]
theorem DP.bd {p : Int} (h : DP p) : -3 ≤ p ∧ p ≤ 97 := by
  unfold DP at h
  simp only [List.mem_cons, List.not_mem_nil, or_false] at h
  omega
theorem rd6p {i : Int} (h0 : 0 ≤ i) (h1 : i < 6) : DP (rd [0, 1, 4, -3, 97, 9] i) := by
  unfold DP
  rcases (by omega : i = 0 ∨ i = 1 ∨ i = 2 ∨ i = 3 ∨ i = 4 ∨ i = 5) with rfl | rfl | rfl | rfl | rfl | rfl <;> decide
theorem rd8p {i : Int} (h0 : 0 ≤ i) (h1 : i < 8) : DP (rd [2, 3, 5, 7, 11, 13, 3, 2] i) := by
  unfold DP
  rcases (by omega : i = 0 ∨ i = 1 ∨ i = 2 ∨ i = 3 ∨ i = 4 ∨ i = 5 ∨ i = 6 ∨ i = 7) with rfl | rfl | rfl | rfl | rfl | rfl | rfl | rfl <;> decide
theorem spec_l91Prime_ev {b : List Int} (hb : BY b) {p : Int} (hp : 0 ≤ p) (hp2 : p ≤ 900000) : ∃ n q, DP n ∧ p ≤ q ∧ q ≤ p + 2 ∧ Ev (fun k => spec_l91Prime.f k b p) (n, q) := by
  obtain ⟨r1, a1, a2, e1⟩ := pick_ev hb (n := 24) (p := p) (by omega) hp (by omega)
  unfold spec_l91Prime.f
  by_cases c : r1 = 0
  · obtain ⟨r2, a3, a4, e2⟩ := pick_ev hb (n := 6) (p := p + 1) (by omega) (by omega) (by omega)
    exact ⟨_, p + 1 + 1, rd6p a3 a4, by omega, by omega, Ev.bind e1 (Ev.pos c (Ev.sbind (Ev.bind e2 (Ev.pos a3 (Ev.pos (by simp; omega) (Ev.now _))))))⟩
  · obtain ⟨r2, a3, a4, e2⟩ := pick_ev hb (n := 8) (p := p + 1) (by omega) (by omega) (by omega)
    exact ⟨_, p + 1 + 1, rd8p a3 a4, by omega, by omega, Ev.bind e1 (Ev.neg c (Ev.sbind (Ev.bind e2 (Ev.pos a3 (Ev.pos (by simp; omega) (Ev.now _))))))⟩
theorem spec_l91Place_ev {b : List Int} (hb : BY b) {p : Int} (hp : 0 ≤ p) (hp2 : p ≤ 800000) : ∃ n q, DP n ∧ p ≤ q ∧ q ≤ p + 3 ∧ Ev (fun k => spec_l91Place.f k b p) (n, q) := by
  obtain ⟨r1, a1, a2, e1⟩ := pick_ev hb (n := 5) (p := p) (by omega) hp (by omega)
  unfold spec_l91Place.f
  by_cases c : r1 = 0
  · exact ⟨0, p + 1, by unfold DP; decide, by omega, by omega, Ev.bind e1 (Ev.pos c (Ev.now _))⟩
  · obtain ⟨n, q, h1, h2, h3, h4⟩ := spec_l91Prime_ev hb (p := p + 1) (by omega) (by omega)
    exact ⟨n, q, h1, by omega, by omega, Ev.bind e1 (Ev.neg c (Ev.bind h4 (Ev.now _)))⟩

theorem smx_abs (t : Int) : mx t (-t) = (t.natAbs : Int) := by unfold mx; split <;> omega
theorem spec_l1Size_eq {t : Int} (h : t.natAbs ≤ 1000000000000) : spec_l1Size.f t = some (t.natAbs : Int) := by
  unfold spec_l1Size.f
  rw [w64 (by omega) (by omega), smx_abs]

theorem ssq_small {p : Int} (h0 : 0 ≤ p) (h : p ≤ 1000001) : 0 ≤ p * p ∧ p * p ≤ 1000002000001 := by
  have h1 : p * p ≤ 1000001 * 1000001 := Int.mul_le_mul h h (by omega) (by omega)
  have h2 := Int.mul_nonneg h0 h0
  omega
theorem ssq_lt {p n : Int} (h : p * p ≤ n) (hn : n ≤ 1000000000000) (h0 : 0 ≤ p) : p ≤ 1000000 := by
  rcases Int.lt_or_le 1000000 p with h' | h'
  · have : 1000001 * 1000001 ≤ p * p := Int.mul_le_mul (by omega) (by omega) (by omega) (by omega)
    omega
  · exact h'
theorem spec_l1Primes_in {L out : List Int} {p : Int} (h2 : 2 ≤ p) (h3 : p ≤ 1000001) : ∀ (d : Nat) (n : Int), n ≠ 0 → n.natAbs ≤ d → d ≤ 1000000000000 →
    Ev (fun k => spec_l1Primes.l0 k (Nt.un n p) out (p + 1)) L → Ev (fun k => spec_l1Primes.l1 k n out p) L := by
  intro d
  induction d with
  | zero => intro n h0 hd; omega
  | succ d ih =>
    intro n h0 hd hd2 h
    refine Ev.succ ?_
    simp only [spec_l1Primes.l1]
    by_cases ht : Int.tmod n p = 0
    · obtain ⟨a1, a2, a3, a4⟩ := div_facts h2 h0 ht
      rw [w64 (x := Int.tdiv n p) (by omega) (by omega)]
      refine Ev.neg (by omega) (Ev.pos ht (ih (Int.tdiv n p) a1 (by omega) (by omega) ?_))
      rw [← a4]; exact h
    · obtain ⟨a1, a2⟩ := div_none h2 h0 ht
      rw [w64 (x := p + 1) (by omega) (by omega)]
      refine Ev.neg (by omega) (Ev.neg ht ?_)
      rw [a2] at h; exact h
theorem spec_l1Primes_l {N : Int} (hN : N ≤ 1000000000000) : ∀ (d : Nat) (n p : Int) (out : List Int), (1000001 - p).toNat ≤ d → 2 ≤ p → p ≤ 1000001 → (out.length : Int) ≤ p → Nt.St N n p out →
    ∃ L, Nt.IsPL N L ∧ Ev (fun k => spec_l1Primes.l0 k n out p) L := by
  intro d
  induction d with
  | zero =>
    intro n p out hd h2 h3 ho hS
    have hs := ssq_small (p := p) (by omega) h3
    have hle : n < p * p := by
      have e : p = 1000001 := by omega
      subst e
      have := hS.2.1
      omega
    refine ⟨_, hS.last h2 hle, Ev.succ ?_⟩
    simp only [spec_l1Primes.l0]
    rw [w64 (by omega) (by omega)]
    refine Ev.neg (by omega) ?_
    by_cases hn : n > 1
    · exact Ev.pos hn (Ev.pos (by omega) (Ev.ret (if_pos hn).symm))
    · exact Ev.neg hn (Ev.ret (if_neg hn).symm)
  | succ d ih =>
    intro n p out hd h2 h3 ho hS
    have hs := ssq_small (p := p) (by omega) h3
    have b1 := hS.1
    have b2 := hS.2.1
    by_cases hle : p * p ≤ n
    · have hp6 := ssq_lt hle (by omega) (by omega)
      by_cases hdv : p ∣ n
      · obtain ⟨L, h4, h5⟩ := ih (Nt.un n p) (p + 1) (out ++ [p]) (by omega) (by omega) (by omega) (by simp; omega) (hS.step h2 hdv)
        refine ⟨L, h4, Ev.succ ?_⟩
        simp only [spec_l1Primes.l0]
        rw [w64 (x := p * p) (by omega) (by omega)]
        refine Ev.pos hle (Ev.neg (by omega) (Ev.pos (Nt.tmod_zero_iff.2 hdv) (Ev.pos (by omega) (Ev.succ ?_))))
        simp only [spec_l1Primes.j1]
        exact spec_l1Primes_in h2 h3 _ n (by omega) (Nat.le_refl _) (by omega) h5
      · obtain ⟨L, h4, h5⟩ := ih n (p + 1) out (by omega) (by omega) (by omega) (by omega) (hS.skip hdv)
        refine ⟨L, h4, Ev.succ ?_⟩
        simp only [spec_l1Primes.l0]
        rw [w64 (x := p * p) (by omega) (by omega)]
        refine Ev.pos hle (Ev.neg (by omega) (Ev.neg (fun h => hdv (Nt.tmod_zero_iff.1 h)) (Ev.succ ?_)))
        simp only [spec_l1Primes.j1]
        refine spec_l1Primes_in h2 h3 _ n (by omega) (Nat.le_refl _) (by omega) ?_
        rw [(div_none h2 (by omega) (fun h => hdv (Nt.tmod_zero_iff.1 h))).2]; exact h5
    · refine ⟨_, hS.last h2 (by omega), Ev.succ ?_⟩
      simp only [spec_l1Primes.l0]
      rw [w64 (by omega) (by omega)]
      refine Ev.neg (by omega) ?_
      by_cases hn : n > 1
      · exact Ev.pos hn (Ev.pos (by omega) (Ev.ret (if_pos hn).symm))
      · exact Ev.neg hn (Ev.ret (if_neg hn).symm)
theorem spl_abs {n : Int} {L : List Int} (h : Nt.IsPL (n.natAbs : Int) L) : Nt.IsPL n L := ⟨h.1, fun p => by rw [h.2, Int.dvd_natAbs]⟩
theorem spec_l1Primes_ev {n : Int} (hn : n ≠ 0) (hn2 : n.natAbs ≤ 1000000000000) : ∃ L, Nt.IsPL n L ∧ Ev (fun k => spec_l1Primes.f k n) L := by
  obtain ⟨L, h1, h2⟩ := spec_l1Primes_l (N := (n.natAbs : Int)) (by omega) _ (n.natAbs : Int) 2 [] (Nat.le_refl _) (by omega) (by omega) (by simp) (Nt.St.start (by omega))
  refine ⟨L, spl_abs h1, ?_⟩
  unfold spec_l1Primes.f
  rw [spec_l1Size_eq (by omega)]
  exact Ev.sbind h2

theorem spec_l2Places_l (L : List Int) (hl : L.length ≤ 1000000) : ∀ (r o : List Int) (i : Nat), o.length ≤ i + 2 → L.drop i = r → Ev (fun k => spec_l2Places.l0 k o L (i : Int)) (o ++ r.filter (fun p => decide (p > 2)))
  | [], o, i, ho, h => by
    have := drop_nil h
    refine Ev.succ ?_
    simp only [spec_l2Places.l0]
    exact Ev.neg (by omega) (Ev.ret (by simp))
  | p :: r, o, i, ho, h => by
    obtain ⟨h1, h2, h3⟩ := drop_cons h
    refine Ev.succ ?_
    simp only [spec_l2Places.l0]
    rw [h2, w64 (by omega) (by omega), cast_succ]
    refine Ev.pos (by omega) (Ev.pos (by omega) ?_)
    by_cases c : p > 2
    · refine Ev.pos c (Ev.pos (by omega) (Ev.to (spec_l2Places_l L hl r (o ++ [p]) (i + 1) (by simp; omega) h3) ?_))
      simp [c]
    · refine Ev.neg c (Ev.to (spec_l2Places_l L hl r o (i + 1) (by omega) h3) ?_)
      simp [c]
theorem pl_len {n : Int} {L : List Int} (h : Nt.IsPL n L) (hn : n ≠ 0) (hn2 : n.natAbs ≤ 1000000000000) : L.length ≤ 1000000 := by
  -- a number of this size has few primes: their product divides it
  have hd := Nt.prod_dvd (l := L) (n := n) (asc_nodup h.1) (fun p hp => (h.2 p).1 hp)
  have hle := Int.le_of_dvd (show 0 < ((n.natAbs : Nat) : Int) by omega) (Int.dvd_natAbs.2 hd)
  have : ∀ l : List Int, (∀ p ∈ l, Nt.Pr p) → (l.length : Int) < 2 ^ l.length ∧ (2 : Int) ^ l.length ≤ Nt.prod l := by
    intro l hp
    induction l with
    | nil => simp [Nt.prod]
    | cons p l ih =>
      obtain ⟨a, b⟩ := ih (fun q hq => hp q (by simp [hq]))
      have h2 := (hp p (by simp)).1
      have : 2 * 2 ^ l.length ≤ p * Nt.prod l := Int.mul_le_mul h2 b (by omega) (by omega)
      simp only [List.length_cons, Int.pow_succ, Nt.prod]
      omega
  obtain ⟨a, b⟩ := this L (fun p hp => ((h.2 p).1 hp).1)
  rcases Nat.lt_or_ge 40 L.length with h4 | h4
  · exfalso
    have : (2 : Int) ^ 41 ≤ 2 ^ L.length := by
      have := Nat.pow_le_pow_right (show 0 < 2 by omega) (show 41 ≤ L.length by omega)
      exact_mod_cast this
    omega
  · omega
theorem spec_l2Places_ev {n : Int} (hn : n ≠ 0) (hn2 : n.natAbs ≤ 1000000000000) : ∃ L, IsPlaces (fun p => p ∣ n) L ∧ Ev (fun k => spec_l2Places.f k n) L := by
  obtain ⟨L, h1, h2⟩ := spec_l1Primes_ev hn hn2
  refine ⟨[0, 2] ++ L.filter (fun p => decide (p > 2)), ⟨?_, fun p => ?_⟩, ?_⟩
  · rw [List.pairwise_append]
    refine ⟨by decide, h1.1.sublist List.filter_sublist, fun a ha b hb => ?_⟩
    have hb2 : b > 2 := by simpa using (List.mem_filter.1 hb).2
    simp at ha
    omega
  · simp only [List.mem_append, List.mem_filter, List.mem_cons, List.not_mem_nil, or_false, decide_eq_true_eq]
    rw [h1.2]
    constructor
    · rintro ((h | h) | ⟨h, h'⟩)
      · exact .inl h
      · exact .inr (.inl h)
      · exact .inr (.inr h)
    · rintro (h | h | h)
      · exact .inl (.inl h)
      · exact .inl (.inr h)
      · by_cases h2 : p = 2
        · exact .inl (.inr h2)
        · exact .inr ⟨h, by have := h.1.1; omega⟩
  · unfold spec_l2Places.f
    refine Ev.bind h2 ?_
    exact spec_l2Places_l L (pl_len h1 hn hn2) L [0, 2] 0 (by simp) rfl

theorem spec_FormPlaces_ev {f S : List Int} (h : fv f = true) (hS : IsPlaces (QT f) S) : Ev (fun k => spec_FormPlaces.f k f) S := by
  obtain ⟨b1, b2⟩ := prod_bd h
  obtain ⟨L, l1, l2⟩ := spec_l2Places_ev b1 (by omega)
  have : S = L := hS.uniq l1 (fun p hp _ => qt_prod hp)
  subst this
  unfold spec_FormPlaces.f
  exact Ev.bind (spec_FormValid_ev (Md.of_fv h)) (Ev.pos h (Ev.bind (spec_l4Product_ev h) (Ev.bind l2 (Ev.now _))))
theorem spec_FormPlaces_no {f : List Int} (h : ¬ fv f = true) (hf : Md f) : Ev (fun k => spec_FormPlaces.f k f) [] := by
  unfold spec_FormPlaces.f
  exact Ev.bind (spec_FormValid_ev hf) (Ev.neg h (Ev.now _))

theorem spec_l91At_ev {b : List Int} (hb : BY b) {p : Int} (hp : 0 ≤ p) (hp2 : p ≤ 700000) :
    ∃ f z q, Dr f ∧ f.length ≤ 4 ∧ -3 ≤ z ∧ z ≤ 97 ∧ Ev (fun k => spec_l91At.f k b p) (f, z, q) := by
  obtain ⟨f, q, h1, h2, h3, h4, h5⟩ := spec_l91Form_ev hb (n := 4) (p := p) (by omega) (by omega) (by omega) (by omega)
  have hM : Md f := h1.md (by omega)
  have other : ∀ (S : List Int) (q : Int), 0 ≤ q → q ≤ 800000 → ∃ z q', -3 ≤ z ∧ z ≤ 97 ∧ Ev (fun k => spec_l91At.j0 k f S false b q) (f, z, q') := by
    intro S q k1 k2
    obtain ⟨z, q', d1, d2, d3, d4⟩ := spec_l91Place_ev hb (p := q) k1 k2
    refine ⟨z, q', d1.bd.1, d1.bd.2, Ev.succ ?_⟩
    simp only [spec_l91At.j0]
    exact Ev.neg (by simp) (Ev.bind d4 (Ev.now _))
  by_cases hv : fv f = true
  · obtain ⟨S, s1, s2, s3, _⟩ := term_places (l := f) (by omega) (fv_terms hv)
    have hS := (s1.2 0).2 (.inl rfl)
    have hpos : 0 < S.length := List.length_pos_of_mem hS
    obtain ⟨x, x1, x2, e1⟩ := pick_ev hb (n := 2) (p := q) (by omega) (by omega) (by omega)
    by_cases c : x = 0
    · obtain ⟨y, y1, y2, e2⟩ := pick_ev hb (n := S.length) (p := q + 1) (by omega) (by omega) (by omega)
      have hm : rd S y ∈ S := by
        have := rd_mem (xs := S) (i := y.toNat) (by omega)
        rwa [Int.toNat_of_nonneg y1] at this
      have hbd := s3 _ hm
      refine ⟨f, rd S y, q + 1 + 1, h1, by omega, by omega, by omega, ?_⟩
      unfold spec_l91At.f
      refine Ev.bind h5 (Ev.bind (spec_FormPlaces_ev hv s1) (Ev.pos (by omega) (Ev.bind e1 (Ev.succ ?_))))
      simp only [spec_l91At.j0]
      exact Ev.pos (by simp [c]) (Ev.bind e2 (Ev.pos y1 (Ev.pos y2 (Ev.now _))))
    · obtain ⟨z, q', z1, z2, e2⟩ := other S (q + 1) (by omega) (by omega)
      refine ⟨f, z, q', h1, by omega, z1, z2, ?_⟩
      unfold spec_l91At.f
      refine Ev.bind h5 (Ev.bind (spec_FormPlaces_ev hv s1) (Ev.pos (by omega) (Ev.bind e1 ?_)))
      dsimp only
      rw [show (x == 0) = false by simp [c]]
      exact e2
  · obtain ⟨z, q', z1, z2, e2⟩ := other [] q (by omega) (by omega)
    refine ⟨f, z, q', h1, by omega, z1, z2, ?_⟩
    unfold spec_l91At.f
    exact Ev.bind h5 (Ev.bind (spec_FormPlaces_no hv hM) (Ev.neg (by simp) e2))

theorem impl_ResidueIs_ev {a p : Int} (hN : isN a = true) (hp : isP p = true) (h2 : p ≠ 2) : Ev (fun k => impl_ResidueIs.f k a p) (Nt.leg a p) := by
  unfold impl_ResidueIs.f
  rw [impl_isNumber_eq]
  have h := isP_iff.1 hp
  exact Ev.sbind (Ev.pos hN (Ev.bind impl_PrimeIs_ev (Ev.pos hp (Ev.neg h2 (Ev.bind (impl_residue_ev h.1 h2 h.2) (Ev.now _))))))

theorem van_one {f : List Int} (h : f.length = 1) (p : Int) : Nt.van p f = false := by
  have := Nt.ng_le f
  unfold Nt.van
  by_cases c : p = 0
  · rw [if_pos c, decide_eq_false_iff_not]; omega
  · rw [if_neg c, if_neg (by omega), if_neg (by omega), if_neg (by omega)]

theorem van_unit2 {a b p : Int} (hp : Nt.Pr p) (h2 : p ≠ 2) (ha : ¬ p ∣ a) (hb : ¬ p ∣ b) (hz : a ≠ 0 ∧ b ≠ 0) : Nt.van p [a, b] = (Nt.leg (-(a * b)) p == 1) := by
  have h1 := hp.1
  have hn : ¬ p ∣ -(a * b) := fun e => (hp.dvd_mul (Int.dvd_neg.1 e)).elim ha hb
  have hne : -(a * b) ≠ 0 := by have := Int.mul_ne_zero hz.1 hz.2; omega
  have e : Nt.prod [a, b] = a * b := by simp [Nt.prod]
  obtain ⟨v1, v2⟩ := Nt.vl_unit h1 hne hn
  unfold Nt.van
  rw [if_neg (by omega), if_pos (by simp), e]
  unfold Nt.lsq
  rw [if_neg (by omega), v1, if_pos (by omega), if_neg h2, v2]
theorem van_unit3 {f : List Int} {p : Int} (hp : Nt.Pr p) (h2 : p ≠ 2) (hf : ∀ t ∈ f, ¬ p ∣ t) (h3 : 3 ≤ f.length) (h4 : f.length ≤ 4) : Nt.van p f = true := by
  have h1 := hp.1
  unfold Nt.van
  rw [if_neg (by omega), if_neg (by omega), Nt.inv_unit hp h2 hf]
  by_cases c : f.length = 3
  · rw [if_pos c, Nt.hil_unit hp h2 (Nt.hn1 hp) (fun e => Nt.prod_unit hp hf (Int.dvd_neg.1 e))]; rfl
  · rw [if_neg c, if_pos (by omega), Nt.hil_unit hp h2 (Nt.hn1 hp) (Nt.hn1 hp)]; simp
theorem vo_true {f : List Int} {z : Int} {o : Bool} : Ev (fun k => laws_FnVanishOdd.j0 k f z o true) true := by
  refine Ev.succ ?_
  simp only [laws_FnVanishOdd.j0]
  exact Ev.pos (by simp) (Ev.now _)
theorem the : laws_FnVanishOdd.Pure := by
  intro l _ _ hl
  refine Ev.rounds ?_
  unfold laws_FnVanishOdd.f
  by_cases h : (l.length : Int) > 1048576
  · exact Ev.pos h (Ev.now _)
  · obtain ⟨b, hb, ho⟩ := spec_l6Open_ev hl
    obtain ⟨f, z, q, h1, h2, h3, h4, h5⟩ := spec_l91At_ev hb (p := 0) (by omega) (by omega)
    have hd : Ev (fun k => spec_DrawFormVanishes.f k l) (f, z) := by
      unfold spec_DrawFormVanishes.f
      rw [ho]
      exact Ev.sbind (Ev.bind h5 (Ev.now _))
    have hM : Md f := h1.md (by omega)
    refine Ev.neg h (Ev.bind hd (Ev.bind (impl_FormVanishes_ev hM) (Ev.bind (spec_FormVanishes_ev hM) (Ev.neg (by simp) ?_))))
    dsimp only
    by_cases hv : fv f = true
    · obtain ⟨S, s1, s2, s3, _⟩ := term_places (l := f) (by omega) (fv_terms hv)
      have hpos : 0 < S.length := List.length_pos_of_mem ((s1.2 0).2 (.inl rfl))
      refine Ev.bind (impl_FormPlaces_ev hv s1) (Ev.neg (by omega) ?_)
      by_cases c : z < 3
      · exact Ev.pos c vo_true
      · refine Ev.neg c (Ev.bind impl_PrimeIs_ev ?_)
        by_cases c2 : isP z = true
        · have hz := isP_iff.1 c2
          have hP : isPl z = true := isPl_iff.2 (.inr hz)
          refine Ev.pos c2 (Ev.bind (laws_hasInt_ev (by omega)) ?_)
          rw [fvan_of hv hP]
          by_cases c3 : z ∈ S
          · rw [show decide (z ∈ S) = true by simpa using c3]; exact vo_true
          · rw [show decide (z ∈ S) = false by simpa using c3]
            have hu : ∀ t ∈ f, ¬ z ∣ t := fun t ht hd => c3 ((s1.2 z).2 (.inr (.inr ⟨hz.1, t, ht, hd⟩)))
            have hlen := fv_len hv
            refine Ev.succ ?_
            simp only [laws_FnVanishOdd.j0]
            refine Ev.neg (by simp) ?_
            by_cases c1 : f.length = 1
            · exact Ev.pos (by omega) (Ev.ret (by rw [van_one c1]; rfl))
            · refine Ev.neg (by omega) ?_
              by_cases c2 : f.length = 2
              · obtain ⟨a, d, rfl⟩ : ∃ a d, f = [a, d] := by
                  match f, c2 with
                  | [a, d], _ => exact ⟨a, d, rfl⟩
                have ba := fv_bd hv a (by simp)
                have bd := fv_bd hv d (by simp)
                have na := fv_nz hv a (by simp)
                have nd := fv_nz hv d (by simp)
                have hm : (a * d).natAbs ≤ 900 := by
                  rw [Int.natAbs_mul]
                  exact Nat.le_trans (Nat.mul_le_mul ba bd) (by omega)
                refine Ev.pos (by simp) (Ev.pos (by simp) (Ev.pos (by simp) ?_))
                rw [show rd [a, d] 0 = a from rfl, show rd [a, d] 1 = d from rfl, w64 (x := a * d) (by omega) (by omega), w64 (by omega) (by omega)]
                refine Ev.bind (impl_ResidueIs_ev (isN_iff.2 (by omega)) (isP_iff.2 hz) (by omega)) (Ev.ret ?_)
                rw [van_unit2 hz.1 (by omega) (hu a (by simp)) (hu d (by simp)) ⟨na, nd⟩]
                simp
              · exact Ev.neg (by omega) (Ev.ret (van_unit3 hz.1 (by omega) hu (by omega) (by omega)))
        · exact Ev.neg c2 vo_true
    · exact Ev.bind (impl_FormPlaces_no hv hM) (Ev.pos (by simp) vo_true)

end Go.Proofs.Ytbfnkfnapfaimaa.KFnVanishOdd

/- Primes among the integers: what a prime divides, products of lists. -/
namespace Go.Proofs.Ytkbklmlahnjcmaa.Nt

/-- A prime. -/
def Pr (p : Int) : Prop := 2 ≤ p ∧ ∀ m : Int, 1 < m → m ∣ p → m = p

theorem bez (a b : Nat) : ∃ x y : Int, x * a + y * b = (Nat.gcd a b : Nat) := by
  induction a, b using Nat.gcd.induction with
  | H0 n => exact ⟨0, 1, by simp⟩
  | H1 m n hm ih =>
    obtain ⟨x, y, h⟩ := ih
    rw [Nat.gcd_rec]
    refine ⟨y - x * ((n / m : Nat) : Int), x, ?_⟩
    rw [← h]
    have e : (n : Int) = m * ((n / m : Nat) : Int) + ((n % m : Nat) : Int) := by exact_mod_cast (Nat.div_add_mod n m).symm
    generalize ((n / m : Nat) : Int) = d at *
    generalize ((n % m : Nat) : Int) = r at *
    rw [e]
    grind

theorem Pr.pos {p : Int} (hp : Pr p) : 0 < p := by have := hp.1; omega

theorem inv_ex {p a : Int} (hp : Pr p) (ha : ¬ p ∣ a) : ∃ x, p ∣ x * a - 1 := by
  obtain ⟨x, y, h⟩ := bez a.natAbs p.natAbs
  have hg : Nat.gcd a.natAbs p.natAbs = 1 := by
    have h1 : ((Nat.gcd a.natAbs p.natAbs : Nat) : Int) ∣ p := Int.ofNat_dvd_left.2 (Nat.gcd_dvd_right _ _)
    have h2 : ((Nat.gcd a.natAbs p.natAbs : Nat) : Int) ∣ a := Int.ofNat_dvd_left.2 (Nat.gcd_dvd_left _ _)
    have h0 : 0 < Nat.gcd a.natAbs p.natAbs := Nat.gcd_pos_of_pos_right _ (by have := hp.1; omega)
    by_cases h3 : (1 : Int) < (Nat.gcd a.natAbs p.natAbs : Nat)
    · exact absurd (hp.2 _ h3 h1 ▸ h2) ha
    · omega
  rw [hg] at h
  have hpp : ((p.natAbs : Nat) : Int) = p := Int.natAbs_of_nonneg (by have := hp.1; omega)
  rw [hpp] at h
  rcases Int.natAbs_eq a with e | e
  · refine ⟨x, -y, ?_⟩
    rw [← e] at h
    grind
  · refine ⟨-x, -y, ?_⟩
    have e2 : ((a.natAbs : Nat) : Int) = -a := by omega
    rw [e2] at h
    grind

theorem Pr.dvd_mul {p a b : Int} (hp : Pr p) (h : p ∣ a * b) : p ∣ a ∨ p ∣ b := by
  by_cases ha : p ∣ a
  · exact .inl ha
  · obtain ⟨x, c, hc⟩ := inv_ex hp ha
    obtain ⟨d, hd⟩ := h
    refine .inr ⟨x * d - c * b, ?_⟩
    grind

theorem Pr.not_dvd_one {p : Int} (hp : Pr p) : ¬ p ∣ 1 := by
  intro h
  have := Int.le_of_dvd (by omega) h
  have := hp.1
  omega

theorem Pr.dvd_pow {p a : Int} (hp : Pr p) : ∀ {n : Nat}, p ∣ a ^ n → p ∣ a
  | 0, h => absurd (by simpa using h) hp.not_dvd_one
  | n + 1, h => by
    rw [Int.pow_succ] at h
    rcases hp.dvd_mul h with h | h
    · exact hp.dvd_pow h
    · exact h

/-- The product of a list. -/
def prod : List Int → Int
  | [] => 1
  | x :: l => x * prod l

theorem prod_erase {x : Int} : ∀ {l : List Int}, x ∈ l → prod l = x * prod (l.erase x)
  | [], h => by simp at h
  | y :: l, h => by
    by_cases e : y = x
    · subst e; simp [prod]
    · have hx : x ∈ l := by simpa [Ne.symm e] using h
      rw [List.erase_cons_tail (by simpa using e)]
      simp only [prod]
      rw [prod_erase hx]
      grind

theorem eq_of_dvd {p x y : Int} (hx : 0 ≤ x) (hx' : x < p) (hy : 0 ≤ y) (hy' : y < p) (h : p ∣ x - y) : x = y := by
  obtain ⟨c, hc⟩ := h
  rcases Int.lt_trichotomy c 0 with h0 | h0 | h0
  · have : p * c ≤ p * (-1) := Int.mul_le_mul_of_nonneg_left (by omega) (by omega)
    omega
  · subst h0; omega
  · have : p * 1 ≤ p * c := Int.mul_le_mul_of_nonneg_left (by omega) (by omega)
    omega

theorem rest_dvd (p x : Int) : p ∣ x % p - x := ⟨-(x / p), by have := Int.mul_ediv_add_emod x p; grind⟩
theorem odd_ge {p : Int} (hp : Pr p) (h2 : p ≠ 2) : 3 ≤ p := by have := hp.1; omega
theorem odd_odd {p : Int} (hp : Pr p) (h2 : p ≠ 2) : p % 2 = 1 := by
  rcases (by omega : p % 2 = 0 ∨ p % 2 = 1) with h | h
  · exact absurd (hp.2 2 (by omega) (Int.dvd_of_emod_eq_zero h)).symm h2
  · exact h
end Go.Proofs.Ytkbklmlahnjcmaa.Nt

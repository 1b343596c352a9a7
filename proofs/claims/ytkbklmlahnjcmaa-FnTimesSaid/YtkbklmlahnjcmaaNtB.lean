/- How often a number divides; trial division; lists told by their members. -/
import Derived.Test.YtkbklmlahnjcmaaNt0
namespace Go.Proofs.Ytkbklmlahnjcmaa.Nt

def vlF : Nat → Int → Int → Nat
  | 0, _, _ => 0
  | f + 1, n, p => if n % p = 0 then vlF f (n / p) p + 1 else 0
/-- How often p divides n. -/
def vl (n p : Int) : Nat := vlF n.natAbs n p
/-- What is left. -/
def un (n p : Int) : Int := n / p ^ vl n p

theorem abs_div_lt {n p : Int} (hp : 2 ≤ p) (hn : n ≠ 0) (h : n % p = 0) : (n / p).natAbs < n.natAbs ∧ n / p ≠ 0 := by
  obtain ⟨c, hc⟩ := Int.dvd_of_emod_eq_zero h
  have e : n / p = c := by rw [hc, Int.mul_ediv_cancel_left _ (by omega)]
  rw [e]
  have hc0 : c ≠ 0 := by intro e; subst e; simp at hc; exact hn hc
  refine ⟨?_, hc0⟩
  rw [hc, Int.natAbs_mul]
  have h1 : 2 ≤ p.natAbs := by omega
  have h2 : 0 < c.natAbs := by omega
  have := Nat.mul_le_mul_right c.natAbs h1
  omega

theorem vlF_spec {p : Int} (hp : 2 ≤ p) : ∀ (f : Nat) (n : Int), n ≠ 0 → n.natAbs ≤ f → ∃ u, n = u * p ^ vlF f n p ∧ ¬ p ∣ u
  | 0, n, hn, h => absurd h (by omega)
  | f + 1, n, hn, h => by
    unfold vlF
    split
    · rename_i hz
      obtain ⟨h1, h2⟩ := abs_div_lt hp hn hz
      obtain ⟨u, hu, hd⟩ := vlF_spec hp f (n / p) h2 (by omega)
      refine ⟨u, ?_, hd⟩
      rw [Int.pow_succ, ← Int.mul_assoc, ← hu, Int.ediv_mul_cancel_of_emod_eq_zero hz]
    · rename_i hz
      exact ⟨n, by simp, fun hd => hz (Int.emod_eq_zero_of_dvd hd)⟩

theorem pow_pos' {p : Int} (hp : 2 ≤ p) (k : Nat) : 0 < p ^ k := Int.pow_pos (by omega)

theorem vl_spec {n p : Int} (hp : 2 ≤ p) (hn : n ≠ 0) : n = un n p * p ^ vl n p ∧ ¬ p ∣ un n p := by
  obtain ⟨u, hu, hd⟩ := vlF_spec hp n.natAbs n hn (Nat.le_refl _)
  have e : un n p = u := by
    unfold un
    have : n / p ^ vl n p = u * p ^ vl n p / p ^ vl n p := by rw [show u * p ^ vl n p = n from hu.symm]
    rw [this, Int.mul_ediv_cancel _ (by have := pow_pos' hp (vl n p); omega)]
  rw [e]
  exact ⟨hu, hd⟩

theorem vl_uniq {p : Int} (hp : 2 ≤ p) : ∀ {k l : Nat} {u v : Int}, ¬ p ∣ u → ¬ p ∣ v → u * p ^ k = v * p ^ l → k = l ∧ u = v
  | 0, 0, u, v, _, _, h => ⟨rfl, by simpa using h⟩
  | 0, l + 1, u, v, hu, _, h => by
    exfalso; apply hu
    rw [Int.pow_zero, Int.mul_one, Int.pow_succ] at h
    exact ⟨v * p ^ l, by rw [h]; grind⟩
  | k + 1, 0, u, v, _, hv, h => by
    exfalso; apply hv
    rw [Int.pow_zero, Int.mul_one, Int.pow_succ] at h
    exact ⟨u * p ^ k, by rw [← h]; grind⟩
  | k + 1, l + 1, u, v, hu, hv, h => by
    rw [Int.pow_succ, Int.pow_succ, ← Int.mul_assoc, ← Int.mul_assoc] at h
    have := vl_uniq hp hu hv (Int.eq_of_mul_eq_mul_right (by omega) h)
    exact ⟨by omega, this.2⟩

theorem vl_eq {n p u : Int} {k : Nat} (hp : 2 ≤ p) (hn : n ≠ 0) (hu : ¬ p ∣ u) (h : n = u * p ^ k) : vl n p = k ∧ un n p = u := by
  obtain ⟨h1, h2⟩ := vl_spec hp hn
  exact vl_uniq hp h2 hu (h1.symm.trans h)

theorem vl_mul {a b p : Int} (hp : Pr p) (ha : a ≠ 0) (hb : b ≠ 0) : vl (a * b) p = vl a p + vl b p ∧ un (a * b) p = un a p * un b p := by
  obtain ⟨h1, h2⟩ := vl_spec hp.1 ha
  obtain ⟨h3, h4⟩ := vl_spec hp.1 hb
  refine vl_eq hp.1 (Int.mul_ne_zero ha hb) (fun h => (hp.dvd_mul h).elim h2 h4) ?_
  rw [Int.pow_add]
  generalize p ^ vl a p = x at *
  generalize p ^ vl b p = y at *
  generalize un a p = u at *
  generalize un b p = v at *
  rw [h1, h3]
  grind

theorem vl_unit {n p : Int} (hp : 2 ≤ p) (hn : n ≠ 0) (h : ¬ p ∣ n) : vl n p = 0 ∧ un n p = n := vl_eq hp hn h (by simp)

theorem prime_factor : ∀ (m : Nat) (n : Int), n.natAbs = m → 2 ≤ m → ∃ p, Pr p ∧ p ∣ n := by
  intro m
  induction m using Nat.strongRecOn with
  | ind m ih =>
    intro n hn hm
    by_cases h : Pr (m : Int)
    · exact ⟨m, h, by rw [← hn]; exact Int.natAbs_dvd.2 (Int.dvd_refl n)⟩
    · have : ∃ q : Int, 1 < q ∧ q ∣ (m : Int) ∧ q ≠ m := by
        refine Classical.byContradiction fun hc => h ⟨by omega, fun q h1 h2 => ?_⟩
        exact Classical.byContradiction fun h3 => hc ⟨q, h1, h2, h3⟩
      obtain ⟨q, h1, h2, h3⟩ := this
      have hle := Int.le_of_dvd (by omega) h2
      obtain ⟨p, hp, hd⟩ := ih q.natAbs (by omega) q rfl (by omega)
      exact ⟨p, hp, Int.dvd_trans hd (Int.dvd_trans h2 (by rw [← hn]; exact Int.natAbs_dvd.2 (Int.dvd_refl n)))⟩

theorem pr_of_sqrt {p m : Int} (h2 : 2 ≤ p) (hm : 0 ≤ m) (h : ∀ d, 2 ≤ d → d < m → ¬ d ∣ p) (hs : p < m * m) : Pr p := by
  refine ⟨h2, fun d h1 hd => ?_⟩
  refine Classical.byContradiction fun hne => ?_
  obtain ⟨e, he⟩ := hd
  have hle := Int.le_of_dvd (by omega) (⟨e, he⟩ : d ∣ p)
  have he1 : 1 < e := by
    rcases Int.lt_or_le 1 e with h' | h'
    · exact h'
    · exfalso
      have : d * e ≤ d * 1 := Int.mul_le_mul_of_nonneg_left h' (by omega)
      omega
  by_cases hdm : d < m
  · exact h d (by omega) hdm ⟨e, he⟩
  · by_cases hem : e < m
    · exact h e (by omega) hem ⟨d, by rw [he, Int.mul_comm]⟩
    · have : m * m ≤ d * e := Int.mul_le_mul (by omega) (by omega) hm (by omega)
      omega

theorem not_pr_of_dvd {p d : Int} (h2 : 2 ≤ d) (hs : d * d ≤ p) (hd : d ∣ p) : ¬ Pr p := by
  intro hp
  have := hp.2 d (by omega) hd
  subst this
  have : d * 2 ≤ d * d := Int.mul_le_mul_of_nonneg_left h2 (by omega)
  omega

theorem tmod_zero_iff {a b : Int} : Int.tmod a b = 0 ↔ b ∣ a := by
  constructor
  · intro h
    have := Int.mul_tdiv_add_tmod a b
    rw [h, Int.add_zero] at this
    exact ⟨_, this.symm⟩
  · rintro ⟨c, rfl⟩
    exact Int.mul_tmod_right b c

theorem rest_eq {a m : Int} (hm : 0 < m) : Int.tmod (Int.tmod a m + m) m = a % m := by
  have h1 : -m < Int.tmod a m := by
    have := Int.lt_tmod_of_pos a hm
    omega
  rw [Int.tmod_eq_emod_of_nonneg (by omega)]
  have := Int.mul_tdiv_add_tmod a m
  have e : Int.tmod a m + m = a + m * (1 - Int.tdiv a m) := by rw [Int.mul_sub]; omega
  rw [e, Int.add_mul_emod_self_left]

theorem rest_bd {a m : Int} (hm : 0 < m) : -m < Int.tmod a m ∧ Int.tmod a m < m := ⟨by have := Int.lt_tmod_of_pos a hm; omega, Int.tmod_lt_of_pos a hm⟩

theorem mod_eq_of_dvd {p x y : Int} (h : p ∣ x - y) : x % p = y % p := Int.emod_eq_emod_iff_emod_sub_eq_zero.2 (Int.emod_eq_zero_of_dvd h)

theorem length_le_of_sub : ∀ {L M : List Int}, L.Nodup → (∀ x ∈ L, x ∈ M) → L.length ≤ M.length
  | [], _, _, _ => by simp
  | x :: L, M, hn, h => by
    have hx := h x (by simp)
    have hn' := List.nodup_cons.1 hn
    have := length_le_of_sub (M := M.erase x) hn'.2 (fun y hy => (List.mem_erase_of_ne (fun (e : y = x) => hn'.1 (e ▸ hy))).2 (h y (by simp [hy])))
    rw [List.length_erase_of_mem hx] at this
    have := List.length_pos_of_mem hx
    simp
    omega
end Go.Proofs.Ytkbklmlahnjcmaa.Nt

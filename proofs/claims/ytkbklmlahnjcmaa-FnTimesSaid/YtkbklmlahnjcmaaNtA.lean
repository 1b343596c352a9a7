/- Primes, inverses and Euler's criterion over the integers, in plain Lean: no program in sight. -/
import Derived.Test.YtkbklmlahnjcmaaNt0
namespace Go.Proofs.Ytkbklmlahnjcmaa.Nt

/-- Each x has its partner. -/
theorem partner {p u x : Int} (hp : Pr p) (hu : ¬ p ∣ u) (hx : ¬ p ∣ x) : ∃ y, 1 ≤ y ∧ y < p ∧ p ∣ x * y - u := by
  obtain ⟨z, c, hc⟩ := inv_ex hp hx
  have hpos := hp.pos
  obtain ⟨d, hd⟩ := rest_dvd p (z * u)
  have h0 := Int.emod_nonneg (z * u) (show p ≠ 0 by omega)
  have h1 := Int.emod_lt_of_pos (z * u) hpos
  have hk : p ∣ x * (z * u % p) - u := ⟨c * u + d * x, by grind⟩
  refine ⟨z * u % p, ?_, h1, hk⟩
  rcases Int.lt_or_le (z * u % p) 1 with h | h
  · exfalso
    have e : z * u % p = 0 := by omega
    rw [e] at hk
    apply hu
    obtain ⟨k, hk⟩ := hk
    exact ⟨-k, by grind⟩
  · exact h

theorem not_dvd_small {p x : Int} (h1 : 1 ≤ x) (h2 : x < p) : ¬ p ∣ x := by
  intro h
  have := Int.le_of_dvd (by omega) h
  omega

theorem partner_uniq {p u x y z : Int} (hp : Pr p) (hx : ¬ p ∣ x) (hy1 : 1 ≤ y) (hy2 : y < p) (hz1 : 1 ≤ z) (hz2 : z < p) (hy : p ∣ x * y - u) (hz : p ∣ x * z - u) : y = z := by
  have h : p ∣ x * (y - z) := by
    obtain ⟨a, ha⟩ := hy
    obtain ⟨b, hb⟩ := hz
    exact ⟨a - b, by grind⟩
  rcases hp.dvd_mul h with h | h
  · exact absurd h hx
  · exact eq_of_dvd (by omega) hy2 (by omega) hz2 h

/-- A list that holds with each element its partner, another one: its product is a power of u. -/
theorem pairs {p u : Int} (hp : Pr p) (hu : ¬ p ∣ u) : ∀ (m : Nat) (L : List Int), L.length = m → L.Nodup → (∀ x ∈ L, 1 ≤ x ∧ x < p) →
    (∀ x ∈ L, ∀ y, 1 ≤ y → y < p → p ∣ x * y - u → y ∈ L ∧ y ≠ x) → ∃ n : Nat, L.length = 2 * n ∧ p ∣ prod L - u ^ n := by
  intro m
  induction m using Nat.strongRecOn with
  | ind m ih =>
    intro L hm hn hb hc
    cases L with
    | nil => exact ⟨0, rfl, by simp [prod]⟩
    | cons x T =>
      have hx := hb x (by simp)
      have hxp := not_dvd_small hx.1 hx.2
      obtain ⟨y, hy1, hy2, hy⟩ := partner hp hu hxp
      obtain ⟨hyL, hyx⟩ := hc x (by simp) y hy1 hy2 hy
      have hyT : y ∈ T := by simpa [hyx] using hyL
      have hnT : T.Nodup := (List.nodup_cons.1 hn).2
      have hxT : x ∉ T := (List.nodup_cons.1 hn).1
      have hnE : (T.erase y).Nodup := hnT.erase y
      have hyE : y ∉ T.erase y := by
        intro h
        exact ((hnT.mem_erase_iff).1 h).1 rfl
      have hsub : ∀ z, z ∈ T.erase y → z ∈ T := fun z h => List.mem_of_mem_erase h
      have hlen : (T.erase y).length = T.length - 1 := List.length_erase_of_mem hyT
      have hT : 0 < T.length := List.length_pos_of_mem hyT
      obtain ⟨n, hn1, hn2⟩ := ih (T.erase y).length (by simp at hm; omega) (T.erase y) rfl hnE (fun z hz => hb z (by simp [hsub z hz])) (by
        intro z hz w hw1 hw2 hw
        have hzL : z ∈ x :: T := by simp [hsub z hz]
        have hzb := hb z hzL
        have hzp := not_dvd_small hzb.1 hzb.2
        obtain ⟨hwL, hwz⟩ := hc z hzL w hw1 hw2 hw
        refine ⟨?_, hwz⟩
        have hwx : w ≠ x := by
          intro e
          subst e
          have : z = y := partner_uniq hp hxp hzb.1 hzb.2 hy1 hy2 (by rw [Int.mul_comm]; exact hw) hy
          exact hyE (this ▸ hz)
        have hwy : w ≠ y := by
          intro e
          subst e
          have : z = x := partner_uniq hp (not_dvd_small hw1 hw2) hzb.1 hzb.2 hx.1 hx.2 (by rw [Int.mul_comm]; exact hw) (by rw [Int.mul_comm]; exact hy)
          exact hxT (this ▸ hsub z hz)
        have hwT : w ∈ T := by simpa [hwx] using hwL
        exact (hnT.mem_erase_iff).2 ⟨hwy, hwT⟩)
      refine ⟨n + 1, by simp; omega, ?_⟩
      obtain ⟨a, ha⟩ := hn2
      obtain ⟨b, hb'⟩ := hy
      simp only [prod]
      rw [prod_erase hyT, Int.pow_succ]
      generalize prod (T.erase y) = P at *
      generalize u ^ n = U at *
      refine ⟨b * P + u * a, ?_⟩
      grind

/-- 1, 2, .., p - 1. -/
def upto (p : Int) : List Int := (List.range (p - 1).toNat).map fun (i : Nat) => (i : Int) + 1

theorem mem_upto {p x : Int} : x ∈ upto p ↔ 1 ≤ x ∧ x < p := by
  unfold upto
  simp only [List.mem_map, List.mem_range]
  constructor
  · rintro ⟨i, hi, rfl⟩; omega
  · rintro ⟨h1, h2⟩; exact ⟨(x - 1).toNat, by omega, by omega⟩

theorem nodup_upto (p : Int) : (upto p).Nodup := by
  unfold upto
  refine List.Pairwise.map _ ?_ (List.nodup_range)
  intro a b h
  simp only [ne_eq]
  omega

theorem length_upto (p : Int) : (upto p).length = (p - 1).toNat := by simp [upto]

/-- Half of p less 1. -/
def hf (p : Int) : Nat := ((p - 1) / 2).toNat

theorem prod_non {p u : Int} (hp : Pr p) (hu : ¬ p ∣ u) (h : ∀ x, ¬ p ∣ x * x - u) : p ∣ prod (upto p) - u ^ hf p := by
  obtain ⟨n, hn, hd⟩ := pairs hp hu _ (upto p) rfl (nodup_upto p) (fun x hx => mem_upto.1 hx) (fun x _ y hy1 hy2 hy => ⟨mem_upto.2 ⟨hy1, hy2⟩, fun e => h x (e ▸ hy)⟩)
  rw [length_upto] at hn
  have : n = hf p := by unfold hf; omega
  rw [← this]; exact hd

theorem root_small {p u a : Int} (hp : Pr p) (hu : ¬ p ∣ u) (h : p ∣ a * a - u) : ∃ b, 1 ≤ b ∧ b < p ∧ p ∣ b * b - u := by
  have hpos := hp.pos
  obtain ⟨d, hd⟩ := rest_dvd p a
  obtain ⟨c, hc⟩ := h
  have h0 := Int.emod_nonneg a (show p ≠ 0 by omega)
  have h1 := Int.emod_lt_of_pos a hpos
  have hk : p ∣ (a % p) * (a % p) - u := ⟨d * (a % p + a) + c, by grind⟩
  refine ⟨a % p, ?_, h1, hk⟩
  rcases Int.lt_or_le (a % p) 1 with h | h
  · exfalso
    have e : a % p = 0 := by omega
    rw [e] at hk
    obtain ⟨k, hk⟩ := hk
    exact hu ⟨-k, by grind⟩
  · exact h

theorem prod_res {p u a : Int} (hp : Pr p) (h2 : p ≠ 2) (hu : ¬ p ∣ u) (h : p ∣ a * a - u) : p ∣ prod (upto p) + u ^ hf p := by
  obtain ⟨a, ha1, ha2, ha⟩ := root_small hp hu h
  clear h
  have hp2 := hp.1
  have hodd : ¬ (2 : Int) ∣ p := fun hd => h2 (hp.2 2 (by omega) hd).symm
  have hne : p - a ≠ a := fun e => hodd ⟨a, by omega⟩
  have m1 : a ∈ upto p := mem_upto.2 ⟨ha1, ha2⟩
  have nd := nodup_upto p
  have m2 : p - a ∈ (upto p).erase a := (nd.mem_erase_iff).2 ⟨hne, mem_upto.2 ⟨by omega, by omega⟩⟩
  have nd2 := nd.erase a
  have nd3 := nd2.erase (p - a)
  have mem : ∀ z, z ∈ ((upto p).erase a).erase (p - a) ↔ z ≠ p - a ∧ z ≠ a ∧ 1 ≤ z ∧ z < p := by
    intro z
    rw [nd2.mem_erase_iff, nd.mem_erase_iff, mem_upto]
  obtain ⟨n, hn, hd⟩ := pairs hp hu _ (((upto p).erase a).erase (p - a)) rfl nd3 (fun z hz => ((mem z).1 hz).2.2) (by
    intro z hz w hw1 hw2 hw
    obtain ⟨z1, z2, z3, z4⟩ := (mem z).1 hz
    have hpa := not_dvd_small ha1 ha2
    have q1 : w ≠ a := by
      intro e; subst e
      exact z2 (partner_uniq hp hpa z3 z4 hw1 hw2 (by rw [Int.mul_comm]; exact hw) ha)
    have q2 : w ≠ p - a := by
      intro e; subst e
      apply z1
      refine partner_uniq (u := u) (x := p - a) hp (not_dvd_small hw1 hw2) z3 z4 hw1 hw2 (by rw [Int.mul_comm]; exact hw) ?_
      obtain ⟨c, hc⟩ := ha
      exact ⟨p - 2 * a + c, by grind⟩
    refine ⟨(mem w).2 ⟨q2, q1, hw1, hw2⟩, ?_⟩
    intro e
    subst e
    have h3 : p ∣ (w - a) * (w + a) := by
      obtain ⟨c, hc⟩ := ha
      obtain ⟨d, hd⟩ := hw
      exact ⟨d - c, by grind⟩
    rcases hp.dvd_mul h3 with h4 | h4
    · exact z2 (eq_of_dvd (by omega) z4 (by omega) ha2 h4)
    · obtain ⟨c, hc⟩ := h4
      refine z1 (eq_of_dvd (p := p) (by omega) z4 (by omega) (by omega) ⟨c - 1, by grind⟩))
  have l1 : ((upto p).erase a).length = (upto p).length - 1 := List.length_erase_of_mem m1
  have l2 : (((upto p).erase a).erase (p - a)).length = ((upto p).erase a).length - 1 := List.length_erase_of_mem m2
  rw [length_upto] at l1
  have : hf p = n + 1 := by unfold hf; omega
  rw [this, prod_erase m1, prod_erase m2, Int.pow_succ]
  obtain ⟨c, hc⟩ := ha
  obtain ⟨d, hd⟩ := hd
  generalize prod (((upto p).erase a).erase (p - a)) = P at *
  generalize u ^ n = U at *
  refine ⟨a * P - c * P - u * d, ?_⟩
  grind

theorem wilson {p : Int} (hp : Pr p) (h2 : p ≠ 2) : p ∣ prod (upto p) + 1 := by
  have := prod_res (u := 1) (a := 1) hp h2 hp.not_dvd_one (by simp)
  rwa [Int.one_pow] at this

theorem euler_res {p u a : Int} (hp : Pr p) (h2 : p ≠ 2) (hu : ¬ p ∣ u) (h : p ∣ a * a - u) : p ∣ u ^ hf p - 1 := by
  obtain ⟨c, hc⟩ := prod_res hp h2 hu h
  obtain ⟨d, hd⟩ := wilson hp h2
  exact ⟨c - d, by grind⟩

theorem euler_non {p u : Int} (hp : Pr p) (h2 : p ≠ 2) (hu : ¬ p ∣ u) (h : ∀ x, ¬ p ∣ x * x - u) : p ∣ u ^ hf p + 1 := by
  obtain ⟨c, hc⟩ := prod_non hp hu h
  obtain ⟨d, hd⟩ := wilson hp h2
  exact ⟨d - c, by grind⟩

/-- Is it a square up to multiples of p? -/
def isq (u p : Int) : Bool := (List.range p.toNat).any fun x => ((x : Int) * x - u) % p == 0

theorem isq_iff {u p : Int} (hp : 0 < p) : isq u p = true ↔ ∃ x, p ∣ x * x - u := by
  unfold isq
  simp only [List.any_eq_true, List.mem_range, beq_iff_eq]
  constructor
  · rintro ⟨x, _, hx⟩
    exact ⟨x, Int.dvd_of_emod_eq_zero hx⟩
  · rintro ⟨a, c, hc⟩
    have h0 := Int.emod_nonneg a (show p ≠ 0 by omega)
    have h1 := Int.emod_lt_of_pos a hp
    obtain ⟨d, hd⟩ := rest_dvd p a
    refine ⟨(a % p).toNat, by omega, ?_⟩
    rw [Int.toNat_of_nonneg h0]
    exact Int.emod_eq_zero_of_dvd ⟨d * (a % p + a) + c, by grind⟩

/-- Legendre's symbol. -/
def leg (u p : Int) : Int := if u % p = 0 then 0 else if isq u p = true then 1 else -1

theorem leg_zero {u p : Int} (h : p ∣ u) : leg u p = 0 := by unfold leg; rw [if_pos (Int.emod_eq_zero_of_dvd h)]
theorem leg_pm {u p : Int} (h : ¬ p ∣ u) : leg u p = 1 ∨ leg u p = -1 := by
  unfold leg
  rw [if_neg (fun e => h (Int.dvd_of_emod_eq_zero e))]
  split
  · exact .inl rfl
  · exact .inr rfl
theorem leg_one_iff {u p : Int} (hp : 0 < p) (h : ¬ p ∣ u) : leg u p = 1 ↔ ∃ x, p ∣ x * x - u := by
  unfold leg
  rw [if_neg (fun e => h (Int.dvd_of_emod_eq_zero e)), ← isq_iff hp]
  split <;> simp_all

theorem leg_pow {u p : Int} (hp : Pr p) (h2 : p ≠ 2) : p ∣ u ^ hf p - leg u p := by
  by_cases h : p ∣ u
  · rw [leg_zero h]
    have : hf p = (hf p - 1) + 1 := by have := hp.1; unfold hf; omega
    rw [this, Int.pow_succ, Int.sub_zero]
    exact Int.dvd_trans h ⟨u ^ (hf p - 1), by rw [Int.mul_comm]⟩
  · by_cases hs : leg u p = 1
    · obtain ⟨x, hx⟩ := (leg_one_iff hp.pos h).1 hs
      rw [hs]; exact euler_res hp h2 h hx
    · have hm := (leg_pm h).resolve_left hs
      rw [hm]
      have := euler_non hp h2 h (fun x hx => hs ((leg_one_iff hp.pos h).2 ⟨x, hx⟩))
      rwa [Int.sub_neg]

theorem leg_range (u p : Int) : -1 ≤ leg u p ∧ leg u p ≤ 1 := by
  unfold leg
  split
  · omega
  · split <;> omega

theorem small_eq {p x y : Int} (hp : 3 ≤ p) (hx : -1 ≤ x ∧ x ≤ 1) (hy : -1 ≤ y ∧ y ≤ 1) (h : p ∣ x - y) : x = y := by
  obtain ⟨c, hc⟩ := h
  rcases Int.lt_trichotomy c 0 with h0 | h0 | h0
  · have : p * c ≤ p * (-1) := Int.mul_le_mul_of_nonneg_left (by omega) (by omega)
    omega
  · subst h0; omega
  · have : p * 1 ≤ p * c := Int.mul_le_mul_of_nonneg_left (by omega) (by omega)
    omega

theorem leg_congr {u v p : Int} (hp : 0 < p) (h : p ∣ u - v) : leg u p = leg v p := by
  obtain ⟨c, hc⟩ := h
  have hd : p ∣ u ↔ p ∣ v := ⟨fun ⟨a, ha⟩ => ⟨a - c, by grind⟩, fun ⟨a, ha⟩ => ⟨a + c, by grind⟩⟩
  by_cases hu : p ∣ u
  · rw [leg_zero hu, leg_zero (hd.1 hu)]
  · have hv : ¬ p ∣ v := fun e => hu (hd.2 e)
    have e : leg u p = 1 ↔ leg v p = 1 := by
      rw [leg_one_iff hp hu, leg_one_iff hp hv]
      exact ⟨fun ⟨x, a, ha⟩ => ⟨x, a + c, by grind⟩, fun ⟨x, a, ha⟩ => ⟨x, a - c, by grind⟩⟩
    rcases leg_pm hu with h1 | h1 <;> rcases leg_pm hv with h2 | h2 <;> rw [h1, h2] at e ⊢ <;> simp at e

theorem leg_mul {u v p : Int} (hp : Pr p) (h2 : p ≠ 2) : leg (u * v) p = leg u p * leg v p := by
  have h3 := odd_ge hp h2
  refine small_eq h3 (leg_range _ _) ?_ ?_
  · have a := leg_range u p
    have b := leg_range v p
    rcases (by omega : leg u p = -1 ∨ leg u p = 0 ∨ leg u p = 1) with h | h | h <;> rw [h] <;> omega
  · obtain ⟨a, ha⟩ := leg_pow (u := u) hp h2
    obtain ⟨b, hb⟩ := leg_pow (u := v) hp h2
    obtain ⟨c, hc⟩ := leg_pow (u := u * v) hp h2
    rw [Int.mul_pow] at hc
    generalize u ^ hf p = U at *
    generalize v ^ hf p = V at *
    generalize leg u p = A at *
    generalize leg v p = B at *
    generalize leg (u * v) p = C at *
    exact ⟨a * V + A * b - c, by grind⟩

theorem leg_sq {u p : Int} (hp : 0 < p) (h : ¬ p ∣ u * u) : leg (u * u) p = 1 := (leg_one_iff hp h).2 ⟨u, by simp⟩
theorem leg_one {p : Int} (hp : Pr p) : leg 1 p = 1 := leg_sq (u := 1) hp.pos (by simpa using hp.not_dvd_one)

theorem pow_neg_one (n : Nat) : (-1 : Int) ^ n = if n % 2 = 0 then 1 else -1 := by
  induction n with
  | zero => rfl
  | succ n ih =>
    rw [Int.pow_succ, ih]
    split <;> split <;> first | rfl | omega

theorem leg_neg_one {p : Int} (hp : Pr p) (h2 : p ≠ 2) : leg (-1) p = if hf p % 2 = 0 then 1 else -1 := by
  have h := leg_pow (u := -1) hp h2
  have h3 := odd_ge hp h2
  rw [pow_neg_one] at h
  refine (small_eq h3 ?_ (leg_range _ _) h).symm
  split <;> omega

end Go.Proofs.Ytkbklmlahnjcmaa.Nt

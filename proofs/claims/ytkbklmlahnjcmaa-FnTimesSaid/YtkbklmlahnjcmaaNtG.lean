/- The primes of a number, ascending: what trial division finds; lists that ascend are told by their members. -/
import Derived.Test.YtkbklmlahnjcmaaNtB
namespace Go.Proofs.Ytkbklmlahnjcmaa.Nt

/-- The primes that divide a number, ascending. -/
def IsPL (n : Int) (l : List Int) : Prop := l.Pairwise (· < ·) ∧ ∀ p, p ∈ l ↔ Pr p ∧ p ∣ n

theorem asc_ext : ∀ {l m : List Int}, l.Pairwise (· < ·) → m.Pairwise (· < ·) → (∀ x, x ∈ l ↔ x ∈ m) → l = m
  | [], [], _, _, _ => rfl
  | [], y :: m, _, _, h => by have := (h y).2 (by simp); simp at this
  | x :: l, [], _, _, h => by have := (h x).1 (by simp); simp at this
  | x :: l, y :: m, hl, hm, h => by
    have hl' := List.pairwise_cons.1 hl
    have hm' := List.pairwise_cons.1 hm
    have e : x = y := by
      have h1 := (h x).1 (by simp)
      have h2 := (h y).2 (by simp)
      rcases List.mem_cons.1 h1 with h1 | h1
      · exact h1
      · rcases List.mem_cons.1 h2 with h2 | h2
        · exact h2.symm
        · have a := hm'.1 x h1
          have b := hl'.1 y h2
          omega
    subst e
    congr 1
    refine asc_ext hl'.2 hm'.2 (fun z => ?_)
    have hz := h z
    simp only [List.mem_cons] at hz
    constructor
    · intro h1
      rcases hz.1 (.inr h1) with h2 | h2
      · have := hl'.1 z h1; omega
      · exact h2
    · intro h1
      rcases hz.2 (.inr h1) with h2 | h2
      · have := hm'.1 z h1; omega
      · exact h2

theorem IsPL.uniq {n : Int} {l m : List Int} (hl : IsPL n l) (hm : IsPL n m) : l = m := asc_ext hl.1 hm.1 (fun x => by rw [hl.2, hm.2])

/-- Where trial division stands: at p, with n left of N. -/
def St (N n p : Int) (out : List Int) : Prop := 1 ≤ n ∧ n ≤ N ∧ (∀ q, Pr q → (q ∣ n ↔ q ∣ N ∧ p ≤ q)) ∧ out.Pairwise (· < ·) ∧ (∀ q, q ∈ out ↔ Pr q ∧ q ∣ N ∧ q < p)

theorem St.start {N : Int} (h : 1 ≤ N) : St N N 2 [] := by
  refine ⟨h, Int.le_refl _, fun q hq => ⟨fun hd => ⟨hd, hq.1⟩, fun hd => hd.1⟩, List.Pairwise.nil, fun q => ?_⟩
  constructor
  · intro h; simp at h
  · rintro ⟨h1, _, h3⟩; have := h1.1; omega

theorem pf {n : Int} (h : 2 ≤ n) : ∃ p, Pr p ∧ p ∣ n := prime_factor n.natAbs n rfl (by omega)

theorem St.prime {N n p : Int} {out : List Int} (h : St N n p out) (h2 : 2 ≤ p) (hd : p ∣ n) : Pr p := by
  obtain ⟨q, hq, hqp⟩ := pf h2
  have hqn := Int.dvd_trans hqp hd
  have := ((h.2.2.1 q hq).1 hqn).2
  have := Int.le_of_dvd (by omega) hqp
  have e : q = p := by omega
  exact e ▸ hq

theorem St.step {N n p : Int} {out : List Int} (h : St N n p out) (h2 : 2 ≤ p) (hd : p ∣ n) : St N (un n p) (p + 1) (out ++ [p]) := by
  have hp := h.prime h2 hd
  obtain ⟨h1, h1', h3, h4, h5⟩ := h
  obtain ⟨s1, s2⟩ := vl_spec h2 (show n ≠ 0 by omega)
  have hpp := pow_pos' h2 (vl n p)
  have hu : 1 ≤ un n p := by
    rcases Int.lt_or_le 0 (un n p) with h | h
    · omega
    · have : un n p * p ^ vl n p ≤ 0 := Int.mul_nonpos_of_nonpos_of_nonneg h (by omega)
      omega
  have hle : un n p ≤ n := by
    have : un n p * 1 ≤ un n p * p ^ vl n p := Int.mul_le_mul_of_nonneg_left (by omega) (by omega)
    omega
  have hdN := ((h3 p hp).1 hd).1
  refine ⟨hu, by omega, fun q hq => ?_, ?_, fun q => ?_⟩
  · constructor
    · intro hqd
      have hqn : q ∣ n := by rw [s1]; exact Int.dvd_trans hqd ⟨_, rfl⟩
      have := (h3 q hq).1 hqn
      refine ⟨this.1, ?_⟩
      have : q ≠ p := fun e => s2 (e ▸ hqd)
      omega
    · rintro ⟨k1, k2⟩
      have hqn := (h3 q hq).2 ⟨k1, by omega⟩
      rw [s1] at hqn
      rcases hq.dvd_mul hqn with h | h
      · exact h
      · have := hq.dvd_pow h
        have := hp.2 q (by have := hq.1; omega) this
        omega
  · rw [List.pairwise_append]
    refine ⟨h4, by simp, fun a ha b hb => ?_⟩
    rw [List.mem_singleton.1 hb]
    exact ((h5 a).1 ha).2.2
  · simp only [List.mem_append, List.mem_singleton]
    rw [h5]
    constructor
    · rintro (⟨k1, k2, k3⟩ | rfl)
      · exact ⟨k1, k2, by omega⟩
      · exact ⟨hp, hdN, by omega⟩
    · rintro ⟨k1, k2, k3⟩
      rcases (by omega : q < p ∨ q = p) with k | k
      · exact .inl ⟨k1, k2, k⟩
      · exact .inr k

theorem St.skip {N n p : Int} {out : List Int} (h : St N n p out) (hd : ¬ p ∣ n) : St N n (p + 1) out := by
  obtain ⟨h1, h1', h3, h4, h5⟩ := h
  refine ⟨h1, h1', fun q hq => ?_, h4, fun q => ?_⟩
  · rw [h3 q hq]
    constructor
    · rintro ⟨k1, k2⟩
      refine ⟨k1, ?_⟩
      have : q ≠ p := fun e => hd (e ▸ (h3 q hq).2 ⟨k1, k2⟩)
      omega
    · rintro ⟨k1, k2⟩; exact ⟨k1, by omega⟩
  · rw [h5]
    constructor
    · rintro ⟨k1, k2, k3⟩; exact ⟨k1, k2, by omega⟩
    · rintro ⟨k1, k2, k3⟩
      refine ⟨k1, k2, ?_⟩
      have : q ≠ p := by
        intro e; subst e
        exact hd ((h3 q k1).2 ⟨k2, by omega⟩)
      omega

theorem St.last {N n p : Int} {out : List Int} (h : St N n p out) (h2 : 2 ≤ p) (hs : n < p * p) : IsPL N (if n > 1 then out ++ [n] else out) := by
  obtain ⟨h1, h1', h3, h4, h5⟩ := h
  split
  · rename_i hn
    have hpr : Pr n := by
      refine pr_of_sqrt (by omega) (show 0 ≤ p by omega) (fun d d1 d2 hd => ?_) hs
      obtain ⟨q, hq, hqd⟩ := pf d1
      have := ((h3 q hq).1 (Int.dvd_trans hqd hd)).2
      have := Int.le_of_dvd (by omega) hqd
      omega
    have hnN := (h3 n hpr).1 (Int.dvd_refl n)
    refine ⟨?_, fun q => ?_⟩
    · rw [List.pairwise_append]
      refine ⟨h4, by simp, fun a ha b hb => ?_⟩
      rw [List.mem_singleton.1 hb]
      have := ((h5 a).1 ha).2.2
      omega
    · simp only [List.mem_append, List.mem_singleton]
      rw [h5]
      constructor
      · rintro (⟨k1, k2, k3⟩ | rfl)
        · exact ⟨k1, k2⟩
        · exact ⟨hpr, hnN.1⟩
      · rintro ⟨k1, k2⟩
        rcases Int.lt_or_le q p with k | k
        · exact .inl ⟨k1, k2, k⟩
        · have := (h3 q k1).2 ⟨k2, k⟩
          exact .inr (hpr.2 q (by have := k1.1; omega) this)
  · rename_i hn
    have e : n = 1 := by omega
    subst e
    refine ⟨h4, fun q => ?_⟩
    rw [h5]
    constructor
    · rintro ⟨k1, k2, k3⟩; exact ⟨k1, k2⟩
    · rintro ⟨k1, k2⟩
      refine ⟨k1, k2, ?_⟩
      rcases Int.lt_or_le q p with k | k
      · exact k
      · exact absurd ((h3 q k1).2 ⟨k2, k⟩) k1.not_dvd_one

/-- Different primes that divide a number: so does their product. -/
theorem prod_dvd : ∀ {l : List Int} {n : Int}, l.Nodup → (∀ p ∈ l, Pr p ∧ p ∣ n) → prod l ∣ n
  | [], n, _, _ => ⟨n, by simp [prod]⟩
  | p :: l, n, hn, h => by
    have hn' := List.nodup_cons.1 hn
    obtain ⟨hp, m, hm⟩ := h p (by simp)
    have ih := prod_dvd (l := l) (n := m) hn'.2 (fun q hq => by
      obtain ⟨h1, h2⟩ := h q (by simp [hq])
      refine ⟨h1, ?_⟩
      rw [hm] at h2
      rcases h1.dvd_mul h2 with h3 | h3
      · have := hp.2 q (by have := h1.1; omega) h3
        exact absurd (this ▸ hq) hn'.1
      · exact h3)
    obtain ⟨k, hk⟩ := ih
    refine ⟨k, ?_⟩
    simp only [prod]
    rw [hm, hk]; grind

/-- Ascending odd numbers from 3 on. -/
theorem five_odd {a b c d e : Int} (h1 : 3 ≤ a) (h2 : a + 2 ≤ b) (h3 : b + 2 ≤ c) (h4 : c + 2 ≤ d) (h5 : d + 2 ≤ e) : 10395 ≤ a * (b * (c * (d * e))) := by
  have k1 : 9 * 11 ≤ d * e := Int.mul_le_mul (by omega) (by omega) (by omega) (by omega)
  have k2 : 7 * 99 ≤ c * (d * e) := Int.mul_le_mul (by omega) (by omega) (by omega) (by omega)
  have k3 : 5 * 693 ≤ b * (c * (d * e)) := Int.mul_le_mul (by omega) (by omega) (by omega) (by omega)
  have k4 : 3 * 3465 ≤ a * (b * (c * (d * e))) := Int.mul_le_mul (by omega) (by omega) (by omega) (by omega)
  omega

/-- A number has four odd primes at most. -/
theorem four_odd {l : List Int} {n : Int} (hn : n ≠ 0) (hn2 : n.natAbs ≤ 5000) (hl : l.Pairwise (· < ·)) (h : ∀ p ∈ l, Pr p ∧ p ≠ 2 ∧ p ∣ n) : l.length ≤ 4 := by
  rcases Nat.lt_or_ge 4 l.length with h5 | h5
  · exfalso
    match l, h5, hl, h with
    | a :: b :: c :: d :: e :: r, _, hl, h =>
      have hd := prod_dvd (l := [a, b, c, d, e]) (n := n) (by
        have hs : [a, b, c, d, e].Pairwise (· < ·) := hl.sublist (by simp)
        exact hs.imp (fun h => by omega)) (fun p hp => by
        have hm : p ∈ a :: b :: c :: d :: e :: r := by simp at hp ⊢; omega
        exact ⟨(h p hm).1, (h p hm).2.2⟩)
      have g : ∀ p ∈ a :: b :: c :: d :: e :: r, 3 ≤ p ∧ p % 2 = 1 := fun p hp => ⟨odd_ge (h p hp).1 (h p hp).2.1, odd_odd (h p hp).1 (h p hp).2.1⟩
      have ga := g a (by simp)
      have gb := g b (by simp)
      have gc := g c (by simp)
      have gd := g d (by simp)
      have ge := g e (by simp)
      simp only [List.pairwise_cons, List.mem_cons] at hl
      have o1 := hl.1 b (by simp)
      have o2 := hl.2.1 c (by simp)
      have o3 := hl.2.2.1 d (by simp)
      have o4 := hl.2.2.2.1 e (by simp)
      have big := five_odd (a := a) (b := b) (c := c) (d := d) (e := e) (by omega) (by omega) (by omega) (by omega) (by omega)
      simp only [prod, Int.mul_one] at hd
      have hle := Int.le_of_dvd (show 0 < ((n.natAbs : Nat) : Int) by omega) (Int.dvd_natAbs.2 hd)
      omega
  · exact h5

end Go.Proofs.Ytkbklmlahnjcmaa.Nt

/- Normal terms: their sizes, and the zero that they have where no place is bad. -/
import Derived.Test.YtdeahlommlgceaaNtP
namespace Go.Proofs.Ytdeahlommlgceaa.Nt

theorem sqf_key {u v q : Int} (hq : Pr q) (hu : Sqf u) (h1 : q ∣ u) (hv : ¬ q ∣ v) : ¬ q * q ∣ u * v := by
  obtain ⟨w, rfl⟩ := h1
  rintro ⟨d, hd⟩
  have e : w * v = q * d := Int.eq_of_mul_eq_mul_left (show q ≠ 0 by have := hq.1; omega) (by rw [← Int.mul_assoc, hd, Int.mul_assoc])
  rcases hq.dvd_mul ⟨d, e⟩ with ⟨s, rfl⟩ | h
  · exact hu q hq ⟨s, by rw [Int.mul_assoc]⟩
  · exact hv h
theorem sqf_pr {p c : Int} (hp : Pr p) (hc : Sqf c) (h : ¬ p ∣ c) : Sqf (c * p) := by
  intro q hq hd
  have h2 := hq.1
  have h3 := hp.1
  by_cases e : q ∣ p
  · have := hp.2 q (by omega) e
    subst this
    refine sqf_key (u := q) (v := c) hq (fun r hr hd => ?_) (Int.dvd_refl q) h (by rw [Int.mul_comm q c]; exact hd)
    have h4 := hr.1
    have := hp.2 r (by omega) (Int.dvd_trans ⟨r, rfl⟩ hd)
    subst this
    have h5 : r * 2 ≤ r * r := Int.mul_le_mul_of_nonneg_left (by omega) (by omega)
    have := Int.le_of_dvd (by omega) hd
    omega
  · rcases hq.dvd_mul (Int.dvd_trans ⟨q, rfl⟩ hd) with h4 | h4
    · exact sqf_key hq hc h4 e hd
    · exact e h4
theorem sqf_mul {u v : Int} (hu : Sqf u) (hv : Sqf v) (h : Nat.gcd u.natAbs v.natAbs ≤ 1) : Sqf (u * v) := by
  have no : ∀ {q : Int}, Pr q → q ∣ u → q ∣ v → False := by
    intro q hq h1 h2
    have h3 : q.natAbs ∣ Nat.gcd u.natAbs v.natAbs := Nat.dvd_gcd (Int.natAbs_dvd_natAbs.2 h1) (Int.natAbs_dvd_natAbs.2 h2)
    have h4 := hq.1
    rcases (by omega : Nat.gcd u.natAbs v.natAbs = 0 ∨ Nat.gcd u.natAbs v.natAbs = 1) with e | e
    · rw [Nat.gcd_eq_zero_iff] at e
      exact hu q hq (by rw [show u = 0 by omega]; exact Int.dvd_zero _)
    · rw [e] at h3
      have := Nat.le_of_dvd (by omega) h3
      omega
  intro q hq hd
  rcases hq.dvd_mul (Int.dvd_trans ⟨q, rfl⟩ hd) with h1 | h1
  · exact sqf_key hq hu h1 (fun h2 => no hq h1 h2) hd
  · exact sqf_key hq hv h1 (fun h2 => no hq h2 h1) (by rw [Int.mul_comm v u]; exact hd)
/-- The core of a product of two square-free numbers, by their common divisor. -/
theorem cor_two {u v : Int} (h1 : u ≠ 0) (h2 : v ≠ 0) (hu : Sqf u) (hv : Sqf v) :
    (((u.natAbs : Int) * (v.natAbs : Int)) / (((Nat.gcd (u.natAbs : Int).natAbs (v.natAbs : Int).natAbs : Nat) : Int) * ((Nat.gcd (u.natAbs : Int).natAbs (v.natAbs : Int).natAbs : Nat) : Int))).natAbs = (cor (u * v)).natAbs := by
  rw [Int.natAbs_natCast, Int.natAbs_natCast]
  have g0 : 0 < Nat.gcd u.natAbs v.natAbs := Nat.gcd_pos_of_pos_left _ (by omega)
  obtain ⟨s, hs⟩ : ((Nat.gcd u.natAbs v.natAbs : Nat) : Int) ∣ u := Int.ofNat_dvd_left.2 (Nat.gcd_dvd_left _ _)
  obtain ⟨t, ht⟩ : ((Nat.gcd u.natAbs v.natAbs : Nat) : Int) ∣ v := Int.ofNat_dvd_left.2 (Nat.gcd_dvd_right _ _)
  have hg : Nat.gcd s.natAbs t.natAbs = 1 := by
    have e1 : u.natAbs = Nat.gcd u.natAbs v.natAbs * s.natAbs := by
      conv => lhs; rw [hs]
      rw [Int.natAbs_mul, Int.natAbs_natCast]
    have e2 : v.natAbs = Nat.gcd u.natAbs v.natAbs * t.natAbs := by
      conv => lhs; rw [ht]
      rw [Int.natAbs_mul, Int.natAbs_natCast]
    have : Nat.gcd u.natAbs v.natAbs = Nat.gcd u.natAbs v.natAbs * Nat.gcd s.natAbs t.natAbs := by
      have h := Nat.gcd_mul_left (Nat.gcd u.natAbs v.natAbs) s.natAbs t.natAbs
      rwa [← e1, ← e2] at h
    exact Nat.eq_of_mul_eq_mul_left g0 (by omega)
  generalize Nat.gcd u.natAbs v.natAbs = g at *
  have ss : Sqf s := fun q hq hd => hu q hq (Int.dvd_trans hd ⟨g, by rw [hs, Int.mul_comm]⟩)
  have st : Sqf t := fun q hq hd => hv q hq (Int.dvd_trans hd ⟨g, by rw [ht, Int.mul_comm]⟩)
  have hc := (cor_eq (Int.mul_ne_zero h1 h2) (c := s * t) (r := g) ⟨by rw [hs, ht]; grind, by omega, sqf_mul ss st (by omega)⟩).1
  rw [← hc, Int.natAbs_mul]
  rw [show (u.natAbs : Int) * (v.natAbs : Int) = ((s.natAbs * t.natAbs : Nat) : Int) * ((g : Int) * (g : Int)) by
    rw [hs, ht, Int.natAbs_mul, Int.natAbs_mul, Int.natAbs_natCast]; push_cast; grind]
  rw [Int.mul_ediv_cancel _ (Int.mul_ne_zero (by omega) (by omega)), Int.natAbs_natCast]
/-- What stays while terms are made normal, and the terms are square-free and coprime. -/
structure Nm (x y z a b c m n o S : Int) : Prop where
  nz : (x ≠ 0 ∧ y ≠ 0 ∧ z ≠ 0) ∧ (a ≠ 0 ∧ b ≠ 0 ∧ c ≠ 0) ∧ 1 ≤ S ∧ (m ≠ 0 ∧ n ≠ 0 ∧ o ≠ 0)
  e : x * (m * m) = a * S ∧ y * (n * n) = b * S ∧ z * (o * o) = c * S
  sq : Sqf a ∧ Sqf b ∧ Sqf c
  gc : Nat.gcd a.natAbs b.natAbs ≤ 1 ∧ Nat.gcd c.natAbs a.natAbs ≤ 1 ∧ Nat.gcd b.natAbs c.natAbs ≤ 1
theorem Nm.rot {x y z a b c m n o S : Int} (h : Nm x y z a b c m n o S) : Nm y z x b c a n o m S :=
  ⟨⟨⟨h.1.1.2.1, h.1.1.2.2, h.1.1.1⟩, ⟨h.1.2.1.2.1, h.1.2.1.2.2, h.1.2.1.1⟩, h.1.2.2.1, ⟨h.1.2.2.2.2.1, h.1.2.2.2.2.2, h.1.2.2.2.1⟩⟩, ⟨h.2.2.1, h.2.2.2, h.2.1⟩, ⟨h.3.2.1, h.3.2.2, h.3.1⟩, ⟨h.4.2.2, h.4.1, h.4.2.1⟩⟩
theorem cor_pair {x y a b m n S : Int} (hx : x ≠ 0) (hy : y ≠ 0) (hm : m ≠ 0) (hn : n ≠ 0) (ha : a ≠ 0) (hb : b ≠ 0) (hS : 1 ≤ S) (e1 : x * (m * m) = a * S) (e2 : y * (n * n) = b * S) (sa : Sqf a) (sb : Sqf b) (g : Nat.gcd a.natAbs b.natAbs ≤ 1) : cor (cor x * cor y) = a * b := by
  rw [cor_mul hx (cor_nz hy), cor_mul_right hx hy]
  have h1 := cor_sq (n := x * y) (x := m * n) (Int.mul_ne_zero hx hy) (Int.mul_ne_zero hm hn)
  have h2 := cor_sq (n := a * b) (x := S) (Int.mul_ne_zero ha hb) (by omega)
  rw [← h1, show x * y * (m * n * (m * n)) = a * b * (S * S) by
    rw [show x * y * (m * n * (m * n)) = (x * (m * m)) * (y * (n * n)) by grind, e1, e2]; grind, h2]
  exact (cor_eq (Int.mul_ne_zero ha hb) (isCore_self (sqf_mul sa sb g))).1.symm
theorem Nm.na {x y z a b c m n o S : Int} (h : Nm x y z a b c m n o S) : Nt.na (cor x).natAbs (cor y).natAbs (cor z).natAbs = a.natAbs := by
  obtain ⟨⟨⟨hx, hy, hz⟩, ⟨ha, hb, hc⟩, hS, ⟨hm, hn, ho⟩⟩, ⟨e1, e2, e3⟩, ⟨sa, sb, sc⟩, ⟨g1, g2, g3⟩⟩ := h
  have k1 := cor_pair hx hy hm hn ha hb hS e1 e2 sa sb g1
  have k2 := cor_pair hx hz hm ho ha hc hS e1 e3 sa sc (by rw [Nat.gcd_comm]; exact g2)
  unfold Nt.na
  rw [cor_two (cor_nz hx) (cor_nz hy) (cor_core hx).2.2 (cor_core hy).2.2, cor_two (cor_nz hx) (cor_nz hz) (cor_core hx).2.2 (cor_core hz).2.2, k1, k2, Int.natAbs_mul, Int.natAbs_mul, Nat.gcd_mul_left]
  have : 0 < Nat.gcd b.natAbs c.natAbs := Nat.gcd_pos_of_pos_left _ (by omega)
  rw [show Nat.gcd b.natAbs c.natAbs = 1 by omega, Nat.mul_one]
theorem pr235 : Pr 2 ∧ Pr 3 ∧ Pr 5 := ⟨ps_pr 2 (by decide), ps_pr 3 (by decide), ps_pr 5 (by decide)⟩
theorem sfs_of {x : Int} (hx : x ≠ 0) (h : x.natAbs ≤ 30) : ((cor x).natAbs : Int) ∈ sfs := by
  have h1 := cor_le hx
  have h2 := cor_nz hx
  have h3 := (cor_core hx).2.2
  have key : ∀ n ∈ List.range 31, n = 0 ∨ ((n : Nat) : Int) ∈ sfs ∨ (4 : Int) ∣ (n : Int) ∨ (9 : Int) ∣ (n : Int) ∨ (25 : Int) ∣ (n : Int) := by decide
  rcases key (cor x).natAbs (List.mem_range.2 (by omega)) with k | k | k | k | k
  · omega
  · exact k
  · exact absurd (Int.dvd_natAbs.1 k) (h3 2 pr235.1)
  · exact absurd (Int.dvd_natAbs.1 k) (h3 3 pr235.2.1)
  · exact absurd (Int.dvd_natAbs.1 k) (h3 5 pr235.2.2)
/-- The form and its normal terms vanish at the same places. -/
theorem Nm.van {x y z a b c m n o S p : Int} (hp : Pl p) (h : Nm x y z a b c m n o S) : Nt.van p [x, y, z] = Nt.van p [a, b, c] := by
  obtain ⟨⟨⟨hx, hy, hz⟩, ⟨ha, hb, hc⟩, hS, ⟨hm, hn, ho⟩⟩, ⟨e1, e2, e3⟩, _, _⟩ := h
  have h1 : Lks p [x * (m * m), y * (n * n), z * (o * o)] [x, y, z] := .cons (lk_sq hp hx hm) (.cons (lk_sq hp hy hn) (.cons (lk_sq hp hz ho) .nil))
  rw [← h1.van hp, e1, e2, e3, Int.mul_comm a, Int.mul_comm b, Int.mul_comm c]
  have nz : Nz [a, b, c] := Nz.cons.2 ⟨ha, Nz.cons.2 ⟨hb, Nz.cons.2 ⟨hc, Nz.nil⟩⟩⟩
  exact van_scale (n := S) hp (by omega) nz
theorem van_zero3 {a b c : Int} : van 0 [a, b, c] = decide (0 < ng [a, b, c] ∧ ng [a, b, c] < 3) := rfl
/-- A zero makes the form vanish everywhere. -/
theorem van_of_zero {p a b c x y z : Int} (hp : Pl p) (ha : a ≠ 0) (hb : b ≠ 0) (hc : c ≠ 0) (hn : x ≠ 0 ∨ y ≠ 0) (h : a * (x * x) + b * (y * y) + c * (z * z) = 0) : van p [a, b, c] = true := by
  have hp' := hp
  rcases hp with rfl | hp
  · rw [van_zero3, decide_eq_true_eq]
    have sq : ∀ t : Int, 0 ≤ t * t := fun t => by
      rcases Int.le_total 0 t with k | k
      · exact Int.mul_nonneg k k
      · exact Int.mul_nonneg_of_nonpos_of_nonpos k k
    have sp : ∀ t : Int, t ≠ 0 → 0 < t * t := fun t ht => by
      have := sq t
      have : t * t ≠ 0 := Int.mul_ne_zero ht ht
      omega
    have pos : ∀ {s t : Int}, 0 < s → 0 ≤ s * (t * t) := fun hs => Int.mul_nonneg (by omega) (sq _)
    have neg : ∀ {s t : Int}, s < 0 → s * (t * t) ≤ 0 := fun hs => Int.mul_nonpos_of_nonpos_of_nonneg (by omega) (sq _)
    have pos' : ∀ {s t : Int}, 0 < s → t ≠ 0 → 0 < s * (t * t) := fun hs ht => Int.mul_pos hs (sp _ ht)
    have neg' : ∀ {s t : Int}, s < 0 → t ≠ 0 → s * (t * t) < 0 := fun hs ht => Int.mul_neg_of_neg_of_pos hs (sp _ ht)
    simp only [ng]
    rcases (by omega : a < 0 ∨ 0 < a) with A | A <;> rcases (by omega : b < 0 ∨ 0 < b) with B | B <;> rcases (by omega : c < 0 ∨ 0 < c) with C | C
    · exfalso
      have := neg (t := x) A; have := neg (t := y) B; have := neg (t := z) C
      rcases hn with k | k
      · have := neg' A k; omega
      · have := neg' B k; omega
    all_goals first | (exfalso; have := pos (t := x) A; have := pos (t := y) B; have := pos (t := z) C; rcases hn with k | k; (have := pos' A k; omega); (have := pos' B k; omega)) | ((repeat' split) <;> omega)
  · refine van3_of hp ha hb hc (solved (x := x) (y := y) (z := c * z) hp' (by have := Int.mul_ne_zero ha hc; omega) (by have := Int.mul_ne_zero hb hc; omega) (by omega) ?_)
    have : c * (a * (x * x) + b * (y * y) + c * (z * z)) = 0 := by rw [h, Int.mul_zero]
    grind
/-- Where no place is bad there is a zero in the bounds. -/
theorem Nm.zero {x y z a b c m n o S : Int} (h : Nm x y z a b c m n o S) (bx : x.natAbs ≤ 30) (by' : y.natAbs ≤ 30) (bz : z.natAbs ≤ 30) (h0 : Nt.van 0 [x, y, z] = true) (hv : ∀ p ∈ ps, Nt.van p [x, y, z] = true) : ∃ t u v, Hz a b c t u v := by
  have hx := h.1.1.1
  have hy := h.1.1.2.1
  have hz := h.1.1.2.2
  have ha := h.1.2.1.1
  have hb := h.1.2.1.2.1
  have hc := h.1.2.1.2.2
  have hv' : ∀ p ∈ ps, Nt.van p [a, b, c] = true := fun p hp => by rw [← h.van (.inr (ps_pr p hp))]; exact hv p hp
  rw [h.van (.inl rfl), van_zero3, decide_eq_true_eq] at h0
  obtain ⟨t1, t2, t3⟩ := T3_all (sfs_of hx bx) (sfs_of hy by') (sfs_of hz bz)
  have n1 := h.na
  have n2 := h.rot.na
  have n3 := h.rot.rot.na
  rw [na_comm] at n2
  rw [n1, n2, n3] at t1 t2 t3
  have A0 : (a.natAbs : Int) ≠ 0 := by omega
  have B0 : (b.natAbs : Int) ≠ 0 := by omega
  have C0 : (c.natAbs : Int) ≠ 0 := by omega
  have m1 := t1.neg A0 B0 (neg_nz C0)
  have m2 := t2.neg A0 (neg_nz B0) C0
  have m3 := t3.neg (neg_nz A0) B0 C0
  rw [Int.neg_neg] at m1 m2 m3
  simp only [ng] at h0
  rcases (by omega : a < 0 ∨ 0 < a) with A | A <;> rcases (by omega : b < 0 ∨ 0 < b) with B | B <;> rcases (by omega : c < 0 ∨ 0 < c) with C | C
  · rw [if_pos C, if_pos B, if_pos A] at h0; omega
  · rw [show -(a.natAbs : Int) = a by omega, show -(b.natAbs : Int) = b by omega, show (c.natAbs : Int) = c by omega] at m1
    exact m1 hv'
  · rw [show -(a.natAbs : Int) = a by omega, show (b.natAbs : Int) = b by omega, show -(c.natAbs : Int) = c by omega] at m2
    exact m2 hv'
  · rw [show -(a.natAbs : Int) = a by omega, show (b.natAbs : Int) = b by omega, show (c.natAbs : Int) = c by omega] at t3
    exact t3 hv'
  · rw [show (a.natAbs : Int) = a by omega, show -(b.natAbs : Int) = b by omega, show -(c.natAbs : Int) = c by omega] at m3
    exact m3 hv'
  · rw [show (a.natAbs : Int) = a by omega, show -(b.natAbs : Int) = b by omega, show (c.natAbs : Int) = c by omega] at t2
    exact t2 hv'
  · rw [show (a.natAbs : Int) = a by omega, show (b.natAbs : Int) = b by omega, show -(c.natAbs : Int) = c by omega] at t1
    exact t1 hv'
  · rw [if_neg (by omega), if_neg (by omega), if_neg (by omega)] at h0; omega
end Go.Proofs.Ytdeahlommlgceaa.Nt

/- Legendre's theorem with bounds, for normal forms of terms up to 30. -/
import Derived.Test.YtdeahlommlgceaaNtQ
import Derived.Test.YtdeahlommlgceaaNtO
namespace Go.Proofs.Ytdeahlommlgceaa.Nt

/-- Where the form vanishes at the small primes it has a zero in the bounds. -/
def P3 (a b c : Int) : Prop := (∀ p ∈ ps, van p [a, b, c] = true) → ∃ t u v, Hz a b c t u v
theorem ps_pr : ∀ p ∈ ps, Pr p := by
  have key : ∀ p ∈ ps, 2 ≤ p ∧ ∀ m ∈ List.range 30, 2 ≤ m → ((m : Nat) : Int) ∣ p → (m : Int) = p := by decide
  intro p hp
  obtain ⟨h1, h2⟩ := key p hp
  have hb : p ≤ 29 := by
    have : ∀ p ∈ ps, p ≤ 29 := by decide
    exact this p hp
  refine ⟨h1, fun m h3 h4 => ?_⟩
  have h5 := Int.le_of_dvd (by omega) h4
  obtain ⟨n, rfl⟩ := Int.eq_ofNat_of_zero_le (show 0 ≤ m by omega)
  exact h2 n (List.mem_range.2 (by omega)) (by omega) h4
theorem P3.perm {a b c : Int} (ha : a ≠ 0) (hb : b ≠ 0) (hc : c ≠ 0) (h : P3 a b c) : P3 a c b := by
  intro hv
  obtain ⟨t, u, v, ⟨h1, h2, h3⟩, ⟨k1, k2, k3⟩, e, n⟩ := h (fun p hp => by rw [van_perm (ps_pr p hp) ha hb hc]; exact hv p hp)
  refine ⟨t, v, u, ⟨h1, h3, h2⟩, ⟨by rw [Int.mul_comm c b]; exact k1, k3, k2⟩, by omega, ?_⟩
  rintro ⟨rfl, rfl⟩
  apply n
  refine ⟨rfl, ?_⟩
  have : b * (u * u) = 0 := by rw [← Int.mul_assoc]; simpa using e
  rcases Int.mul_eq_zero.1 this with h | h
  · exact absurd h hb
  · rcases Int.mul_eq_zero.1 h with h | h <;> exact h
theorem P3.ends {a b c : Int} (ha : a ≠ 0) (hb : b ≠ 0) (hc : c ≠ 0) (h : P3 a b c) : P3 c b a := by
  intro hv
  obtain ⟨t, u, v, ⟨h1, h2, h3⟩, ⟨k1, k2, k3⟩, e, n⟩ := h (fun p hp => by rw [van_ends (ps_pr p hp) ha hb hc]; exact hv p hp)
  refine ⟨v, u, t, ⟨h3, h2, h1⟩, ⟨by rw [Int.mul_comm b a]; exact k3, by rw [Int.mul_comm c a]; exact k2, by rw [Int.mul_comm c b]; exact k1⟩, by omega, ?_⟩
  rintro ⟨rfl, rfl⟩
  apply n
  have : a * (t * t) = 0 := by rw [← Int.mul_assoc]; simpa using e
  rcases Int.mul_eq_zero.1 this with h | h
  · exact absurd h ha
  · rcases Int.mul_eq_zero.1 h with h | h <;> exact ⟨h, rfl⟩
theorem P3.neg {a b c : Int} (ha : a ≠ 0) (hb : b ≠ 0) (hc : c ≠ 0) (h : P3 a b c) : P3 (-a) (-b) (-c) := by
  intro hv
  have nz : Nz [a, b, c] := by
    intro t ht
    simp only [List.mem_cons, List.not_mem_nil, or_false] at ht
    rcases ht with rfl | rfl | rfl <;> assumption
  obtain ⟨t, u, v, h1, ⟨k1, k2, k3⟩, e, n⟩ := h (fun p hp => by
    have := van_scale (p := p) (n := -1) (.inr (ps_pr p hp)) (by omega) nz
    simp only [List.map_cons, List.map_nil, Int.neg_mul, Int.one_mul] at this
    rw [← this]; exact hv p hp)
  refine ⟨t, u, v, h1, ⟨by rw [Int.neg_mul_neg]; exact k1, by rw [Int.neg_mul_neg]; exact k2, by rw [Int.neg_mul_neg]; exact k3⟩, ?_, n⟩
  have : -a * t * t + -b * u * u + -c * v * v = -(a * t * t + b * u * u + c * v * v) := by grind
  rw [this, e]; rfl
theorem okTri_P3 {a b c : Int} (hc : c ≠ 0) (h : okTri a b c = true) : P3 a b c := by
  intro hv
  unfold okTri at h
  rw [Bool.or_eq_true, List.any_eq_true] at h
  rcases h with ⟨p, hp, h⟩ | h
  · rw [hv p hp] at h; cases h
  · exact hx_sound hc 200 0 (by omega) h
theorem na_comm (x y z : Int) : na x y z = na x z y := by unfold na; rw [Nat.gcd_comm]
theorem na_nz : ∀ x ∈ sfs, ∀ y ∈ sfs, ∀ z ∈ sfs, na x y z ≠ 0 := by decide +kernel
/-- All three ways of one sign that differs. -/
def T3 (x y z : Int) : Prop := P3 (na x y z) (na y x z) (-na z x y) ∧ P3 (na x y z) (-na y x z) (na z x y) ∧ P3 (-na x y z) (na y x z) (na z x y)
theorem neg_nz {a : Int} (h : a ≠ 0) : -a ≠ 0 := by omega
theorem T3.perm {x y z : Int} (hx : x ∈ sfs) (hy : y ∈ sfs) (hz : z ∈ sfs) (h : T3 x y z) : T3 x z y := by
  have a := na_nz x hx y hy z hz
  have b := na_nz y hy x hx z hz
  have c := na_nz z hz x hx y hy
  obtain ⟨h1, h2, h3⟩ := h
  unfold T3
  rw [na_comm x z y]
  exact ⟨h2.perm a (neg_nz b) c, h1.perm a b (neg_nz c), h3.perm (neg_nz a) b c⟩
theorem T3.ends {x y z : Int} (hx : x ∈ sfs) (hy : y ∈ sfs) (hz : z ∈ sfs) (h : T3 x y z) : T3 z y x := by
  have a := na_nz x hx y hy z hz
  have b := na_nz y hy x hx z hz
  have c := na_nz z hz x hx y hy
  obtain ⟨h1, h2, h3⟩ := h
  unfold T3
  rw [na_comm z y x, na_comm y z x, na_comm x z y]
  exact ⟨h3.ends (neg_nz a) b c, h2.ends a (neg_nz b) c, h1.ends a b (neg_nz c)⟩
theorem T3_sorted {x y z : Int} (hx : x ∈ sfs) (hy : y ∈ sfs) (hz : z ∈ sfs) (h1 : x ≤ y) (h2 : y ≤ z) : T3 x y z := by
  have a := na_nz x hx y hy z hz
  have b := na_nz y hy x hx z hz
  have c := na_nz z hz x hx y hy
  have h := List.all_eq_true.1 chk_all x hx
  unfold chk at h
  have h := List.all_eq_true.1 h y hy
  rw [Bool.or_eq_true, decide_eq_true_eq] at h
  have h := List.all_eq_true.1 (h.resolve_left (by omega)) z hz
  rw [Bool.or_eq_true, decide_eq_true_eq, Bool.and_eq_true, Bool.and_eq_true] at h
  obtain ⟨⟨k1, k2⟩, k3⟩ := h.resolve_left (by omega)
  exact ⟨okTri_P3 (neg_nz c) k1, okTri_P3 c k2, okTri_P3 c k3⟩
theorem T3_all {x y z : Int} (hx : x ∈ sfs) (hy : y ∈ sfs) (hz : z ∈ sfs) : T3 x y z := by
  rcases Int.le_total x y with a | a <;> rcases Int.le_total y z with b | b <;> rcases Int.le_total x z with c | c
  · exact T3_sorted hx hy hz a b
  · exact T3_sorted hx hy hz a b
  · exact (T3_sorted hx hz hy c b).perm hx hz hy
  · exact ((((T3_sorted hz hx hy c a).ends hz hx hy).perm hy hx hz).ends hy hz hx).perm hx hz hy
  · exact (((T3_sorted hy hx hz a c).perm hy hx hz).ends hy hz hx).perm hx hz hy
  · exact (((T3_sorted hy hz hx b c).ends hy hz hx).perm hx hz hy)
  · exact (T3_sorted hz hy hx b a).ends hz hy hx
  · exact (T3_sorted hz hy hx b a).ends hz hy hx
end Go.Proofs.Ytdeahlommlgceaa.Nt

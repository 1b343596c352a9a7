/- What the loops of the program compute, in plain numbers: trial division, residues by search and by powers, the least non-residue, names. -/
import Derived.Test.YtkbklmlahnjcmaaNtC
namespace Go.Proofs.Ytkbklmlahnjcmaa.Nt

/-- A residue has a root in the lower half. -/
theorem leg_search {u p : Int} (hp : Pr p) (h2 : p ≠ 2) (hu : ¬ p ∣ u) : leg u p = 1 ↔ ∃ x, 1 ≤ x ∧ x ≤ p / 2 ∧ x * x % p = u % p := by
  rw [leg_one_iff hp.pos hu]
  constructor
  · rintro ⟨a, ha⟩
    obtain ⟨b, hb1, hb2, hb⟩ := root_small hp hu ha
    by_cases h : b ≤ p / 2
    · exact ⟨b, hb1, h, mod_eq_of_dvd hb⟩
    · refine ⟨p - b, by omega, by have := odd_odd hp h2; omega, mod_eq_of_dvd ?_⟩
      obtain ⟨c, hc⟩ := hb
      exact ⟨p - 2 * b + c, by grind⟩
  · rintro ⟨x, _, _, hx⟩
    exact ⟨x, Int.dvd_of_emod_eq_zero (Int.emod_eq_emod_iff_emod_sub_eq_zero.1 hx)⟩

theorem leg_of_pow {u p : Int} (hp : Pr p) (h2 : p ≠ 2) : (if u ^ hf p % p = p - 1 then -1 else u ^ hf p % p) = leg u p := by
  have h3 := odd_ge hp h2
  have h := mod_eq_of_dvd (leg_pow (u := u) hp h2)
  rw [h]
  rcases (by have := leg_range u p; omega : leg u p = -1 ∨ leg u p = 0 ∨ leg u p = 1) with e | e | e <;> rw [e]
  · have : (-1 : Int) % p = p - 1 := by
      have := Int.emod_eq_of_lt (show (0 : Int) ≤ p - 1 by omega) (show p - 1 < p by omega)
      rw [← this, show (-1 : Int) = p - 1 + p * (-1) by omega, Int.add_mul_emod_self_left]
    rw [if_pos this]
  · rw [Int.zero_emod, if_neg (by omega)]
  · rw [Int.emod_eq_of_lt (by omega) (by omega), if_neg (by omega)]

/-- There is a non-residue. -/
theorem exists_non {p : Int} (hp : Pr p) (h2 : p ≠ 2) : ∃ u, 2 ≤ u ∧ u < p ∧ leg u p = -1 := by
  refine Classical.byContradiction fun hc => ?_
  have h3 := odd_ge hp h2
  have hall : ∀ u, 1 ≤ u → u < p → leg u p = 1 := by
    intro u h1 hl
    by_cases e : u = 1
    · rw [e]; exact leg_one hp
    · exact (leg_pm (not_dvd_small h1 hl)).resolve_right (fun e' => hc ⟨u, by omega, hl, e'⟩)
  have hsub : ∀ x ∈ upto p, x ∈ ((List.range (hf p)).map fun (i : Nat) => ((i : Int) + 1) * ((i : Int) + 1) % p) := by
    intro u hu
    obtain ⟨h1, hl⟩ := mem_upto.1 hu
    obtain ⟨x, hx1, hx2, hx⟩ := (leg_search hp h2 (not_dvd_small h1 hl)).1 (hall u h1 hl)
    rw [List.mem_map]
    refine ⟨(x - 1).toNat, ?_, ?_⟩
    · have := odd_odd hp h2
      rw [List.mem_range]; unfold hf; omega
    · rw [show (((x - 1).toNat : Nat) : Int) + 1 = x by omega, hx]
      exact Int.emod_eq_of_lt (by omega) hl
  have := length_le_of_sub (nodup_upto p) hsub
  rw [length_upto, List.length_map, List.length_range] at this
  unfold hf at this
  omega

def nrF : Nat → Int → Int → Int
  | 0, n, _ => n
  | f + 1, n, p => if leg n p = -1 then n else nrF f (n + 1) p
/-- The least non-residue. -/
def nr (p : Int) : Int := nrF p.toNat 2 p

theorem nrF_spec {p u : Int} (hu : leg u p = -1) : ∀ (f : Nat) (n : Int), n ≤ u → u - n < f → (n ≤ nrF f n p ∧ nrF f n p ≤ u ∧ leg (nrF f n p) p = -1 ∧ ∀ m, n ≤ m → m < nrF f n p → leg m p ≠ -1)
  | 0, n, h, h' => by omega
  | f + 1, n, h, h' => by
    unfold nrF
    split
    · rename_i hl
      exact ⟨by omega, h, hl, fun m _ _ => by omega⟩
    · rename_i hl
      have hne : n ≠ u := fun e => hl (e ▸ hu)
      obtain ⟨h1, h2, h3, h4⟩ := nrF_spec hu f (n + 1) (by omega) (by omega)
      refine ⟨by omega, h2, h3, fun m hm1 hm2 => ?_⟩
      by_cases e : m = n
      · rw [e]; exact hl
      · exact h4 m (by omega) hm2

theorem nr_spec {p : Int} (hp : Pr p) (h2 : p ≠ 2) : 2 ≤ nr p ∧ nr p < p ∧ leg (nr p) p = -1 ∧ ∀ m, 2 ≤ m → m < nr p → leg m p = 1 := by
  obtain ⟨u, hu1, hu2, hu⟩ := exists_non hp h2
  obtain ⟨h1, h2', h3, h4⟩ := nrF_spec hu p.toNat 2 hu1 (by omega)
  refine ⟨h1, Int.lt_of_le_of_lt h2' hu2, h3, fun m hm1 hm2 => ?_⟩
  have hm2' : m < nr p := hm2
  have : nr p < p := Int.lt_of_le_of_lt h2' hu2
  exact (leg_pm (not_dvd_small (by omega) (by omega))).resolve_right (h4 m hm1 hm2)

/-- The names of the classes at a place. -/
def names (p : Int) : List Int := if p = 0 then [1, -1] else if p = 2 then [1, 3, 5, 7, 2, 6, 10, 14] else [1, nr p, p, p * nr p]

theorem names_nz {p : Int} (hp : Pl p) : ∀ n ∈ names p, n ≠ 0 := by
  unfold names
  split
  · decide
  · split
    · decide
    · rename_i h0 h2
      have hp := hp.resolve_left h0
      have := nr_spec hp h2
      have := hp.1
      intro n hn
      simp only [List.mem_cons, List.not_mem_nil, or_false] at hn
      rcases hn with rfl | rfl | rfl | rfl
      · omega
      · omega
      · omega
      · exact Int.mul_ne_zero (by omega) (by omega)

theorem two_classes : ∀ i ∈ [0, 1], ∀ u ∈ [(1 : Int), 3, 5, 7], ¬ (i = 0 ∧ u = 1) → ∃ n ∈ [(1 : Int), 3, 5, 7, 2, 6, 10, 14], hil2 i (vl n 2) u (un n 2) = -1 := by decide +kernel

/-- No symbol is idle. -/
theorem find_name {a p : Int} (hp : Pl p) (ha : a ≠ 0) (h : lsq a p = false) : ∃ n ∈ names p, hil a n p = -1 := by
  unfold lsq at h
  unfold names
  split
  · rename_i h0
    rw [if_pos h0] at h
    subst h0
    have : ¬ 0 < a := by simpa using h
    exact ⟨-1, by simp, by unfold hil; rw [if_pos rfl, if_pos (by omega)]⟩
  · rename_i h0
    rw [if_neg h0] at h
    have hp := hp.resolve_left h0
    split
    · rename_i h2
      subst h2
      have oa := odd_of (vl_spec (p := 2) (by omega) ha).2
      obtain ⟨n, hn, he⟩ := two_classes (vl a 2 % 2) (by rcases Nat.mod_two_eq_zero_or_one (vl a 2) with h | h <;> rw [h] <;> simp) (un a 2 % 8) (odd_mem oa) (by
        rintro ⟨h1, h2⟩
        rw [if_pos h1, if_pos rfl] at h
        simp [h2] at h)
      refine ⟨n, hn, ?_⟩
      rw [hil_two, ← he]
      exact hil2_mod (by omega) rfl (by omega) rfl
    · rename_i h2
      obtain ⟨n1, n2, n3, _⟩ := nr_spec hp h2
      have hp1 := hp.1
      have hnn : ¬ p ∣ nr p := not_dvd_small (by omega) n2
      have hn0 : nr p ≠ 0 := by omega
      obtain ⟨a1, a2⟩ := vl_spec hp.1 ha
      rcases Nat.mod_two_eq_zero_or_one (vl a p) with hv | hv
      · rw [if_pos hv, if_neg h2] at h
        have hl : leg (un a p) p = -1 := (leg_pm a2).resolve_left (by simpa using h)
        refine ⟨p, by simp, ?_⟩
        have ep : vl p p = 1 ∧ un p p = 1 := vl_eq hp.1 (by omega) hp.not_dvd_one (by simp [Int.pow_succ])
        unfold hil
        rw [if_neg h0, if_neg h2, ep.1, ep.2]
        unfold hilp
        rw [pw_even (by omega), pw_odd rfl, pw_even hv, hl]; rfl
      · refine ⟨nr p, by simp, ?_⟩
        have ep := vl_unit hp.1 hn0 hnn
        unfold hil
        rw [if_neg h0, if_neg h2, ep.1, ep.2]
        unfold hilp
        rw [pw_even (by omega), pw_even rfl, pw_odd hv, n3]; rfl

end Go.Proofs.Ytkbklmlahnjcmaa.Nt

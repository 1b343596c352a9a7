/- Normal forms of three terms up to 30: a zero in the bounds, or a place where the form does not vanish. -/
import Derived.Test.YtdeahlommlgceaaNtJ
namespace Go.Proofs.Ytdeahlommlgceaa.Nt

/-- Is q a square of a number from z on? -/
def isqf : Nat → Int → Int → Bool
  | 0, _, _ => false
  | n + 1, z, q => z * z == q || (decide (z * z < q) && isqf n (z + 1) q)
/-- Is there a zero with this x and some y from here on? -/
def hy (a b c x : Int) : Nat → Int → Bool
  | 0, _ => false
  | n + 1, y => decide (y * y ≤ (a * c).natAbs) && ((((a * x * x + b * y * y) % c == 0) && !(x == 0 && y == 0) && isqf 200 0 (-(a * x * x + b * y * y) / c) && decide (-(a * x * x + b * y * y) / c ≤ (a * b).natAbs)) || hy a b c x n (y + 1))
def hx (a b c : Int) : Nat → Int → Bool
  | 0, _ => false
  | n + 1, x => decide (x * x ≤ (b * c).natAbs) && (hy a b c x 200 0 || hx a b c n (x + 1))
theorem isqf_sound : ∀ (n : Nat) (z q : Int), 0 ≤ z → isqf n z q = true → ∃ w, 0 ≤ w ∧ w * w = q
  | 0, _, _, _, h => by simp [isqf] at h
  | n + 1, z, q, hz, h => by
    simp only [isqf, Bool.or_eq_true, beq_iff_eq, Bool.and_eq_true] at h
    rcases h with h | ⟨_, h⟩
    · exact ⟨z, hz, h⟩
    · exact isqf_sound n (z + 1) q (by omega) h
/-- A zero in the bounds. -/
def Hz (a b c x y z : Int) : Prop := (0 ≤ x ∧ 0 ≤ y ∧ 0 ≤ z) ∧ (x * x ≤ (b * c).natAbs ∧ y * y ≤ (a * c).natAbs ∧ z * z ≤ (a * b).natAbs) ∧ a * x * x + b * y * y + c * z * z = 0 ∧ ¬ (x = 0 ∧ y = 0)
theorem hy_sound {a b c x : Int} (hc : c ≠ 0) (hx0 : 0 ≤ x) (hx1 : x * x ≤ (b * c).natAbs) : ∀ (n : Nat) (y : Int), 0 ≤ y → hy a b c x n y = true → ∃ u v, Hz a b c x u v
  | 0, _, _, h => by simp [hy] at h
  | n + 1, y, h0, h => by
    simp only [hy, Bool.and_eq_true, Bool.or_eq_true, decide_eq_true_eq, beq_iff_eq, Bool.not_eq_true'] at h
    obtain ⟨h1, ⟨⟨⟨h2, h3⟩, h4⟩, h5⟩ | h⟩ := h
    · obtain ⟨w, w0, w1⟩ := isqf_sound 200 0 _ (by omega) h4
      have hd : c ∣ -(a * x * x + b * y * y) := Int.dvd_neg.2 (Int.dvd_of_emod_eq_zero h2)
      have e := Int.ediv_mul_cancel hd
      rw [← w1] at e h5
      refine ⟨y, w, ⟨hx0, h0, w0⟩, ⟨hx1, h1, h5⟩, ?_, ?_⟩
      · have : c * w * w = w * w * c := by grind
        omega
      · rintro ⟨rfl, rfl⟩
        simp at h3
    · exact hy_sound hc hx0 hx1 n (y + 1) (by omega) h
theorem hx_sound {a b c : Int} (hc : c ≠ 0) : ∀ (n : Nat) (x : Int), 0 ≤ x → hx a b c n x = true → ∃ t u v, Hz a b c t u v
  | 0, _, _, h => by simp [hx] at h
  | n + 1, x, h0, h => by
    simp only [hx, Bool.and_eq_true, Bool.or_eq_true, decide_eq_true_eq] at h
    obtain ⟨h1, h | h⟩ := h
    · obtain ⟨u, v, k⟩ := hy_sound hc h0 h1 200 0 (by omega) h
      exact ⟨x, u, v, k⟩
    · exact hx_sound hc n (x + 1) (by omega) h
def sfs : List Int := [1, 2, 3, 5, 6, 7, 10, 11, 13, 14, 15, 17, 19, 21, 22, 23, 26, 29, 30]
def ps : List Int := [2, 3, 5, 7, 11, 13, 17, 19, 23, 29]
/-- The normal terms' sizes, out of square-free ones. -/
def na (x y z : Int) : Int := (Nat.gcd (x * y / (Nat.gcd x.natAbs y.natAbs * Nat.gcd x.natAbs y.natAbs)).natAbs (x * z / (Nat.gcd x.natAbs z.natAbs * Nat.gcd x.natAbs z.natAbs)).natAbs : Nat)
def okTri (a b c : Int) : Bool := (ps.any fun p => !van p [a, b, c]) || hx a b c 200 0
def chk (x : Int) : Bool := sfs.all fun y => decide (y < x) || (sfs.all fun z => decide (z < y) || (okTri (na x y z) (na y x z) (-na z x y) && okTri (na x y z) (-na y x z) (na z x y) && okTri (-na x y z) (na y x z) (na z x y)))
theorem chk_all : sfs.all chk = true := by decide +kernel
end Go.Proofs.Ytdeahlommlgceaa.Nt

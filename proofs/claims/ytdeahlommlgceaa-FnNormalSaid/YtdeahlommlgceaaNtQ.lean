/- Forms of three terms: the symbol behind them, and the order of their terms. -/
import Derived.Test.YtdeahlommlgceaaNtK
namespace Go.Proofs.Ytdeahlommlgceaa.Nt

/-- Three terms, by the symbol of the form divided by its last term. -/
theorem van3_of {p a b c : Int} (hp : Pr p) (ha : a ≠ 0) (hb : b ≠ 0) (hc : c ≠ 0) (h : hil (-(a * c)) (-(b * c)) p = 1) : van p [a, b, c] = true := by
  have hq : Pl p := .inr hp
  have h1 : (-1 : Int) ≠ 0 := by omega
  have hbc := Int.mul_ne_zero hb hc
  have hac := Int.mul_ne_zero ha hc
  have e1 : -(a * c) = (-1) * (a * c) := by omega
  have e2 : -(b * c) = (-1) * (b * c) := by omega
  have hX : (-1) * (b * c) ≠ 0 := Int.mul_ne_zero h1 hbc
  rw [e1, e2, hil_mul hq h1 hac hX, hil_mul hq ha hc hX, hil_mul_right hq h1 h1 hbc, hil_mul_right hq ha h1 hbc, hil_mul_right hq hc h1 hbc, hil_mul_right hq h1 hb hc, hil_mul_right hq ha hb hc, hil_mul_right hq hc hb hc, hil_self hq hc, hil_comm (a := a) (b := -1), hil_comm (a := c) (b := -1), hil_comm (a := c) (b := b)] at h
  have hp0 : p ≠ 0 := by have := hp.1; omega
  unfold van
  rw [if_neg hp0, if_neg (by simp), if_pos (by simp)]
  have e3 : -prod [a, b, c] = (-1) * (a * (b * c)) := by simp [prod]
  have e4 : inv p [a, b, c] = hil a b p * hil a c p * hil b c p := by
    simp only [inv, prod, Int.mul_one]
    rw [hil_mul_right hq ha hb hc, hil_one_right hq hc]
    simp [Int.mul_assoc]
  rw [e3, e4, hil_mul_right hq h1 h1 (Int.mul_ne_zero ha hbc), hil_mul_right hq h1 ha hbc, hil_mul_right hq h1 hb hc, beq_iff_eq]
  have A := hil_pm hq ha hb
  have B := hil_pm hq ha hc
  have C := hil_pm hq hb hc
  have D := hil_pm hq h1 ha
  have E := hil_pm hq h1 hb
  have F := hil_pm hq h1 hc
  have G := hil_pm hq h1 h1
  have P : ∀ {x y : Int}, (x = 1 ∨ x = -1) → (y = 1 ∨ y = -1) → (x * y = 1 ∨ x * y = -1) := by
    intro x y hx hy
    rcases hx with rfl | rfl <;> rcases hy with rfl | rfl <;> decide
  have PP := P (P A B) C
  have QQ := P G (P D (P E F))
  have FF := pm_sq F
  generalize hil a b p = A' at *
  generalize hil a c p = B' at *
  generalize hil b c p = C' at *
  generalize hil (-1) a p = D' at *
  generalize hil (-1) b p = E' at *
  generalize hil (-1) c p = F' at *
  generalize hil (-1) (-1) p = G' at *
  have key : (A' * B' * C') * (G' * (D' * (E' * F'))) * (F' * F') = 1 := by rw [← h]; grind
  rw [FF, Int.mul_one] at key
  rcases PP with e | e <;> rcases QQ with e' | e' <;> rw [e, e'] at key ⊢ <;> simp at key

theorem van_mem {p a b c a' b' c' : Int} (hp : Pr p) (e1 : a * (b * c) = a' * (b' * c')) (e3 : hil a b p * hil a c p * hil b c p = hil a' b' p * hil a' c' p * hil b' c' p) (ha : a ≠ 0) (hb : b ≠ 0) (hc : c ≠ 0) (ha' : a' ≠ 0) (hb' : b' ≠ 0) (hc' : c' ≠ 0) : van p [a, b, c] = van p [a', b', c'] := by
  have hp0 : p ≠ 0 := by have := hp.1; omega
  have hq : Pl p := .inr hp
  have E : ∀ {a b c : Int}, a ≠ 0 → b ≠ 0 → c ≠ 0 → inv p [a, b, c] = hil a b p * hil a c p * hil b c p := by
    intro a b c ha hb hc
    simp only [inv, prod, Int.mul_one]
    rw [hil_mul_right hq ha hb hc, hil_one_right hq hc]
    simp [Int.mul_assoc]
  have V : ∀ {a b c : Int}, van p [a, b, c] = (inv p [a, b, c] == hil (-1) (-prod [a, b, c]) p) := by
    intro a b c
    unfold van
    rw [if_neg hp0, if_neg (by simp), if_pos (by simp)]
  rw [V, V, E ha hb hc, E ha' hb' hc', e3]
  simp only [prod, Int.mul_one]
  rw [e1]
/-- The last term and the one before it change places. -/
theorem van_perm {p a b c : Int} (hp : Pr p) (ha : a ≠ 0) (hb : b ≠ 0) (hc : c ≠ 0) : van p [a, b, c] = van p [a, c, b] :=
  van_mem hp (by rw [Int.mul_comm b c]) (by rw [hil_comm (a := b) (b := c), Int.mul_comm (hil a b p)]) ha hb hc ha hc hb
/-- The first and the last change places. -/
theorem van_ends {p a b c : Int} (hp : Pr p) (ha : a ≠ 0) (hb : b ≠ 0) (hc : c ≠ 0) : van p [a, b, c] = van p [c, b, a] :=
  van_mem hp (by grind) (by rw [hil_comm (a := c) (b := b), hil_comm (a := c) (b := a), hil_comm (a := b) (b := a)]; grind) ha hb hc hc hb ha
end Go.Proofs.Ytdeahlommlgceaa.Nt

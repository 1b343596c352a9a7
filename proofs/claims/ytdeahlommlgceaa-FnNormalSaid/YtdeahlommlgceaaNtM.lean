/- A drawn number behind the end of the code: the mixture of bytes and place does not stay at one rest for ever. For all lengths up to 2000 and all starts. -/
namespace Go.Proofs.Ytdeahlommlgceaa.Nt

def fx (x : Nat) : Nat := x ^^^ (x / 64)

/-! the rest by 8 -/
def g8 (r : Nat) : Nat := (r % 8) ^^^ (r / 64)
theorem fx_mod8 (x : Nat) : fx x % 8 = g8 (x % 512) := by
  unfold fx g8
  rw [show (8 : Nat) = 2 ^ 3 from rfl, Nat.xor_mod_two_pow]
  have h1 : x % 2 ^ 3 = x % 512 % 2 ^ 3 := by omega
  have h2 : x / 64 % 2 ^ 3 = x % 512 / 64 := by omega
  rw [h1, h2]
def findA (r c : Nat) : Nat → Bool
  | 0 => false
  | k + 1 => (g8 ((r + c * k) % 512) != 1) || findA r c k
def allA2 (c : Nat) : Nat → Bool
  | 0 => true
  | r + 1 => findA r c 20 && allA2 c r
def allA1 : Nat → Bool
  | 0 => true
  | c + 1 => (c == 0 || allA2 (4 * c) 512) && allA1 c
theorem checkA : allA1 128 = true := by decide +kernel
theorem findA_iff {r c : Nat} : ∀ {k : Nat}, findA r c k = true → ∃ j, j < k ∧ g8 ((r + c * j) % 512) ≠ 1
  | 0, h => by simp [findA] at h
  | k + 1, h => by
    simp only [findA, Bool.or_eq_true, bne_iff_ne, ne_eq] at h
    rcases h with h | h
    · exact ⟨k, by omega, h⟩
    · obtain ⟨j, h1, h2⟩ := findA_iff h
      exact ⟨j, by omega, h2⟩
theorem allA2_iff {c : Nat} : ∀ {n : Nat}, allA2 c n = true → ∀ r, r < n → findA r c 20 = true
  | 0, _, r, hr => by omega
  | n + 1, h, r, hr => by
    simp only [allA2, Bool.and_eq_true] at h
    by_cases e : r = n
    · rw [e]; exact h.1
    · exact allA2_iff h.2 r (by omega)
theorem allA1_iff : ∀ {n : Nat}, allA1 n = true → ∀ c, c < n → c ≠ 0 → allA2 (4 * c) 512 = true
  | 0, _, c, hc, _ => by omega
  | n + 1, h, c, hc, h0 => by
    simp only [allA1, Bool.and_eq_true, Bool.or_eq_true, beq_iff_eq] at h
    by_cases e : c = n
    · subst e
      exact h.1.resolve_left h0
    · exact allA1_iff h.2 c (by omega) h0
theorem endA {c x : Nat} (h4 : c % 4 = 0) (h : c % 512 ≠ 0) : ∃ j, j < 20 ∧ fx (x + c * j) % 40 ≠ 1 := by
  have h1 := allA1_iff checkA (c % 512 / 4) (by omega) (by omega)
  have h2 := findA_iff (allA2_iff h1 (x % 512) (by omega))
  obtain ⟨j, h3, h5⟩ := h2
  refine ⟨j, h3, fun h6 => h5 ?_⟩
  have h7 : fx (x + c * j) % 8 = 1 := by omega
  rw [fx_mod8] at h7
  have e : (x + c * j) % 512 = (x % 512 + 4 * (c % 512 / 4) * j) % 512 := by
    rw [show 4 * (c % 512 / 4) = c % 512 by omega]
    have e1 : x + c * j = x % 512 + c % 512 * j + 512 * (x / 512 + c / 512 * j) := by
      have h1 : x = x % 512 + 512 * (x / 512) := by omega
      have h2 : c * j = c % 512 * j + 512 * (c / 512 * j) := by
        rw [← Nat.mul_assoc, ← Nat.add_mul]; congr 1; omega
      omega
    rw [e1, Nat.add_mul_mod_self_left]
  rw [← e]
  exact h7

/-! the rest by 5 -/
def h5 (s l : Nat) : Nat := ((64 * s + l) ^^^ s) % 5
def findB (s e l v : Nat) : Nat → Bool
  | 0 => false
  | k + 1 => (h5 (s + e * (k + 1)) l != v) || findB s e l v k
def allB3 (s e : Nat) : Nat → Bool
  | 0 => true
  | l + 1 => findB s e l (h5 s l) 65 && allB3 s e l
def allB2 (e : Nat) : Nat → Bool
  | 0 => true
  | s + 1 => allB3 s e 64 && allB2 e s
def allB1 : Nat → Bool
  | 0 => true
  | i + 1 => allB2 (2 + 29 * i) (2 + 29 * i) && allB1 i
theorem checkB : allB1 16 = true := by decide +kernel
theorem findB_iff {s e l v : Nat} : ∀ {k : Nat}, findB s e l v k = true → ∃ m, m ≤ k ∧ h5 (s + e * m) l ≠ v
  | 0, h => by simp [findB] at h
  | k + 1, h => by
    simp only [findB, Bool.or_eq_true, bne_iff_ne, ne_eq] at h
    rcases h with h | h
    · exact ⟨k + 1, by omega, h⟩
    · obtain ⟨j, h1, h2⟩ := findB_iff h
      exact ⟨j, by omega, h2⟩
theorem allB3_iff {s e : Nat} : ∀ {n : Nat}, allB3 s e n = true → ∀ l, l < n → findB s e l (h5 s l) 65 = true
  | 0, _, r, hr => by omega
  | n + 1, h, r, hr => by
    simp only [allB3, Bool.and_eq_true] at h
    by_cases e : r = n
    · rw [e]; exact h.1
    · exact allB3_iff h.2 r (by omega)
theorem allB2_iff {e : Nat} : ∀ {n : Nat}, allB2 e n = true → ∀ s, s < n → allB3 s e 64 = true
  | 0, _, r, hr => by omega
  | n + 1, h, r, hr => by
    simp only [allB2, Bool.and_eq_true] at h
    by_cases e : r = n
    · rw [e]; exact h.1
    · exact allB2_iff h.2 r (by omega)
theorem allB1_iff : ∀ {n : Nat}, allB1 n = true → ∀ i, i < n → allB2 (2 + 29 * i) (2 + 29 * i) = true
  | 0, _, r, hr => by omega
  | n + 1, h, r, hr => by
    simp only [allB1, Bool.and_eq_true] at h
    by_cases e : r = n
    · rw [e]; exact h.1
    · exact allB1_iff h.2 r (by omega)

/-- Far apart bits do not meet. -/
theorem fx_split {A u : Nat} (hu : u < 2 ^ 24) : fx (2 ^ 30 * A + u) = 2 ^ 24 * ((64 * A) ^^^ A) + fx u := by
  have h0 : fx (2 ^ 30 * A + u) = 2 ^ 24 * (fx (2 ^ 30 * A + u) / 2 ^ 24) + fx (2 ^ 30 * A + u) % 2 ^ 24 := (Nat.div_add_mod _ _).symm
  rw [h0]
  unfold fx
  rw [Nat.xor_div_two_pow, Nat.xor_mod_two_pow]
  have e1 : (2 ^ 30 * A + u) / 2 ^ 24 = 64 * A := by omega
  have e2 : (2 ^ 30 * A + u) / 64 / 2 ^ 24 = A := by omega
  have e3 : (2 ^ 30 * A + u) % 2 ^ 24 = u := by omega
  have e4 : (2 ^ 30 * A + u) / 64 % 2 ^ 24 = u / 64 := by omega
  rw [e1, e2, e3, e4]
theorem fx_low {s l : Nat} (hl : l < 512) : fx (512 * s + l) = 8 * ((64 * s + l / 8) ^^^ s) + g8 l := by
  have h0 : fx (512 * s + l) = 8 * (fx (512 * s + l) / 8) + fx (512 * s + l) % 8 := (Nat.div_add_mod _ _).symm
  rw [h0, fx_mod8]
  have e0 : (512 * s + l) % 512 = l := by omega
  rw [e0]
  unfold fx
  rw [show (8 : Nat) = 2 ^ 3 from rfl, Nat.xor_div_two_pow]
  have e1 : (512 * s + l) / 2 ^ 3 = 64 * s + l / 2 ^ 3 := by omega
  have e2 : (512 * s + l) / 64 / 2 ^ 3 = s := by omega
  rw [e1, e2]

theorem endB {i x : Nat} (hi : i < 16) : ∃ j, j ≤ 2097400 ∧ fx (x + 512 * (2 + 29 * i) * j) % 40 ≠ 1 := by
  obtain ⟨e, he⟩ : ∃ e, e = 2 + 29 * i := ⟨_, rfl⟩
  have hc := allB1_iff checkB i hi
  rw [← he] at hc ⊢
  have he2 : 2 ≤ e ∧ e ≤ 437 := by omega
  obtain ⟨X, hX⟩ : ∃ X, X = x / 512 := ⟨_, rfl⟩
  obtain ⟨l, hl⟩ : ∃ l, l = x % 512 := ⟨_, rfl⟩
  have hx : x = 512 * X + l := by omega
  have hl2 : l < 512 := by omega
  -- the first place behind the next multiple of 2 ^ 21
  obtain ⟨q, hq⟩ : ∃ q, q = (2 ^ 21 - X % 2 ^ 21 + e - 1) / e := ⟨_, rfl⟩
  have hm1 : e * q ≤ 2 ^ 21 - X % 2 ^ 21 + e - 1 := by rw [hq]; exact Nat.mul_div_le _ _
  have hm2 : 2 ^ 21 - X % 2 ^ 21 + e - 1 < e * q + e := by rw [hq]; exact Nat.lt_mul_div_succ _ (by omega)
  have hq2 : q ≤ 2 ^ 21 := by
    have : 2 * q ≤ e * q := Nat.mul_le_mul_right _ he2.1
    omega
  obtain ⟨s, hs⟩ : ∃ s, s = X % 2 ^ 21 + e * q - 2 ^ 21 := ⟨_, rfl⟩
  have hs2 : s < e := by omega
  obtain ⟨A, hA⟩ : ∃ A, A = X / 2 ^ 21 + 1 := ⟨_, rfl⟩
  have hXq : X + e * q = 2 ^ 21 * A + s := by omega
  have hf := findB_iff (allB3_iff (allB2_iff hc s hs2) (l / 8) (by omega))
  obtain ⟨m, hm, hne⟩ := hf
  have key : ∀ n, n ≤ 65 → fx (x + 512 * e * (q + n)) = 2 ^ 24 * ((64 * A) ^^^ A) + (8 * ((64 * (s + e * n) + l / 8) ^^^ (s + e * n)) + g8 l) := by
    intro n hn
    have hen : e * n ≤ 437 * 65 := Nat.mul_le_mul he2.2 hn
    have e1 : x + 512 * e * (q + n) = 2 ^ 30 * A + (512 * (s + e * n) + l) := by
      rw [hx, Nat.mul_assoc, Nat.mul_add e]
      omega
    rw [e1, fx_split (by omega), fx_low hl2]
  by_cases h1 : fx (x + 512 * e * (q + 0)) % 40 = 1
  · refine ⟨q + m, by omega, fun h2 => hne ?_⟩
    rw [key 0 (by omega)] at h1
    rw [key m hm] at h2
    unfold h5
    simp only [Nat.mul_zero, Nat.add_zero] at h1
    omega
  · exact ⟨q + 0, by omega, h1⟩

/-- However the drawn numbers behind the end run: one of them is no 1. -/
theorem ends {L x : Nat} (_h1 : 1 ≤ L) (h2 : L ≤ 2000) : ∃ j, j ≤ 2097400 ∧ fx (x + (116 * L + 212) * j) % 40 ≠ 1 := by
  by_cases h : (116 * L + 212) % 512 = 0
  · obtain ⟨i, hi⟩ : ∃ i, L = 7 + 128 * i := ⟨(L - 7) / 128, by omega⟩
    obtain ⟨j, h3, h4⟩ := endB (i := i) (x := x) (by omega)
    refine ⟨j, h3, ?_⟩
    rw [show 116 * L + 212 = 512 * (2 + 29 * i) by omega]
    exact h4
  · obtain ⟨j, h3, h4⟩ := endA (c := 116 * L + 212) (x := x) (by omega) h
    exact ⟨j, by omega, h4⟩
end Go.Proofs.Ytdeahlommlgceaa.Nt

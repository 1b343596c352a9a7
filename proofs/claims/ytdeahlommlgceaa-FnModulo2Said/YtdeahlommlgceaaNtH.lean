/- Equations up to powers of 2 and of 3, and the symbols there. -/
import Derived.Test.YtdeahlommlgceaaNtE
namespace Go.Proofs.Ytdeahlommlgceaa.Nt

/-- Solved up to m by three integers, not all of which p divides. -/
def Ex (a b p m : Int) : Prop := ∃ x y z : Int, (0 ≤ x ∧ x < m) ∧ (0 ≤ y ∧ y < m) ∧ (0 ≤ z ∧ z < m) ∧ ¬ (p ∣ x ∧ p ∣ y ∧ p ∣ z) ∧ m ∣ z * z - a * x * x - b * y * y

theorem emod_dvd_iff {p m x : Int} (h : p ∣ m) : p ∣ x % m ↔ p ∣ x := by
  obtain ⟨d, hd⟩ := rest_dvd m x
  obtain ⟨c, hc⟩ := h
  constructor
  · rintro ⟨k, hk⟩; exact ⟨k - c * d, by rw [hk] at hd; rw [hc] at hd; grind⟩
  · rintro ⟨k, hk⟩; exact ⟨k + c * d, by rw [hc] at hd; grind⟩

/-- From any integers. -/
theorem Ex.of {a b p m x y z : Int} (hm : 0 < m) (hpm : p ∣ m) (hn : ¬ (p ∣ x ∧ p ∣ y ∧ p ∣ z)) (h : m ∣ z * z - a * x * x - b * y * y) : Ex a b p m := by
  refine ⟨x % m, y % m, z % m, ⟨Int.emod_nonneg _ (by omega), Int.emod_lt_of_pos _ hm⟩, ⟨Int.emod_nonneg _ (by omega), Int.emod_lt_of_pos _ hm⟩, ⟨Int.emod_nonneg _ (by omega), Int.emod_lt_of_pos _ hm⟩, ?_, ?_⟩
  · rw [emod_dvd_iff hpm, emod_dvd_iff hpm, emod_dvd_iff hpm]; exact hn
  · obtain ⟨d, hd⟩ := rest_dvd m x
    obtain ⟨e, he⟩ := rest_dvd m y
    obtain ⟨f, hf⟩ := rest_dvd m z
    obtain ⟨c, hc⟩ := h
    refine ⟨c + f * (z % m + z) - a * d * (x % m + x) - b * e * (y % m + y), ?_⟩
    generalize x % m = X at *
    generalize y % m = Y at *
    generalize z % m = Z at *
    have e1 : X = x + m * d := by omega
    have e2 : Y = y + m * e := by omega
    have e3 : Z = z + m * f := by omega
    rw [e1, e2, e3]
    grind

theorem Ex.down {a b p m n : Int} (hm : 0 < m) (hpm : p ∣ m) (hmn : m ∣ n) (h : Ex a b p n) : Ex a b p m := by
  obtain ⟨x, y, z, _, _, _, h1, h2⟩ := h
  exact Ex.of hm hpm h1 (Int.dvd_trans hmn h2)

/-- It goes by rests. -/
theorem Ex.congr {a b a' b' p m : Int} (ha : m ∣ a - a') (hb : m ∣ b - b') (h : Ex a b p m) : Ex a' b' p m := by
  obtain ⟨x, y, z, h1, h2, h3, h4, h5⟩ := h
  refine ⟨x, y, z, h1, h2, h3, h4, ?_⟩
  obtain ⟨c, hc⟩ := ha
  obtain ⟨d, hd⟩ := hb
  obtain ⟨e, he⟩ := h5
  exact ⟨e + c * x * x + d * y * y, by
    have e1 : a = a' + m * c := by omega
    have e2 : b = b' + m * d := by omega
    rw [e1, e2] at he
    grind⟩

/-- Squares by 27, and whether 3 divides the root; by 32 and by 8 likewise, with 2. -/
def q27 : List (Nat × Bool) := [(1, false), (4, false), (7, false), (10, false), (13, false), (16, false), (19, false), (22, false), (25, false), (0, true), (9, true)]
def q32 : List (Nat × Bool) := [(1, false), (9, false), (17, false), (25, false), (0, true), (4, true), (16, true)]
def q8 : List (Nat × Bool) := [(1, false), (0, true), (4, true)]
def solB (m : Nat) (q : List (Nat × Bool)) (A B : Nat) : Bool := q.any fun s => q.any fun t => q.any fun w => (!(s.2 && t.2 && w.2)) && ((A * s.1 + B * t.1) % m == w.1)

theorem q27_mem : ∀ x ∈ List.range 27, (x * x % 27, x % 3 == 0) ∈ q27 := by decide
theorem q32_mem : ∀ x ∈ List.range 32, (x * x % 32, x % 2 == 0) ∈ q32 := by decide
theorem q27_ex : ∀ s ∈ q27, ∃ x ∈ List.range 27, x * x % 27 = s.1 ∧ (x % 3 == 0) = s.2 := by decide
theorem q8_ex : ∀ s ∈ q8, ∃ x ∈ List.range 8, x * x % 8 = s.1 ∧ (x % 2 == 0) = s.2 := by decide

theorem nat_dvd_iff {p x : Nat} (_hp : 0 < p) : ((x % p == 0) = true) ↔ (p : Int) ∣ x := by
  rw [beq_iff_eq]
  constructor
  · intro h; exact Int.natCast_dvd_natCast.2 (Nat.dvd_of_mod_eq_zero h)
  · intro h; exact Nat.mod_eq_zero_of_dvd (Int.natCast_dvd_natCast.1 h)

/-- A solution is found in the list of squares. -/
theorem solB_of {m p : Nat} {q : List (Nat × Bool)} (_hm : 0 < m) (hp : 0 < p) (hq : ∀ x ∈ List.range m, (x * x % m, x % p == 0) ∈ q) {A B : Nat} (h : Ex A B p m) : solB m q A B = true := by
  obtain ⟨x, y, z, ⟨x0, x1⟩, ⟨y0, y1⟩, ⟨z0, z1⟩, h4, h5⟩ := h
  obtain ⟨x, rfl⟩ := Int.eq_ofNat_of_zero_le x0
  obtain ⟨y, rfl⟩ := Int.eq_ofNat_of_zero_le y0
  obtain ⟨z, rfl⟩ := Int.eq_ofNat_of_zero_le z0
  unfold solB
  rw [List.any_eq_true]
  refine ⟨_, hq x (by simp; omega), ?_⟩
  rw [List.any_eq_true]
  refine ⟨_, hq y (by simp; omega), ?_⟩
  rw [List.any_eq_true]
  refine ⟨_, hq z (by simp; omega), ?_⟩
  dsimp only
  rw [Bool.and_eq_true]
  constructor
  · rw [Bool.not_eq_true']
    rw [Bool.eq_false_iff]
    intro hc
    simp only [Bool.and_eq_true] at hc
    exact h4 ⟨(nat_dvd_iff hp).1 hc.1.1, (nat_dvd_iff hp).1 hc.1.2, (nat_dvd_iff hp).1 hc.2⟩
  · rw [beq_iff_eq]
    have e : (((A * (x * x % m) + B * (y * y % m)) % m : Nat) : Int) = ((z * z % m : Nat) : Int) := by
      push_cast
      have h6 := (mod_eq_of_dvd (p := (m : Int)) (x := (z : Int) * z) (y := (A : Int) * x * x + (B : Int) * y * y) (by
        obtain ⟨c, hc⟩ := h5
        exact ⟨c, by rw [← hc]; omega⟩))
      rw [h6]
      rw [Int.add_emod, Int.mul_emod (A : Int), Int.mul_emod (B : Int), Int.emod_emod, Int.emod_emod, ← Int.mul_emod, ← Int.mul_emod, ← Int.add_emod]
      rw [Int.mul_assoc, Int.mul_assoc]
    exact_mod_cast e

theorem ex_of_solB {m p : Nat} {q : List (Nat × Bool)} (hm : 0 < m) (hp : 0 < p) (hpm : p ∣ m) (hq : ∀ s ∈ q, ∃ x ∈ List.range m, x * x % m = s.1 ∧ (x % p == 0) = s.2) {A B : Nat} (h : solB m q A B = true) : Ex A B p m := by
  unfold solB at h
  simp only [List.any_eq_true] at h
  obtain ⟨s, hs, t, ht, w, hw, hh⟩ := h
  rw [Bool.and_eq_true, Bool.not_eq_true'] at hh
  obtain ⟨h1, h2⟩ := hh
  obtain ⟨x, _, x1, x2⟩ := hq s hs
  obtain ⟨y, _, y1, y2⟩ := hq t ht
  obtain ⟨z, _, z1, z2⟩ := hq w hw
  refine Ex.of (x := x) (y := y) (z := z) (by omega) (Int.natCast_dvd_natCast.2 hpm) ?_ ?_
  · rintro ⟨d1, d2, d3⟩
    rw [← x2, ← y2, ← z2, (nat_dvd_iff hp).2 d1, (nat_dvd_iff hp).2 d2, (nat_dvd_iff hp).2 d3] at h1
    simp at h1
  · rw [beq_iff_eq, ← x1, ← y1, ← z1] at h2
    have e : (((A * (x * x % m) + B * (y * y % m)) % m : Nat) : Int) = ((z * z % m : Nat) : Int) := by rw [h2]
    push_cast at e
    rw [Int.add_emod, Int.mul_emod (A : Int), Int.mul_emod (B : Int), Int.emod_emod, Int.emod_emod, ← Int.mul_emod, ← Int.mul_emod, ← Int.add_emod] at e
    have := Int.dvd_of_emod_eq_zero (Int.emod_eq_emod_iff_emod_sub_eq_zero.1 e.symm)
    obtain ⟨c, hc⟩ := this
    exact ⟨c, by rw [← hc]; grind⟩

/-- The kernel's work. -/
def low (p A : Nat) : Bool := A % (p * p) != 0
set_option maxRecDepth 100000 in
theorem fin27 : ∀ A ∈ List.range 27, ∀ B ∈ List.range 27, low 3 A = true → low 3 B = true → hil A B 3 = 1 ∨ solB 27 q27 A B = false := by
  have h : (List.range 27).all (fun A => (List.range 27).all fun B => !(low 3 A) || !(low 3 B) || hil A B 3 == 1 || !(solB 27 q27 A B)) = true := by decide +kernel
  intro A hA B hB h1 h2
  have := List.all_eq_true.1 (List.all_eq_true.1 h A hA) B hB
  simp only [h1, h2, Bool.not_true, Bool.false_or, Bool.or_eq_true, beq_iff_eq, Bool.not_eq_true'] at this
  exact this
set_option maxRecDepth 100000 in
theorem fin32 : ∀ A ∈ List.range 32, ∀ B ∈ List.range 32, low 2 A = true → low 2 B = true → hil A B 2 = 1 ∨ solB 32 q32 A B = false := by
  have h : (List.range 32).all (fun A => (List.range 32).all fun B => !(low 2 A) || !(low 2 B) || hil A B 2 == 1 || !(solB 32 q32 A B)) = true := by decide +kernel
  intro A hA B hB h1 h2
  have := List.all_eq_true.1 (List.all_eq_true.1 h A hA) B hB
  simp only [h1, h2, Bool.not_true, Bool.false_or, Bool.or_eq_true, beq_iff_eq, Bool.not_eq_true'] at this
  exact this
set_option maxRecDepth 100000 in
theorem back27 : ∀ A ∈ List.range 27, ∀ B ∈ List.range 27, A ≠ 0 → B ≠ 0 → hil A B 3 = 1 → solB 27 q27 A B = true := by
  have h : (List.range 27).all (fun A => (List.range 27).all fun B => A == 0 || B == 0 || hil A B 3 != 1 || solB 27 q27 A B) = true := by decide +kernel
  intro A hA B hB h1 h2 h3
  have := List.all_eq_true.1 (List.all_eq_true.1 h A hA) B hB
  simpa [h1, h2, h3] using this
set_option maxRecDepth 100000 in
theorem back8 : ∀ A ∈ List.range 16, ∀ B ∈ List.range 16, low 2 A = true → low 2 B = true → hil A B 2 = 1 → solB 8 q8 A B = true := by
  have h : (List.range 16).all (fun A => (List.range 16).all fun B => !(low 2 A) || !(low 2 B) || hil A B 2 != 1 || solB 8 q8 A B) = true := by decide +kernel
  intro A hA B hB h1 h2 h3
  have := List.all_eq_true.1 (List.all_eq_true.1 h A hA) B hB
  simpa [h1, h2, h3] using this

/-- What a rest by 27 keeps: how often 3 divides, and what is left by 3. -/
theorem keep27 {a : Int} (h : ¬ (27 : Int) ∣ a) : a % 27 ≠ 0 ∧ vl (a % 27) 3 = vl a 3 ∧ (3 : Int) ∣ un (a % 27) 3 - un a 3 := by
  have ha : a ≠ 0 := fun e => h (e ▸ Int.dvd_zero 27)
  have hA : a % 27 ≠ 0 := fun e => h (Int.dvd_of_emod_eq_zero e)
  obtain ⟨s1, s2⟩ := vl_spec (p := 3) (by omega) ha
  obtain ⟨d, hd⟩ := rest_dvd 27 a
  have hv : vl a 3 ≤ 2 := by
    rcases Nat.lt_or_ge 2 (vl a 3) with h3 | h3
    · exfalso
      apply h
      obtain ⟨t, ht⟩ : ∃ t, vl a 3 = 3 + t := ⟨vl a 3 - 3, by omega⟩
      rw [ht, Int.pow_add] at s1
      exact ⟨un a 3 * 3 ^ t, by rw [s1]; grind⟩
    · exact h3
  obtain ⟨u, hu⟩ : ∃ u, a % 27 = (un a 3 + 3 * u) * 3 ^ vl a 3 := by
    rcases (by omega : vl a 3 = 0 ∨ vl a 3 = 1 ∨ vl a 3 = 2) with e | e | e
    · exact ⟨9 * d, by rw [e] at s1 ⊢; simp at s1 ⊢; omega⟩
    · exact ⟨3 * d, by rw [e] at s1 ⊢; simp at s1 ⊢; omega⟩
    · exact ⟨d, by rw [e] at s1 ⊢; simp [Int.pow_succ] at s1 ⊢; omega⟩
  have hnd : ¬ (3 : Int) ∣ un a 3 + 3 * u := by omega
  obtain ⟨k1, k2⟩ := vl_eq (p := 3) (by omega) hA hnd hu
  exact ⟨hA, k1, by rw [k2]; exact ⟨u, by omega⟩⟩

theorem hil27 {a b : Int} (ha : ¬ (27 : Int) ∣ a) (hb : ¬ (27 : Int) ∣ b) : hil (a % 27) (b % 27) 3 = hil a b 3 := by
  obtain ⟨a1, a2, a3⟩ := keep27 ha
  obtain ⟨b1, b2, b3⟩ := keep27 hb
  unfold hil
  rw [if_neg (by omega), if_neg (by omega), if_neg (by omega), if_neg (by omega), a2, b2]
  unfold hilp
  rw [leg_congr (by omega) a3, leg_congr (by omega) b3]

/-- What a rest by a power of 2 keeps. -/
theorem keep2 {a m : Int} (hm : (16 : Int) ∣ m) (h0 : 0 < m) (h : ¬ (4 : Int) ∣ a) : a % m ≠ 0 ∧ vl (a % m) 2 = vl a 2 ∧ un (a % m) 2 % 8 = un a 2 % 8 := by
  have ha : a ≠ 0 := fun e => h (e ▸ Int.dvd_zero 4)
  obtain ⟨c, rfl⟩ := hm
  obtain ⟨s1, s2⟩ := vl_spec (p := 2) (by omega) ha
  obtain ⟨d, hd⟩ := rest_dvd (16 * c) a
  have hA : a % (16 * c) ≠ 0 := by
    intro e
    rw [e] at hd
    apply h
    refine ⟨-(4 * (c * d)), ?_⟩
    have : 16 * c * d = 16 * (c * d) := by rw [Int.mul_assoc]
    omega
  have hv : vl a 2 ≤ 1 := by
    rcases Nat.lt_or_ge 1 (vl a 2) with h3 | h3
    · exfalso
      apply h
      obtain ⟨t, ht⟩ : ∃ t, vl a 2 = 2 + t := ⟨vl a 2 - 2, by omega⟩
      rw [ht, Int.pow_add] at s1
      exact ⟨un a 2 * 2 ^ t, by rw [s1]; grind⟩
    · exact h3
  have e16 : 16 * c * d = 16 * (c * d) := by rw [Int.mul_assoc]
  obtain ⟨u, hu⟩ : ∃ u, a % (16 * c) = (un a 2 + 8 * u) * 2 ^ vl a 2 := by
    rcases (by omega : vl a 2 = 0 ∨ vl a 2 = 1) with e | e
    · exact ⟨2 * (c * d), by rw [e] at s1 ⊢; simp at s1 ⊢; omega⟩
    · exact ⟨c * d, by rw [e] at s1 ⊢; simp at s1 ⊢; omega⟩
  have hnd : ¬ (2 : Int) ∣ un a 2 + 8 * u := by omega
  obtain ⟨k1, k2⟩ := vl_eq (p := 2) (by omega) hA hnd hu
  exact ⟨hA, k1, by rw [k2]; omega⟩

theorem hil_keep2 {a b m : Int} (hm : (16 : Int) ∣ m) (h0 : 0 < m) (ha : ¬ (4 : Int) ∣ a) (hb : ¬ (4 : Int) ∣ b) : hil (a % m) (b % m) 2 = hil a b 2 := by
  obtain ⟨a1, a2, a3⟩ := keep2 hm h0 ha
  obtain ⟨b1, b2, b3⟩ := keep2 hm h0 hb
  rw [hil_two, hil_two, a2, b2]
  exact hil2_mod rfl rfl a3 b3

theorem low_iff {p A : Nat} : low p A = true ↔ ¬ ((p * p : Nat) : Int) ∣ A := by
  unfold low
  rw [bne_iff_ne, ne_eq]
  constructor
  · intro h hd; exact h (Nat.mod_eq_zero_of_dvd (Int.natCast_dvd_natCast.1 hd))
  · intro h hd; exact h (Int.natCast_dvd_natCast.2 (Nat.dvd_of_mod_eq_zero hd))

theorem nat_of {a m : Int} (hm : 0 < m) : ∃ A : Nat, a % m = A ∧ (A : Int) < m := ⟨(a % m).toNat, (Int.toNat_of_nonneg (Int.emod_nonneg _ (by omega))).symm, by rw [Int.toNat_of_nonneg (Int.emod_nonneg _ (by omega))]; exact Int.emod_lt_of_pos _ hm⟩
theorem mod_sub (m a : Int) : m ∣ a - a % m := ⟨a / m, by have := Int.mul_ediv_add_emod a m; omega⟩

/-- What is solved up to 27 has the symbol 1 at 3, if no square of 3 divides. -/
theorem high3 {a b : Int} (ha : ¬ (9 : Int) ∣ a) (hb : ¬ (9 : Int) ∣ b) (h : Ex a b 3 27) : hil a b 3 = 1 := by
  obtain ⟨A, hA, hA2⟩ := nat_of (a := a) (show (0 : Int) < 27 by omega)
  obtain ⟨B, hB, hB2⟩ := nat_of (a := b) (show (0 : Int) < 27 by omega)
  have h' := Ex.congr (mod_sub 27 a) (mod_sub 27 b) h
  rw [hA, hB] at h'
  rw [← hil27 (fun e => ha (Int.dvd_trans ⟨3, by omega⟩ e)) (fun e => hb (Int.dvd_trans ⟨3, by omega⟩ e)), hA, hB]
  have k := solB_of (m := 27) (p := 3) (by omega) (by omega) q27_mem h'
  rcases fin27 A (by simp; omega) B (by simp; omega) (low_iff.2 (by rw [← hA]; omega)) (low_iff.2 (by rw [← hB]; omega)) with e | e
  · exact e
  · rw [e] at k; cases k
theorem high2 {a b : Int} (ha : ¬ (4 : Int) ∣ a) (hb : ¬ (4 : Int) ∣ b) (h : Ex a b 2 32) : hil a b 2 = 1 := by
  obtain ⟨A, hA, hA2⟩ := nat_of (a := a) (show (0 : Int) < 32 by omega)
  obtain ⟨B, hB, hB2⟩ := nat_of (a := b) (show (0 : Int) < 32 by omega)
  have h' := Ex.congr (mod_sub 32 a) (mod_sub 32 b) h
  rw [hA, hB] at h'
  rw [← hil_keep2 (m := 32) ⟨2, by omega⟩ (by omega) ha hb, hA, hB]
  have k := solB_of (m := 32) (p := 2) (by omega) (by omega) q32_mem h'
  rcases fin32 A (by simp; omega) B (by simp; omega) (low_iff.2 (by rw [← hA]; omega)) (low_iff.2 (by rw [← hB]; omega)) with e | e
  · exact e
  · rw [e] at k; cases k

/-- Where the symbol at 3 is 1, it is solved up to 27. -/
theorem back3 {a b : Int} (h : hil a b 3 = 1) : Ex a b 3 27 := by
  by_cases ha : (27 : Int) ∣ a
  · refine Ex.of (x := 1) (y := 0) (z := 0) (by omega) ⟨9, by omega⟩ (by omega) ?_
    obtain ⟨c, hc⟩ := ha
    exact ⟨-c, by omega⟩
  · by_cases hb : (27 : Int) ∣ b
    · refine Ex.of (x := 0) (y := 1) (z := 0) (by omega) ⟨9, by omega⟩ (by omega) ?_
      obtain ⟨c, hc⟩ := hb
      exact ⟨-c, by omega⟩
    · obtain ⟨A, hA, hA2⟩ := nat_of (a := a) (show (0 : Int) < 27 by omega)
      obtain ⟨B, hB, hB2⟩ := nat_of (a := b) (show (0 : Int) < 27 by omega)
      rw [← hil27 ha hb, hA, hB] at h
      have k := back27 A (by simp; omega) B (by simp; omega) (by omega) (by omega) h
      have := ex_of_solB (m := 27) (p := 3) (by omega) (by omega) ⟨9, by omega⟩ q27_ex k
      refine Ex.congr (a := A) (b := B) ?_ ?_ this
      · rw [← hA]; exact rest_dvd 27 a
      · rw [← hB]; exact rest_dvd 27 b
theorem back2 {a b : Int} (h : hil a b 2 = 1) : Ex a b 2 8 := by
  by_cases ha : (4 : Int) ∣ a
  · obtain ⟨c, hc⟩ := ha
    rcases (by omega : c % 2 = 0 ∨ c % 2 = 1) with e | e
    · exact Ex.of (x := 1) (y := 0) (z := 0) (by omega) ⟨4, by omega⟩ (by omega) ⟨-(c / 2), by omega⟩
    · exact Ex.of (x := 1) (y := 0) (z := 2) (by omega) ⟨4, by omega⟩ (by omega) ⟨-(c / 2), by omega⟩
  · by_cases hb : (4 : Int) ∣ b
    · obtain ⟨c, hc⟩ := hb
      rcases (by omega : c % 2 = 0 ∨ c % 2 = 1) with e | e
      · exact Ex.of (x := 0) (y := 1) (z := 0) (by omega) ⟨4, by omega⟩ (by omega) ⟨-(c / 2), by omega⟩
      · exact Ex.of (x := 0) (y := 1) (z := 2) (by omega) ⟨4, by omega⟩ (by omega) ⟨-(c / 2), by omega⟩
    · obtain ⟨A, hA, hA2⟩ := nat_of (a := a) (show (0 : Int) < 16 by omega)
      obtain ⟨B, hB, hB2⟩ := nat_of (a := b) (show (0 : Int) < 16 by omega)
      rw [← hil_keep2 (m := 16) ⟨1, by omega⟩ (by omega) ha hb, hA, hB] at h
      have k := back8 A (by simp; omega) B (by simp; omega) (low_iff.2 (by rw [← hA]; omega)) (low_iff.2 (by rw [← hB]; omega)) h
      have := ex_of_solB (m := 8) (p := 2) (by omega) (by omega) ⟨4, by omega⟩ q8_ex k
      refine Ex.congr (a := A) (b := B) ?_ ?_ this
      · rw [← hA]; exact Int.dvd_trans ⟨2, by omega⟩ (rest_dvd 16 a)
      · rw [← hB]; exact Int.dvd_trans ⟨2, by omega⟩ (rest_dvd 16 b)

end Go.Proofs.Ytdeahlommlgceaa.Nt

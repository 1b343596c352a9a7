/- Cores: a number is its core times a square, in one way. -/
import Derived.Test.YtkbklmlahnjcmaaNtG
namespace Go.Proofs.Ytkbklmlahnjcmaa.Nt

/-- No square of a prime divides. -/
def Sqf (c : Int) : Prop := ∀ q, Pr q → ¬ q * q ∣ c
/-- A number's core and root part. -/
def IsCore (n c r : Int) : Prop := n = c * (r * r) ∧ 1 ≤ r ∧ Sqf c

theorem sq_dvd_of_coprime {a b c : Nat} (hc : Nat.Coprime a b) (h : a * a ∣ c * (b * b)) : a * a ∣ c :=
  (Nat.Coprime.mul_right (hc.mul_left hc) (hc.mul_left hc)).dvd_of_dvd_mul_right h

theorem IsCore.uniq {n c r c' r' : Int} (_hn : n ≠ 0) (h : IsCore n c r) (h' : IsCore n c' r') : c = c' ∧ r = r' := by
  obtain ⟨h1, h2, h3⟩ := h
  obtain ⟨h1', h2', h3'⟩ := h'
  have key : ∀ {c r c' r' : Int}, n = c * (r * r) → n = c' * (r' * r') → 1 ≤ r → 1 ≤ r' → Sqf c' → r.natAbs ∣ r'.natAbs := by
    intro c r c' r' k1 k2 k3 k4 k5
    obtain ⟨s, s', g, hg, hco, e1, e2⟩ := Nat.exists_coprime' (show 0 < Nat.gcd r.natAbs r'.natAbs from Nat.gcd_pos_of_pos_left _ (by omega)) |> fun ⟨g, s, s', hg, hco, e1, e2⟩ => (⟨s, s', g, hg, hco, e1, e2⟩ : ∃ s s' g : Nat, 0 < g ∧ Nat.Coprime s s' ∧ r.natAbs = s * g ∧ r'.natAbs = s' * g)
    have e : c.natAbs * (s * s) = c'.natAbs * (s' * s') := by
      have e0 : c.natAbs * (r.natAbs * r.natAbs) = c'.natAbs * (r'.natAbs * r'.natAbs) := by
        rw [← Int.natAbs_mul, ← Int.natAbs_mul, ← Int.natAbs_mul, ← Int.natAbs_mul, ← k1, ← k2]
      rw [e1, e2] at e0
      have hgg : 0 < g * g := Nat.mul_pos hg hg
      refine Nat.eq_of_mul_eq_mul_right hgg ?_
      calc c.natAbs * (s * s) * (g * g) = c.natAbs * (s * g * (s * g)) := by grind
        _ = c'.natAbs * (s' * g * (s' * g)) := e0
        _ = c'.natAbs * (s' * s') * (g * g) := by grind
    have hd : s * s ∣ c'.natAbs := sq_dvd_of_coprime hco ⟨c.natAbs, by rw [← e, Nat.mul_comm]⟩
    have hs1 : s = 1 := by
      rcases Nat.lt_or_ge s 2 with h | h
      · have : s ≠ 0 := by intro e0; subst e0; simp at e1; omega
        omega
      · exfalso
        obtain ⟨q, hq, hqd⟩ := prime_factor s (s : Int) (by simp) h
        refine k5 q hq (Int.dvd_trans (Int.mul_dvd_mul hqd hqd) ?_)
        exact Int.dvd_natAbs.1 (by exact_mod_cast Int.natCast_dvd_natCast.2 hd)
    rw [e1, e2, hs1, Nat.one_mul]
    exact ⟨s', by rw [Nat.mul_comm]⟩
  have a := Nat.dvd_antisymm (key h1 h1' h2 h2' h3') (key h1' h1 h2' h2 h3)
  have hr : r = r' := by omega
  subst hr
  refine ⟨?_, rfl⟩
  have hrr : r * r ≠ 0 := Int.mul_ne_zero (by omega) (by omega)
  exact Int.eq_of_mul_eq_mul_right hrr (h1.symm.trans h1')

theorem IsCore.nz {n c r : Int} (hn : n ≠ 0) (h : IsCore n c r) : c ≠ 0 := by
  intro e
  have := h.1
  rw [e] at this
  simp at this
  exact hn this

/-- A core's own core. -/
theorem isCore_self {c : Int} (h : Sqf c) : IsCore c c 1 := ⟨by simp, by omega, h⟩

theorem IsCore.root_le {n c r : Int} (hn : n ≠ 0) (h : IsCore n c r) : r.natAbs * r.natAbs ≤ n.natAbs ∧ c.natAbs ≤ n.natAbs := by
  have hc := h.nz hn
  have h2 := h.2.1
  have e : n.natAbs = c.natAbs * (r.natAbs * r.natAbs) := by rw [← Int.natAbs_mul, ← Int.natAbs_mul, ← h.1]
  have a : 1 * (r.natAbs * r.natAbs) ≤ c.natAbs * (r.natAbs * r.natAbs) := Nat.mul_le_mul_right _ (by omega)
  have b : c.natAbs * (1 * 1) ≤ c.natAbs * (r.natAbs * r.natAbs) := Nat.mul_le_mul_left _ (Nat.mul_le_mul (by omega) (by omega))
  omega

/-- What is squarefree at a prime stays so in a part. -/
theorem not_sq_of_dvd {a b q : Int} (h : ¬ q * q ∣ a) (hd : b ∣ a) : ¬ q * q ∣ b := fun e => h (Int.dvd_trans e hd)

/-- Each number has a core. -/
theorem core_exists : ∀ {N : Int}, N ≠ 0 → ∃ c r, IsCore N c r := by
  have key : ∀ (m : Nat) (N : Int), N.natAbs = m → N ≠ 0 → ∃ c r, IsCore N c r := by
    intro m
    induction m using Nat.strongRecOn with
    | ind m ih =>
      intro N hm hN
      by_cases hs : Sqf N
      · exact ⟨N, 1, isCore_self hs⟩
      · have : ∃ q, Pr q ∧ q * q ∣ N := Classical.byContradiction fun hc => hs fun q h1 h2 => hc ⟨q, h1, h2⟩
        obtain ⟨q, hq, n, hn⟩ := this
        have hn0 : n ≠ 0 := by intro e; subst e; simp at hn; exact hN hn
        have h4 : 2 * 2 ≤ q * q := Int.mul_le_mul hq.1 hq.1 (by omega) (by have := hq.1; omega)
        have hlt : n.natAbs < m := by
          rw [← hm, hn, Int.natAbs_mul]
          have : 4 * n.natAbs ≤ (q * q).natAbs * n.natAbs := Nat.mul_le_mul_right _ (by omega)
          omega
        obtain ⟨c, r, h1, h2, h3⟩ := ih _ hlt n rfl hn0
        refine ⟨c, r * q, by rw [hn, h1]; grind, ?_, h3⟩
        have : 1 * 1 ≤ r * q := Int.mul_le_mul h2 (by have := hq.1; omega) (by omega) (by omega)
        omega
  intro N h
  exact key _ N rfl h

open Classical in
/-- The core of a number. -/
noncomputable def cor (n : Int) : Int := if h : n ≠ 0 then Classical.choose (core_exists h) else 0
open Classical in
/-- The root that goes with the core. -/
noncomputable def rt (n : Int) : Int := if h : n ≠ 0 then Classical.choose (Classical.choose_spec (core_exists h)) else 0
theorem cor_core {n : Int} (hn : n ≠ 0) : IsCore n (cor n) (rt n) := by
  unfold cor rt
  rw [dif_pos hn, dif_pos hn]
  exact Classical.choose_spec (Classical.choose_spec (core_exists hn))
theorem cor_eq {n c r : Int} (hn : n ≠ 0) (h : IsCore n c r) : c = cor n ∧ r = rt n := IsCore.uniq hn h (cor_core hn)
theorem cor_nz {n : Int} (hn : n ≠ 0) : cor n ≠ 0 := (cor_core hn).nz hn
theorem cor_le {n : Int} (hn : n ≠ 0) : (cor n).natAbs ≤ n.natAbs := ((cor_core hn).root_le hn).2
theorem cor_sq {n x : Int} (hn : n ≠ 0) (hx : x ≠ 0) : cor (n * (x * x)) = cor n := by
  obtain ⟨h1, h2, h3⟩ := cor_core hn
  have hN : n * (x * x) ≠ 0 := Int.mul_ne_zero hn (Int.mul_ne_zero hx hx)
  have hxx : x * x = (x.natAbs : Int) * (x.natAbs : Int) := Int.natAbs_mul_self.symm
  refine (cor_eq (r := rt n * (x.natAbs : Int)) hN ⟨?_, ?_, h3⟩).1.symm
  · rw [hxx]
    generalize (x.natAbs : Int) = y
    calc n * (y * y) = cor n * (rt n * rt n) * (y * y) := by rw [← h1]
      _ = cor n * (rt n * y * (rt n * y)) := by simp only [Int.mul_comm, Int.mul_left_comm, Int.mul_assoc]
  · have := Int.mul_le_mul h2 (show (1 : Int) ≤ (x.natAbs : Int) by omega) (by omega) (by omega)
    omega
theorem cor_cor {n : Int} (hn : n ≠ 0) : cor (cor n) = cor n := ((cor_eq (cor_nz hn) (isCore_self (cor_core hn).2.2)).1).symm
theorem rt_cor {n : Int} (hn : n ≠ 0) : rt (cor n) = 1 := ((cor_eq (cor_nz hn) (isCore_self (cor_core hn).2.2)).2).symm
theorem cor_mul {a b : Int} (ha : a ≠ 0) (hb : b ≠ 0) : cor (cor a * b) = cor (a * b) := by
  obtain ⟨h1, h2, h3⟩ := cor_core ha
  have hr : rt a ≠ 0 := by omega
  rw [← cor_sq (x := rt a) (Int.mul_ne_zero (cor_nz ha) hb) hr]
  congr 1
  rw [Int.mul_right_comm, ← h1]
theorem cor_mul_right {a b : Int} (ha : a ≠ 0) (hb : b ≠ 0) : cor (a * cor b) = cor (a * b) := by rw [Int.mul_comm, cor_mul hb ha, Int.mul_comm]
theorem cor_cancel {a b t : Int} (ha : a ≠ 0) (hb : b ≠ 0) (ht : t ≠ 0) : cor (a * t) = cor (b * t) ↔ cor a = cor b := by
  constructor
  · intro h
    have e : ∀ c : Int, c ≠ 0 → cor c = cor (cor (c * t) * t) := fun c hc => by
      rw [cor_mul (Int.mul_ne_zero hc ht) ht, Int.mul_assoc, cor_sq hc ht]
    rw [e a ha, e b hb, h]
  · intro h
    rw [← cor_mul ha ht, ← cor_mul hb ht, h]
end Go.Proofs.Ytkbklmlahnjcmaa.Nt

/- Valuations, local squares and symbols at a place: bilinear, and 1 where an equation is solved. -/
import Derived.Test.YtkbklmlahnjcmaaNtA
import Derived.Test.YtkbklmlahnjcmaaNtB
namespace Go.Proofs.Ytkbklmlahnjcmaa.Nt

/-- e to the k, for a sign e: its parity tells. -/
def pw (e : Int) (k : Nat) : Int := if k % 2 = 1 then e else 1

theorem pw_add {e : Int} (he : e = 1 ∨ e = -1) (k l : Nat) : pw e (k + l) = pw e k * pw e l := by
  unfold pw
  rcases he with rfl | rfl
  · split <;> split <;> split <;> first | rfl | (exfalso; omega)
  · split <;> split <;> split <;> first | rfl | (exfalso; omega)
theorem pw_mul (e f : Int) (k : Nat) : pw (e * f) k = pw e k * pw f k := by unfold pw; split <;> simp
theorem pw_pm {e : Int} (he : e = 1 ∨ e = -1) (k : Nat) : pw e k = 1 ∨ pw e k = -1 := by unfold pw; split <;> simp [he]
theorem pw_even {e : Int} {k : Nat} (h : k % 2 = 0) : pw e k = 1 := by unfold pw; rw [if_neg (by omega)]
theorem pw_odd {e : Int} {k : Nat} (h : k % 2 = 1) : pw e k = e := by unfold pw; rw [if_pos h]

/-- The parities of (u - 1) / 2 and of (u u - 1) / 8. -/
def e4 (u : Int) : Nat := if u % 4 = 3 then 1 else 0
def e8 (u : Int) : Nat := if u % 8 = 3 ∨ u % 8 = 5 then 1 else 0

/-- The symbol at the place 2, of what is left and of how often 2 divides. -/
def hil2 (i j : Nat) (u v : Int) : Int := pw (-1) (e4 u * e4 v + i * e8 v + j * e8 u)
/-- The symbol at an odd prime. -/
def hilp (i j : Nat) (u v p : Int) : Int := pw (leg (-1) p) (i * j) * pw (leg u p) j * pw (leg v p) i
/-- The symbol. -/
def hil (a b p : Int) : Int :=
  if p = 0 then (if a < 0 ∧ b < 0 then -1 else 1)
  else if p = 2 then hil2 (vl a 2) (vl b 2) (un a 2) (un b 2)
  else hilp (vl a p) (vl b p) (un a p) (un b p) p

/-- A place. -/
def Pl (p : Int) : Prop := p = 0 ∨ Pr p

theorem pr2 : Pr 2 := ⟨by omega, fun m h1 h2 => by have := Int.le_of_dvd (by omega) h2; omega⟩

theorem e4_mul {u v : Int} (hu : u % 2 = 1) (hv : v % 2 = 1) : e4 (u * v) % 2 = (e4 u + e4 v) % 2 := by
  unfold e4
  have h := Int.mul_emod u v 4
  have a : u % 4 = 1 ∨ u % 4 = 3 := by omega
  have b : v % 4 = 1 ∨ v % 4 = 3 := by omega
  rcases a with a | a <;> rcases b with b | b <;> rw [a, b] at h <;> simp [a, b, h]
theorem e8_mul {u v : Int} (hu : u % 2 = 1) (hv : v % 2 = 1) : e8 (u * v) % 2 = (e8 u + e8 v) % 2 := by
  unfold e8
  have h := Int.mul_emod u v 8
  have a : u % 8 = 1 ∨ u % 8 = 3 ∨ u % 8 = 5 ∨ u % 8 = 7 := by omega
  have b : v % 8 = 1 ∨ v % 8 = 3 ∨ v % 8 = 5 ∨ v % 8 = 7 := by omega
  rcases a with a | a | a | a <;> rcases b with b | b | b | b <;> rw [a, b] at h <;> simp [a, b, h]

theorem odd_of {u : Int} (h : ¬ (2 : Int) ∣ u) : u % 2 = 1 := by
  rcases (by omega : u % 2 = 0 ∨ u % 2 = 1) with e | e
  · exact absurd (Int.dvd_of_emod_eq_zero e) h
  · exact e

theorem pw_par {e : Int} {k l : Nat} (h : k % 2 = l % 2) : pw e k = pw e l := by unfold pw; rw [h]

theorem mul_par {a b c d : Nat} (h : a % 2 = c % 2) (h' : b % 2 = d % 2) : a * b % 2 = c * d % 2 := by
  rw [Nat.mul_mod, h, h', ← Nat.mul_mod]
theorem ev_mul {k l : Nat} (h : k % 2 = 0) : k * l % 2 = 0 := by rw [Nat.mul_mod, h]; simp
theorem add_par {a b c d : Nat} (h : a % 2 = c % 2) (h' : b % 2 = d % 2) : (a + b) % 2 = (c + d) % 2 := by omega

theorem hil_comm {a b p : Int} : hil a b p = hil b a p := by
  unfold hil
  split
  · simp only [and_comm]
  · split
    · unfold hil2; refine pw_par (by rw [Nat.mul_comm (e4 (un a 2))]; omega)
    · unfold hilp; rw [Nat.mul_comm (vl a p)]; grind

theorem hil_mul {a b c p : Int} (hp : Pl p) (ha : a ≠ 0) (hb : b ≠ 0) (hc : c ≠ 0) : hil (a * b) c p = hil a c p * hil b c p := by
  unfold hil
  split
  · by_cases hc' : c < 0
    · simp only [hc', and_true]
      rcases Int.lt_or_gt_of_ne ha with h | h <;> rcases Int.lt_or_gt_of_ne hb with h' | h'
      · have := Int.mul_pos_of_neg_of_neg h h'
        rw [if_neg (by omega), if_pos h, if_pos h']; rfl
      · have := Int.mul_neg_of_neg_of_pos h h'
        rw [if_pos (by omega), if_pos h, if_neg (by omega)]; rfl
      · have := Int.mul_neg_of_pos_of_neg h h'
        rw [if_pos (by omega), if_neg (by omega), if_pos h']; rfl
      · have := Int.mul_pos h h'
        rw [if_neg (by omega), if_neg (by omega), if_neg (by omega)]; rfl
    · simp [hc']
  · rename_i h0
    have hp := hp.resolve_left h0
    split
    · obtain ⟨m1, m2⟩ := vl_mul pr2 ha hb
      have oa := odd_of (vl_spec (by omega) ha : _ ∧ ¬ (2 : Int) ∣ un a 2).2
      have ob := odd_of (vl_spec (by omega) hb : _ ∧ ¬ (2 : Int) ∣ un b 2).2
      rw [m1, m2]
      unfold hil2
      rw [← pw_add (.inr rfl)]
      refine pw_par ?_
      have k1 := e4_mul oa ob
      have k2 := e8_mul oa ob
      have q1 := mul_par k1 (rfl : e4 (un c 2) % 2 = e4 (un c 2) % 2)
      have q2 := mul_par (rfl : vl c 2 % 2 = vl c 2 % 2) k2
      rw [Nat.add_mul] at q1
      rw [Nat.mul_add] at q2
      rw [Nat.add_mul]
      omega
    · rename_i h2
      obtain ⟨m1, m2⟩ := vl_mul hp ha hb
      rw [m1, m2]
      unfold hilp
      have hn1 : ¬ p ∣ (-1 : Int) := fun h => hp.not_dvd_one (by simpa using (Int.dvd_neg.2 h))
      have hc2 := (vl_spec hp.1 hc).2
      rw [leg_mul hp h2, pw_mul, Nat.add_mul, pw_add (leg_pm hn1), pw_add (leg_pm hc2)]
      grind

theorem hil_pm {a b p : Int} (hp : Pl p) (ha : a ≠ 0) (hb : b ≠ 0) : hil a b p = 1 ∨ hil a b p = -1 := by
  unfold hil
  split
  · split <;> simp
  · rename_i h0
    have hp := hp.resolve_left h0
    split
    · exact pw_pm (.inr rfl) _
    · have hn1 : ¬ p ∣ (-1 : Int) := fun h => hp.not_dvd_one (by simpa using (Int.dvd_neg.2 h))
      have x := pw_pm (leg_pm hn1) (vl a p * vl b p)
      have y := pw_pm (leg_pm (vl_spec hp.1 ha).2) (vl b p)
      have z := pw_pm (leg_pm (vl_spec hp.1 hb).2) (vl a p)
      unfold hilp
      rcases x with x | x <;> rcases y with y | y <;> rcases z with z | z <;> rw [x, y, z] <;> simp

theorem hil_mul_right {a b c p : Int} (hp : Pl p) (ha : a ≠ 0) (hb : b ≠ 0) (hc : c ≠ 0) : hil a (b * c) p = hil a b p * hil a c p := by
  rw [hil_comm, hil_mul hp hb hc ha, hil_comm, hil_comm (a := c)]

theorem pm_sq {e : Int} (h : e = 1 ∨ e = -1) : e * e = 1 := by rcases h with rfl | rfl <;> rfl

theorem hil_sq {a b p : Int} (hp : Pl p) (ha : a ≠ 0) (hb : b ≠ 0) : hil (a * a) b p = 1 := by
  rw [hil_mul hp ha ha hb]; exact pm_sq (hil_pm hp ha hb)

theorem hil_mul_sq {a b x p : Int} (hp : Pl p) (ha : a ≠ 0) (hb : b ≠ 0) (hx : x ≠ 0) : hil (a * (x * x)) b p = hil a b p := by
  rw [hil_mul hp ha (Int.mul_ne_zero hx hx) hb, hil_sq hp hx hb, Int.mul_one]

/-- A local square. -/
def lsq (n p : Int) : Bool :=
  if p = 0 then decide (0 < n)
  else if vl n p % 2 = 0 then (if p = 2 then un n 2 % 8 == 1 else leg (un n p) p == 1) else false

theorem hil_lsq {a b p : Int} (hp : Pl p) (_ha : a ≠ 0) (_hb : b ≠ 0) (h : lsq a p = true) : hil a b p = 1 := by
  unfold lsq at h
  unfold hil
  split
  · rename_i h0
    rw [if_pos h0] at h
    have : 0 < a := by simpa using h
    rw [if_neg (by omega)]
  · rename_i h0
    rw [if_neg h0] at h
    split at h
    · rename_i hv
      split
      · rename_i h2
        subst h2
        rw [if_pos rfl] at h
        have h8 : un a 2 % 8 = 1 := by simpa using h
        unfold hil2
        refine pw_even ?_
        have x4 : e4 (un a 2) = 0 := by unfold e4; rw [if_neg (by omega)]
        have x8 : e8 (un a 2) = 0 := by unfold e8; rw [if_neg (by omega)]
        rw [x4, x8]
        have := ev_mul (l := e8 (un b 2)) hv
        simp only [Nat.zero_mul, Nat.mul_zero, Nat.zero_add, Nat.add_zero]
        exact this
      · rename_i h2
        rw [if_neg h2] at h
        have h1 : leg (un a p) p = 1 := by simpa using h
        unfold hilp
        rw [h1, pw_even (k := vl a p) hv]
        have hx : (vl a p * vl b p) % 2 = 0 := ev_mul hv
        rw [pw_even hx]
        unfold pw; split <;> rfl
    · exact absurd h (by simp)

theorem hn1 {p : Int} (hp : Pr p) : ¬ p ∣ (-1 : Int) := fun h => hp.not_dvd_one (by simpa using (Int.dvd_neg.2 h))

theorem vl_neg {a p : Int} (hp : 2 ≤ p) (ha : a ≠ 0) : vl (-a) p = vl a p ∧ un (-a) p = -un a p := by
  obtain ⟨h1, h2⟩ := vl_spec hp ha
  exact vl_eq hp (by omega) (fun h => h2 (by simpa using Int.dvd_neg.2 h)) (by rw [Int.neg_mul, ← h1])

theorem hil_neg {a p : Int} (hp : Pl p) (ha : a ≠ 0) : hil a (-a) p = 1 := by
  unfold hil
  split
  · rw [if_neg (by omega)]
  · rename_i h0
    have hp := hp.resolve_left h0
    split
    · obtain ⟨m1, m2⟩ := vl_neg (p := 2) (by omega) ha
      have oa := odd_of (vl_spec (by omega) ha : _ ∧ ¬ (2 : Int) ∣ un a 2).2
      rw [m1, m2]
      unfold hil2
      refine pw_even ?_
      have x : e4 (un a 2) * e4 (-un a 2) = 0 := by
        unfold e4
        rcases (by omega : un a 2 % 4 = 1 ∨ un a 2 % 4 = 3) with h | h
        · rw [if_neg (by omega)]; simp
        · rw [if_neg (c := -un a 2 % 4 = 3) (by omega)]; simp
      have y : e8 (-un a 2) = e8 (un a 2) := by
        unfold e8
        have : (-un a 2 % 8 = 3 ∨ -un a 2 % 8 = 5) ↔ (un a 2 % 8 = 3 ∨ un a 2 % 8 = 5) := by omega
        simp only [this]
      rw [x, y]
      omega
    · rename_i h2
      obtain ⟨m1, m2⟩ := vl_neg hp.1 ha
      rw [m1, m2]
      unfold hilp
      have hu := (vl_spec hp.1 ha).2
      have e : leg (-un a p) p = leg (-1) p * leg (un a p) p := by rw [← leg_mul hp h2]; congr 1; omega
      rw [e, pw_mul]
      have s : pw (leg (-1) p) (vl a p * vl a p) = pw (leg (-1) p) (vl a p) := pw_par (by rcases Nat.mod_two_eq_zero_or_one (vl a p) with h | h <;> rw [Nat.mul_mod, h])
      rw [s]
      have A := pm_sq (pw_pm (leg_pm (hn1 hp)) (vl a p))
      have B := pm_sq (pw_pm (leg_pm hu) (vl a p))
      grind

theorem hil_self {a p : Int} (hp : Pl p) (ha : a ≠ 0) : hil a a p = hil a (-1) p := by
  have h := hil_neg hp ha
  have e : (-a : Int) = a * (-1) := by omega
  rw [e, hil_mul_right hp ha ha (by omega)] at h
  have A := hil_pm hp ha ha
  have B := hil_pm hp ha (show (-1 : Int) ≠ 0 by omega)
  rcases A with A | A <;> rcases B with B | B <;> rw [A, B] at h ⊢ <;> simp at h

theorem hil_one {b p : Int} (hp : Pl p) (hb : b ≠ 0) : hil 1 b p = 1 := by
  have := hil_sq (a := 1) hp (by omega) hb
  simpa using this

theorem lsq_sq {x p : Int} (hp : Pl p) (hx : x ≠ 0) : lsq (x * x) p = true := by
  unfold lsq
  split
  · have : 0 < x * x := by rcases Int.lt_or_gt_of_ne hx with h | h; exact Int.mul_pos_of_neg_of_neg h h; exact Int.mul_pos h h
    simpa using this
  · rename_i h0
    have hp := hp.resolve_left h0
    obtain ⟨m1, m2⟩ := vl_mul hp hx hx
    rw [m1, if_pos (by omega)]
    split
    · rename_i h2
      subst h2
      rw [m2]
      have ox := odd_of (vl_spec (by omega) hx : _ ∧ ¬ (2 : Int) ∣ un x 2).2
      have h := Int.mul_emod (un x 2) (un x 2) 8
      have a : un x 2 % 8 = 1 ∨ un x 2 % 8 = 3 ∨ un x 2 % 8 = 5 ∨ un x 2 % 8 = 7 := by omega
      rcases a with a | a | a | a <;> rw [a] at h <;> simp [h]
    · rw [m2, leg_sq hp.pos (fun h => by
        have hu := (vl_spec hp.1 hx).2
        exact (hp.dvd_mul h).elim hu hu)]
      rfl

/-- Local squares multiply. -/
theorem lsq_mul_right {a b p : Int} (hp : Pl p) (ha : a ≠ 0) (hb : b ≠ 0) (hl : lsq b p = true) : lsq (a * b) p = lsq a p := by
  unfold lsq at hl ⊢
  split
  · rename_i h0
    rw [if_pos h0] at hl
    have hl : 0 < b := by simpa using hl
    have : 0 < a * b ↔ 0 < a := ⟨fun h => Int.pos_of_mul_pos_left h hl |> fun h => h, fun h => Int.mul_pos h hl⟩
    simp [this]
  · rename_i h0
    rw [if_neg h0] at hl
    have hp := hp.resolve_left h0
    obtain ⟨m1, m2⟩ := vl_mul hp ha hb
    rw [m1, m2]
    split at hl
    · rename_i hv
      have e : (vl a p + vl b p) % 2 = vl a p % 2 := by omega
      rw [e]
      split at hl
      · rename_i h2
        subst h2
        have hl : un b 2 % 8 = 1 := by simpa using hl
        have : un a 2 * un b 2 % 8 = un a 2 % 8 := by rw [Int.mul_emod, hl]; simp
        simp [m2, this]
      · rename_i h2
        have hl : leg (un b p) p = 1 := by simpa using hl
        rw [if_neg h2, if_neg h2, leg_mul hp h2, hl, Int.mul_one]
    · exact absurd hl (by simp)

theorem mod8_mul {a b c d : Int} (h : a % 8 = c % 8) (h' : b % 8 = d % 8) : a * b % 8 = c * d % 8 := by rw [Int.mul_emod, h, h', ← Int.mul_emod]

theorem pw_zero_of_even {e : Int} {k l : Nat} (h : k % 2 = 0) : pw e (k * l) = 1 := pw_even (by rw [Nat.mul_mod, h]; simp)
theorem pw_zero_of_even' {e : Int} {k l : Nat} (h : l % 2 = 0) : pw e (k * l) = 1 := by rw [Nat.mul_comm]; exact pw_zero_of_even h

/-- Two numbers whose sum is a square that is not 0: at an odd prime. -/
theorem steinberg_odd {a b c p : Int} (hp : Pr p) (h2 : p ≠ 2) (ha : a ≠ 0) (hb : b ≠ 0) (hc : c ≠ 0) (h : a + b = c * c) : hil a b p = 1 := by
  obtain ⟨a1, a2⟩ := vl_spec hp.1 ha
  obtain ⟨b1, b2⟩ := vl_spec hp.1 hb
  have hcc := Int.mul_ne_zero hc hc
  obtain ⟨m1, m2⟩ := vl_mul hp hc hc
  have hl : leg (un c p * un c p) p = 1 := leg_sq hp.pos (fun h => by
        have hu := (vl_spec hp.1 hc).2
        exact (hp.dvd_mul h).elim hu hu)
  have key : ∀ {x y : Int}, x ≠ 0 → y ≠ 0 → x + y = c * c → vl x p < vl y p → lsq x p = true := by
    intro x y hx hy hxy hlt
    obtain ⟨x1, x2⟩ := vl_spec hp.1 hx
    obtain ⟨y1, y2⟩ := vl_spec hp.1 hy
    obtain ⟨d, hd⟩ : ∃ d, vl y p = vl x p + 1 + d := ⟨vl y p - vl x p - 1, by omega⟩
    rw [hd, Int.pow_add, Int.pow_succ] at y1
    have e : c * c = (un x p + p * (p ^ d * un y p)) * p ^ vl x p := by
      rw [← hxy]
      generalize p ^ vl x p = X at *
      generalize p ^ d = D at *
      generalize un x p = U at *
      generalize un y p = V at *
      rw [x1, y1]; grind
    have hnd : ¬ p ∣ un x p + p * (p ^ d * un y p) := by
      intro ⟨t, ht⟩
      exact x2 ⟨t - p ^ d * un y p, by rw [Int.mul_sub]; omega⟩
    obtain ⟨k1, k2⟩ := vl_eq hp.1 hcc hnd e
    unfold lsq
    rw [if_neg (by have := hp.1; omega), if_pos (by omega), if_neg h2]
    have : leg (un x p) p = leg (un c p * un c p) p := by
      rw [← m2, k2]
      exact leg_congr hp.pos ⟨-(p ^ d * un y p), by grind⟩
    rw [this, hl]; rfl
  rcases Nat.lt_trichotomy (vl a p) (vl b p) with hlt | heq | hgt
  · exact hil_lsq (.inr hp) ha hb (key ha hb h hlt)
  · unfold hil
    rw [if_neg (by have := hp.1; omega), if_neg h2]
    unfold hilp
    rw [← heq]
    rcases Nat.mod_two_eq_zero_or_one (vl a p) with hv | hv
    · rw [pw_zero_of_even hv, pw_even hv, pw_even hv]; rfl
    · rw [pw_odd (by rw [Nat.mul_mod, hv]), pw_odd hv, pw_odd hv, ← leg_mul hp h2, ← leg_mul hp h2]
      have hs : p ∣ un a p + un b p := by
        obtain ⟨c1, c2⟩ := vl_spec hp.1 hcc
        have e : c * c = (un a p + un b p) * p ^ vl a p := by
          rw [← h]
          rw [← heq] at b1
          generalize p ^ vl a p = X at *
          generalize un a p = U at *
          generalize un b p = V at *
          rw [a1, b1]; grind
        by_cases hd : p ∣ un a p + un b p
        · exact hd
        · obtain ⟨k1, _⟩ := vl_eq hp.1 hcc hd e
          omega
      obtain ⟨t, ht⟩ := hs
      have hbb : ¬ p ∣ un a p * un a p := fun h => (hp.dvd_mul h).elim a2 a2
      rw [leg_congr (v := un a p * un a p) hp.pos ⟨-(un a p * t), by
        have : un b p = p * t - un a p := by omega
        rw [this]; grind⟩]
      exact leg_sq hp.pos hbb
  · rw [hil_comm]
    exact hil_lsq (.inr hp) hb ha (key hb ha (by omega) hgt)

theorem sq8 {w : Int} (h : w % 2 = 1) : w * w % 8 = 1 := by
  have h' := Int.mul_emod w w 8
  have a : w % 8 = 1 ∨ w % 8 = 3 ∨ w % 8 = 5 ∨ w % 8 = 7 := by omega
  rcases a with a | a | a | a <;> rw [a] at h' <;> simp [h']

theorem hil2_mod {i j i' j' : Nat} {u v u' v' : Int} (hi : i % 2 = i' % 2) (hj : j % 2 = j' % 2) (hu : u % 8 = u' % 8) (hv : v % 8 = v' % 8) : hil2 i j u v = hil2 i' j' u' v' := by
  unfold hil2
  have a4 : e4 u = e4 u' := by unfold e4; rw [show u % 4 = u' % 4 by omega]
  have b4 : e4 v = e4 v' := by unfold e4; rw [show v % 4 = v' % 4 by omega]
  have a8 : e8 u = e8 u' := by unfold e8; rw [hu]
  have b8 : e8 v = e8 v' := by unfold e8; rw [hv]
  rw [a4, b4, a8, b8]
  refine pw_par ?_
  have q1 := mul_par hi (rfl : e8 v' % 2 = e8 v' % 2)
  have q2 := mul_par hj (rfl : e8 u' % 2 = e8 u' % 2)
  omega

theorem fin_lt1 : ∀ u ∈ [1, 3, 5, 7], ∀ v ∈ [(1 : Int), 3, 5, 7], (u + 2 * v) % 8 = 1 → hil2 0 1 u v = 1 := by decide
theorem fin_lt2 : ∀ u ∈ [1, 3, 5, 7], ∀ v ∈ [(1 : Int), 3, 5, 7], (u + 4 * v) % 8 = 1 → hil2 0 0 u v = 1 := by decide
theorem fin_lt3 : ∀ v ∈ [(1 : Int), 3, 5, 7], ∀ j ∈ [0, 1], hil2 0 j 1 v = 1 := by decide
theorem fin_eq0 : ∀ u ∈ [1, 3, 5, 7], ∀ v ∈ [(1 : Int), 3, 5, 7], (u + v) % 4 = 0 → hil2 0 0 u v = 1 := by decide
theorem fin_eq1 : ∀ u ∈ [1, 3, 5, 7], ∀ v ∈ [(1 : Int), 3, 5, 7], (u + v) % 8 = 0 ∨ (u + v) % 8 = 2 → hil2 1 1 u v = 1 := by decide

theorem odd_mem {u : Int} (h : u % 2 = 1) : u % 8 ∈ [(1 : Int), 3, 5, 7] := by
  have a : u % 8 = 1 ∨ u % 8 = 3 ∨ u % 8 = 5 ∨ u % 8 = 7 := by omega
  rcases a with a | a | a | a <;> rw [a] <;> simp

theorem hil_two (a b : Int) : hil a b 2 = hil2 (vl a 2) (vl b 2) (un a 2) (un b 2) := by unfold hil; rw [if_neg (by omega), if_pos rfl]

/-- The same at 2. -/
theorem steinberg_two {a b c : Int} (ha : a ≠ 0) (hb : b ≠ 0) (hc : c ≠ 0) (h : a + b = c * c) : hil a b 2 = 1 := by
  have hcc := Int.mul_ne_zero hc hc
  obtain ⟨m1, m2⟩ := vl_mul pr2 hc hc
  have oc := odd_of (vl_spec (p := 2) (by omega) hc).2
  have hsq := sq8 oc
  rw [← m2] at hsq
  have key : ∀ {x y : Int}, x ≠ 0 → y ≠ 0 → x + y = c * c → vl x 2 < vl y 2 → hil x y 2 = 1 := by
    intro x y hx hy hxy hlt
    obtain ⟨x1, x2⟩ := vl_spec (p := 2) (by omega) hx
    obtain ⟨y1, y2⟩ := vl_spec (p := 2) (by omega) hy
    have ox := odd_of x2
    have oy := odd_of y2
    obtain ⟨d, hd⟩ : ∃ d, vl y 2 = vl x 2 + (d + 1) := ⟨vl y 2 - vl x 2 - 1, by omega⟩
    have e : c * c = (un x 2 + 2 ^ (d + 1) * un y 2) * 2 ^ vl x 2 := by
      rw [← hxy]
      rw [hd, Int.pow_add] at y1
      generalize (2 : Int) ^ vl x 2 = X at *
      generalize (2 : Int) ^ (d + 1) = D at *
      generalize un x 2 = U at *
      generalize un y 2 = V at *
      rw [x1, y1]; grind
    have hnd : ¬ (2 : Int) ∣ un x 2 + 2 ^ (d + 1) * un y 2 := by
      rw [Int.pow_succ, Int.mul_comm _ 2, Int.mul_assoc]
      generalize (2 : Int) ^ d * un y 2 = T
      omega
    obtain ⟨k1, k2⟩ := vl_eq (p := 2) (by omega) hcc hnd e
    rw [k2] at hsq
    have ev : vl x 2 % 2 = 0 := by omega
    rw [hil_two]
    match d, hd, hsq with
    | 0, hd, hsq =>
      rw [hil2_mod (i' := 0) (j' := 1) (u' := un x 2 % 8) (v' := un y 2 % 8) (by omega) (by omega) (by omega) (by omega)]
      exact fin_lt1 _ (odd_mem ox) _ (odd_mem oy) (by simp at hsq; omega)
    | 1, hd, hsq =>
      rw [hil2_mod (i' := 0) (j' := 0) (u' := un x 2 % 8) (v' := un y 2 % 8) (by omega) (by omega) (by omega) (by omega)]
      exact fin_lt2 _ (odd_mem ox) _ (odd_mem oy) (by simp at hsq; omega)
    | d + 2, hd, hsq =>
      have : un x 2 % 8 = 1 := by
        have e8 : (2 : Int) ^ (d + 2 + 1) * un y 2 = 8 * (2 ^ d * un y 2) := by
          rw [Int.pow_succ, Int.pow_succ, Int.pow_succ]; grind
        rw [e8] at hsq
        generalize (2 : Int) ^ d * un y 2 = T at hsq
        omega
      rw [hil2_mod (i' := 0) (j' := vl y 2 % 2) (u' := 1) (v' := un y 2 % 8) (by omega) (by omega) (by omega) (by omega)]
      exact fin_lt3 _ (odd_mem oy) _ (by rcases Nat.mod_two_eq_zero_or_one (vl y 2) with h | h <;> rw [h] <;> simp)
  obtain ⟨a1, a2⟩ := vl_spec (p := 2) (by omega) ha
  obtain ⟨b1, b2⟩ := vl_spec (p := 2) (by omega) hb
  have oa := odd_of a2
  have ob := odd_of b2
  rcases Nat.lt_trichotomy (vl a 2) (vl b 2) with hlt | heq | hgt
  · exact key ha hb h hlt
  · obtain ⟨c1, c2⟩ := vl_spec (p := 2) (by omega) hcc
    have e : c * c = (un a 2 + un b 2) * 2 ^ vl a 2 := by
      rw [← h]
      rw [← heq] at b1
      generalize (2 : Int) ^ vl a 2 = X at *
      generalize un a 2 = U at *
      generalize un b 2 = V at *
      rw [a1, b1]; grind
    have hpos := pow_pos' (p := 2) (by omega) (vl a 2)
    have hle : vl a 2 < vl (c * c) 2 := by
      rcases Nat.lt_or_ge (vl a 2) (vl (c * c) 2) with h' | h'
      · exact h'
      · exfalso
        obtain ⟨t, ht⟩ : ∃ t, vl a 2 = vl (c * c) 2 + t := ⟨vl a 2 - vl (c * c) 2, by omega⟩
        have hp2 := pow_pos' (p := 2) (by omega) (vl (c * c) 2)
        have e2 : un (c * c) 2 * 2 ^ vl (c * c) 2 = ((un a 2 + un b 2) * 2 ^ t) * 2 ^ vl (c * c) 2 :=
          c1.symm.trans (e.trans (by rw [ht, Int.pow_add]; grind))
        have e3 := Int.eq_of_mul_eq_mul_right (by omega) e2
        rw [e3] at c2
        apply c2
        obtain ⟨s, hs⟩ : ∃ s, un a 2 + un b 2 = 2 * s := ⟨(un a 2 + un b 2) / 2, by omega⟩
        exact ⟨s * 2 ^ t, by rw [hs]; grind⟩
    obtain ⟨s, hs⟩ : ∃ s, vl (c * c) 2 = vl a 2 + (s + 1) := ⟨vl (c * c) 2 - vl a 2 - 1, by omega⟩
    have e3 : un a 2 + un b 2 = un (c * c) 2 * 2 ^ (s + 1) := by
      refine Int.eq_of_mul_eq_mul_right (show (2 : Int) ^ vl a 2 ≠ 0 by omega) ?_
      rw [← e]
      rw [hs, Int.pow_add] at c1
      rw [← Int.mul_comm, ← Int.mul_comm] at c1 ⊢
      generalize (2 : Int) ^ vl a 2 = X at *
      generalize (2 : Int) ^ (s + 1) = D at *
      grind
    rw [hil_two]
    rcases Nat.mod_two_eq_zero_or_one (vl a 2) with hv | hv
    · rw [hil2_mod (i' := 0) (j' := 0) (u' := un a 2 % 8) (v' := un b 2 % 8) (by omega) (by omega) (by omega) (by omega)]
      refine fin_eq0 _ (odd_mem oa) _ (odd_mem ob) ?_
      obtain ⟨s', rfl⟩ : ∃ s', s = s' + 1 := ⟨s - 1, by omega⟩
      rw [Int.pow_succ, Int.pow_succ] at e3
      have : un a 2 + un b 2 = 4 * (un (c * c) 2 * 2 ^ s') := by rw [e3]; grind
      generalize un (c * c) 2 * 2 ^ s' = T at this
      omega
    · rw [hil2_mod (i' := 1) (j' := 1) (u' := un a 2 % 8) (v' := un b 2 % 8) (by omega) (by omega) (by omega) (by omega)]
      refine fin_eq1 _ (odd_mem oa) _ (odd_mem ob) ?_
      match s, hs, e3 with
      | 0, hs, e3 =>
        simp at e3
        right; omega
      | 1, hs, e3 => omega
      | s + 2, hs, e3 =>
        have : un a 2 + un b 2 = 8 * (un (c * c) 2 * 2 ^ s) := by rw [e3, Int.pow_succ, Int.pow_succ, Int.pow_succ]; grind
        generalize un (c * c) 2 * 2 ^ s = T at this
        left; omega
  · rw [hil_comm]
    exact key hb ha (by omega) hgt

/-- Two numbers whose sum is a square that is not 0 have the symbol 1. -/
theorem steinberg {a b c p : Int} (hp : Pl p) (ha : a ≠ 0) (hb : b ≠ 0) (hc : c ≠ 0) (h : a + b = c * c) : hil a b p = 1 := by
  rcases hp with rfl | hp
  · unfold hil
    rw [if_pos rfl, if_neg]
    intro hh
    have : 0 < c * c := by rcases Int.lt_or_gt_of_ne hc with h | h; exact Int.mul_pos_of_neg_of_neg h h; exact Int.mul_pos h h
    omega
  · by_cases h2 : p = 2
    · subst h2; exact steinberg_two ha hb hc h
    · exact steinberg_odd hp h2 ha hb hc h

/-- What is solved has the symbol 1. -/
theorem solved {a b x y z p : Int} (hp : Pl p) (ha : a ≠ 0) (hb : b ≠ 0) (hn : x ≠ 0 ∨ y ≠ 0 ∨ z ≠ 0) (h : z * z = a * (x * x) + b * (y * y)) : hil a b p = 1 := by
  by_cases hx : x = 0
  · subst hx
    by_cases hy : y = 0
    · subst hy
      have : z * z = 0 := by rw [h]; simp
      rcases Int.mul_eq_zero.1 this with h | h <;> simp [h] at hn
    · have hz : z ≠ 0 := by
        intro e; subst e
        have : b * (y * y) = 0 := by rw [Int.mul_zero] at h; simp at h ⊢; grind
        exact Int.mul_ne_zero hb (Int.mul_ne_zero hy hy) this
      rw [hil_comm, ← hil_mul_sq hp hb ha hy]
      have : b * (y * y) = z * z := by rw [h]; simp
      rw [this]; exact hil_sq hp hz ha
  · by_cases hy : y = 0
    · subst hy
      have hz : z ≠ 0 := by
        intro e; subst e
        have : a * (x * x) = 0 := by simp at h ⊢; grind
        exact Int.mul_ne_zero ha (Int.mul_ne_zero hx hx) this
      rw [← hil_mul_sq hp ha hb hx]
      have : a * (x * x) = z * z := by rw [h]; simp
      rw [this]; exact hil_sq hp hz hb
    · have hA := Int.mul_ne_zero ha (Int.mul_ne_zero hx hx)
      have hB := Int.mul_ne_zero hb (Int.mul_ne_zero hy hy)
      rw [← hil_mul_sq hp ha hb hx, hil_comm, ← hil_mul_sq hp hb hA hy, hil_comm]
      by_cases hz : z = 0
      · subst hz
        have : b * (y * y) = -(a * (x * x)) := by omega
        rw [this]; exact hil_neg hp hA
      · exact steinberg hp hA hB hz h.symm

end Go.Proofs.Ytkbklmlahnjcmaa.Nt

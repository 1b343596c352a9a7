/- What the printed functions of the law FnNormal compute, and why the law holds of it; for all arguments that its statement speaks of. -/
import Derived.Test.YtdeahlommlgceaaH
import Derived.Test.YtdeahlommlgceaaPFnNormalx12
import Derived.Test.YtdeahlommlgceaaNtB
import Derived.Test.YtdeahlommlgceaaNtG
import Derived.Test.YtdeahlommlgceaaNtI
import Derived.Test.YtdeahlommlgceaaNtR
import Derived.Test.YtdeahlommlgceaaNtK
import Derived.Test.YtdeahlommlgceaaNtA
import Derived.Test.YtdeahlommlgceaaNtC
import Derived.Test.YtdeahlommlgceaaNtD
import Derived.Test.YtdeahlommlgceaaNtE
import Derived.Test.YtdeahlommlgceaaNtF
import Derived.Test.YtdeahlommlgceaaNtM
set_option linter.unusedVariables false
set_option linter.unusedSimpArgs false
namespace Go.Proofs.Ytdeahlommlgceaa.KFnNormal
open Go.RowKit Go.Proofs.YtdeahlommlgceaaW.PrintWords Go.Proofs.YtdeahlommlgceaaW.PrintLast Go.Proofs.YtdeahlommlgceaaW.PrintMore Go.Proofs.Ytdeahlommlgceaa.PFnNormal Go.Proofs.Ytdeahlommlgceaa.K
open Go.Proofs.Ytdeahlommlgceaa
theorem tmod_emod {a m : Int} (h : 0 ≤ a) : Int.tmod a m = a % m := Int.tmod_eq_emod_of_nonneg h
theorem tdiv_ediv {a m : Int} (h : 0 ≤ a) : Int.tdiv a m = a / m := Int.tdiv_eq_ediv_of_nonneg h
theorem small_mul2 {a b : Int} (ha : 0 ≤ a) (ha' : a ≤ 5000) (hb : 0 ≤ b) (hb' : b ≤ 5000) : 0 ≤ a * b ∧ a * b ≤ 25000000 := by
 have h1 : a * b ≤ 5000 * 5000 := Int.mul_le_mul (by omega) (by omega) hb (by omega)
 have h2 := Int.mul_nonneg ha hb
 omega
theorem sq_le {m p : Int} (h0 : 2 ≤ m) (h : m * m ≤ p) : m < p := by
 have : m * 2 ≤ m * m := Int.mul_le_mul_of_nonneg_left h0 (by omega)
 omega
theorem small_sq {m : Int} (h0 : 0 ≤ m) (h : m ≤ 100000) : 0 ≤ m * m ∧ m * m ≤ 10000000000 := by
 have h1 : m * m ≤ m * 100000 := Int.mul_le_mul_of_nonneg_left h h0
 have h2 := Int.mul_nonneg h0 h0
 omega
theorem pl_ex {n : Int} (hn : 1 ≤ n) : ∃ L, Nt.IsPL n L := by
 classical
 refine ⟨((List.range (n.toNat + 1)).filter (fun p : Nat => decide (Nt.Pr (p : Int) ∧ (p : Int) ∣ n))).map (fun p : Nat => (p : Int)), ?_, fun p => ?_⟩
 · rw [List.pairwise_map]
   exact (List.pairwise_lt_range.filter _).imp (fun h => by omega)
 · simp only [List.mem_map, List.mem_filter, List.mem_range, decide_eq_true_eq]
   constructor
   · rintro ⟨q, ⟨_, h1, h2⟩, rfl⟩
     exact ⟨h1, h2⟩
   · rintro ⟨h1, h2⟩
     have := Int.le_of_dvd (by omega) h2
     have h3 := h1.1
     exact ⟨p.toNat, ⟨by omega, by rw [Int.toNat_of_nonneg (by omega)]; exact ⟨h1, h2⟩⟩, Int.toNat_of_nonneg (by omega)⟩
/-- The least prime that divides a number. -/
noncomputable def lp (g : Nat) : Int := (Classical.epsilon (fun L => Nt.IsPL (g : Int) L)).headD 1
theorem lp_eq {g : Nat} {L : List Int} (h : Nt.IsPL (g : Int) L) : lp g = L.headD 1 := by
 unfold lp
 rw [Nt.IsPL.uniq (Classical.epsilon_spec (p := fun L => Nt.IsPL (g : Int) L) ⟨L, h⟩) h]
theorem lp_of {g : Nat} {L : List Int} (h : Nt.IsPL (g : Int) L) (hg : 1 < g) : 0 < L.length ∧ rd L 0 = lp g ∧ Nt.Pr (lp g) ∧ lp g ∣ (g : Int) := by
 obtain ⟨p, hp, hd⟩ := Nt.pf (n := (g : Int)) (by omega)
 have hm := (h.2 p).2 ⟨hp, hd⟩
 match L, h, hm with
 | x :: r, h, hm =>
  have e := lp_eq h
  have hx := (h.2 x).1 (by simp)
  simp only [List.headD_cons] at e
  rw [e]
  exact ⟨by simp, rfl, hx.1, hx.2⟩
/-- The first two of three numbers that share a prime, told by the third one's place; and that prime. -/
noncomputable def two (a b c : Int) : Int × Int :=
 if 1 < Nat.gcd a.natAbs b.natAbs then (lp (Nat.gcd a.natAbs b.natAbs), 2)
 else if 1 < Nat.gcd c.natAbs a.natAbs then (lp (Nat.gcd c.natAbs a.natAbs), 1)
 else if 1 < Nat.gcd b.natAbs c.natAbs then (lp (Nat.gcd b.natAbs c.natAbs), 0)
 else (1, 0)
theorem dvd_gcd_abs {p : Int} {a b : Int} (h : p ∣ ((Nat.gcd a.natAbs b.natAbs : Nat) : Int)) : p ∣ a ∧ p ∣ b := by
 refine ⟨Int.dvd_natAbs.1 (Int.dvd_trans h ?_), Int.dvd_natAbs.1 (Int.dvd_trans h ?_)⟩
 · exact Int.ofNat_dvd.2 (Nat.gcd_dvd_left _ _)
 · exact Int.ofNat_dvd.2 (Nat.gcd_dvd_right _ _)
noncomputable def nrm : Nat → Int → Int → Int → Int → Int → Int → List Int × List Int
 | 0, a, b, c, m, n, o => ([a, b, c], [m, n, o])
 | f + 1, a, b, c, m, n, o =>
  if (two a b c).1 > 1 then
   if (two a b c).2 = 2 then
    if Int.tmod c (two a b c).1 = 0 then nrm f (Int.tdiv a (two a b c).1) (Int.tdiv b (two a b c).1) (Int.tdiv c (two a b c).1) m n o
    else nrm f (Int.tdiv a (two a b c).1) (Int.tdiv b (two a b c).1) (c * (two a b c).1) m n (o * (two a b c).1)
   else if (two a b c).2 = 1 then
    if Int.tmod b (two a b c).1 = 0 then nrm f (Int.tdiv a (two a b c).1) (Int.tdiv b (two a b c).1) (Int.tdiv c (two a b c).1) m n o
    else nrm f (Int.tdiv a (two a b c).1) (b * (two a b c).1) (Int.tdiv c (two a b c).1) m (n * (two a b c).1) o
   else
    if Int.tmod a (two a b c).1 = 0 then nrm f (Int.tdiv a (two a b c).1) (Int.tdiv b (two a b c).1) (Int.tdiv c (two a b c).1) m n o
    else nrm f (a * (two a b c).1) (Int.tdiv b (two a b c).1) (Int.tdiv c (two a b c).1) (m * (two a b c).1) n o
  else ([a, b, c], [m, n, o])
/-- What stays while terms are made normal. -/
def NI (t0 t1 t2 a b c m n o : Int) : Prop :=
 (a ≠ 0 ∧ b ≠ 0 ∧ c ≠ 0) ∧ (1 ≤ m ∧ 1 ≤ n ∧ 1 ≤ o) ∧ ∃ S, 1 ≤ S ∧ t0 * (m * m) = a * S ∧ t1 * (n * n) = b * S ∧ t2 * (o * o) = c * S ∧ (a * b * c).natAbs * S.natAbs ≤ 29791
theorem NI.rot {t0 t1 t2 a b c m n o : Int} (h : NI t0 t1 t2 a b c m n o) : NI t1 t2 t0 b c a n o m := by
 obtain ⟨⟨h1, h2, h3⟩, ⟨h4, h5, h6⟩, S, s1, s2, s3, s4, s5⟩ := h
 exact ⟨⟨h2, h3, h1⟩, ⟨h5, h6, h4⟩, S, s1, s3, s4, s2, by rw [show b * c * a = a * b * c by grind]; exact s5⟩
theorem abs_le_mul {x y : Int} (hy : y ≠ 0) : x.natAbs ≤ (x * y).natAbs := by
 rw [Int.natAbs_mul]
 exact Nat.le_mul_of_pos_right _ (by omega)
theorem NI.bd {t0 t1 t2 a b c m n o : Int} (h : NI t0 t1 t2 a b c m n o) : (a * b * c).natAbs ≤ 29791 ∧ a.natAbs ≤ 29791 ∧ m ≤ 29791 := by
 obtain ⟨⟨h1, h2, h3⟩, ⟨h4, h5, h6⟩, S, s1, s2, s3, s4, s5⟩ := h
 have hS : 1 ≤ S.natAbs := by omega
 have e1 : (a * b * c).natAbs ≤ (a * b * c).natAbs * S.natAbs := Nat.le_mul_of_pos_right _ hS
 have e2 : a.natAbs ≤ (a * b * c).natAbs := Nat.le_trans (abs_le_mul h2) (abs_le_mul h3)
 have e3 : (a * S).natAbs ≤ (a * b * c).natAbs * S.natAbs := by rw [Int.natAbs_mul]; exact Nat.mul_le_mul_right _ e2
 have ht : t0 ≠ 0 := by
  intro e
  rw [e, Int.zero_mul] at s2
  rcases Int.mul_eq_zero.1 s2.symm with h | h
  · exact h1 h
  · omega
 have e4 : (m * m).natAbs ≤ (t0 * (m * m)).natAbs := by rw [Int.mul_comm t0]; exact abs_le_mul ht
 have e5 : m.natAbs ≤ (m * m).natAbs := abs_le_mul (by omega)
 rw [s2] at e4
 omega
theorem NI.bds {t0 t1 t2 a b c m n o : Int} (h : NI t0 t1 t2 a b c m n o) : (a * b * c).natAbs ≤ 29791 ∧ (a.natAbs ≤ 29791 ∧ b.natAbs ≤ 29791 ∧ c.natAbs ≤ 29791) ∧ (m ≤ 29791 ∧ n ≤ 29791 ∧ o ≤ 29791) := by
 have h1 := h.bd
 have h2 := h.rot.bd
 have h3 := h.rot.rot.bd
 exact ⟨h1.1, ⟨h1.2.1, h2.2.1, h3.2.1⟩, ⟨h1.2.2, h2.2.2, h3.2.2⟩⟩
theorem NI.step {t0 t1 t2 a b c m n o p : Int} (h : NI t0 t1 t2 (p * a) (p * b) c m n o) (hp : 2 ≤ p) :
 (∀ c', c = p * c' → NI t0 t1 t2 a b c' m n o ∧ (a * b * c').natAbs < (p * a * (p * b) * c).natAbs) ∧ NI t0 t1 t2 a b (c * p) m n (o * p) ∧ (a * b * (c * p)).natAbs < (p * a * (p * b) * c).natAbs := by
 obtain ⟨⟨h1, h2, h3⟩, ⟨h4, h5, h6⟩, S, s1, s2, s3, s4, s5⟩ := h
 have ha : a ≠ 0 := fun e => h1 (by rw [e, Int.mul_zero])
 have hb : b ≠ 0 := fun e => h2 (by rw [e, Int.mul_zero])
 have hpS : 1 ≤ p * S := by
  have : 1 * 1 ≤ p * S := Int.mul_le_mul (by omega) s1 (by omega) (by omega)
  omega
 have pn : p.natAbs = p.toNat ∧ 2 ≤ p.natAbs := by omega
 have habc : 0 < (a * b * c).natAbs := Int.natAbs_pos.2 (Int.mul_ne_zero (Int.mul_ne_zero ha hb) h3)
 have E1 : (p * a * (p * b) * c).natAbs = p.natAbs * (p.natAbs * (a * b * c).natAbs) := by
  rw [← Int.natAbs_mul, ← Int.natAbs_mul]; congr 1; grind
 have E2 : (a * b * (c * p)).natAbs = p.natAbs * (a * b * c).natAbs := by
  rw [← Int.natAbs_mul]; congr 1; grind
 have E4 : (p * S).natAbs = p.natAbs * S.natAbs := Int.natAbs_mul _ _
 have lt1 : (a * b * c).natAbs < p.natAbs * (a * b * c).natAbs := by
  have : 2 * (a * b * c).natAbs ≤ p.natAbs * (a * b * c).natAbs := Nat.mul_le_mul_right _ pn.2
  omega
 have lt2 : p.natAbs * (a * b * c).natAbs < p.natAbs * (p.natAbs * (a * b * c).natAbs) := Nat.mul_lt_mul_of_pos_left lt1 (by omega)
 refine ⟨fun c' hc => ?_, ⟨⟨ha, hb, Int.mul_ne_zero h3 (by omega)⟩, ⟨h4, h5, ?_⟩, p * S, hpS, by rw [s2]; grind, by rw [s3]; grind, ?_, ?_⟩, by omega⟩
 · subst hc
   have hc' : c' ≠ 0 := fun e => h3 (by rw [e, Int.mul_zero])
   have E3 : (a * b * (p * c')).natAbs = p.natAbs * (a * b * c').natAbs := by
    rw [← Int.natAbs_mul]; congr 1; grind
   have le3 : (a * b * c').natAbs ≤ p.natAbs * (a * b * c').natAbs := Nat.le_mul_of_pos_left _ (by omega)
   refine ⟨⟨⟨ha, hb, hc'⟩, ⟨h4, h5, h6⟩, p * S, hpS, by rw [s2]; grind, by rw [s3]; grind, by rw [s4]; grind, ?_⟩, by omega⟩
   rw [E1, E3] at s5
   rw [E4]
   refine Nat.le_trans ?_ s5
   rw [show (a * b * c').natAbs * (p.natAbs * S.natAbs) = p.natAbs * (a * b * c').natAbs * S.natAbs by grind]
   exact Nat.mul_le_mul_right _ (Nat.le_trans (Nat.le_mul_of_pos_left _ (by omega)) (Nat.le_mul_of_pos_left _ (by omega)))
 · have : 1 * 1 ≤ o * p := Int.mul_le_mul h6 (by omega) (by omega) (by omega)
   omega
 · rw [show t2 * (o * p * (o * p)) = t2 * (o * o) * (p * p) by grind, s4]; grind
 · rw [E1] at s5
   rw [E2, E4]
   rw [show p.natAbs * (a * b * c).natAbs * (p.natAbs * S.natAbs) = p.natAbs * (p.natAbs * (a * b * c).natAbs) * S.natAbs by grind]
   exact s5
theorem tdiv_of {p x : Int} (hp : 2 ≤ p) : Int.tdiv (p * x) p = x := Int.mul_tdiv_cancel_left _ (by omega)
theorem two_step {a b c : Int} (ha : a ≠ 0) (hb : b ≠ 0) (hc : c ≠ 0) (ha2 : a.natAbs ≤ 1000000000000) (hb2 : b.natAbs ≤ 1000000000000) (hc2 : c.natAbs ≤ 1000000000000) :
 ((two a b c).1 = 1 ∧ (two a b c).2 = 0 ∧ Nat.gcd a.natAbs b.natAbs ≤ 1 ∧ Nat.gcd c.natAbs a.natAbs ≤ 1 ∧ Nat.gcd b.natAbs c.natAbs ≤ 1) ∨
  (Nt.Pr (two a b c).1 ∧ (((two a b c).2 = 2 ∧ (two a b c).1 ∣ a ∧ (two a b c).1 ∣ b) ∨ ((two a b c).2 = 1 ∧ (two a b c).1 ∣ c ∧ (two a b c).1 ∣ a) ∨ ((two a b c).2 = 0 ∧ (two a b c).1 ∣ b ∧ (two a b c).1 ∣ c))) := by
 have key : ∀ x y : Int, 1 < Nat.gcd x.natAbs y.natAbs → Nt.Pr (lp (Nat.gcd x.natAbs y.natAbs)) ∧ lp (Nat.gcd x.natAbs y.natAbs) ∣ x ∧ lp (Nat.gcd x.natAbs y.natAbs) ∣ y := by
  intro x y h
  obtain ⟨L, hL⟩ := pl_ex (n := ((Nat.gcd x.natAbs y.natAbs : Nat) : Int)) (by omega)
  obtain ⟨_, _, h1, h2⟩ := lp_of hL h
  exact ⟨h1, dvd_gcd_abs h2⟩
 unfold two
 by_cases c1 : 1 < Nat.gcd a.natAbs b.natAbs
 · rw [if_pos c1]
   obtain ⟨k1, k2, k3⟩ := key a b c1
   exact .inr ⟨k1, .inl ⟨rfl, k2, k3⟩⟩
 · rw [if_neg c1]
   by_cases c2 : 1 < Nat.gcd c.natAbs a.natAbs
   · rw [if_pos c2]
     obtain ⟨k1, k2, k3⟩ := key c a c2
     exact .inr ⟨k1, .inr (.inl ⟨rfl, k2, k3⟩)⟩
   · rw [if_neg c2]
     by_cases c3 : 1 < Nat.gcd b.natAbs c.natAbs
     · rw [if_pos c3]
       obtain ⟨k1, k2, k3⟩ := key b c c3
       exact .inr ⟨k1, .inr (.inr ⟨rfl, k2, k3⟩)⟩
     · rw [if_neg c3]
       exact .inl ⟨rfl, rfl, by omega, by omega, by omega⟩
theorem smx_abs (t : Int) : mx t (-t) = (t.natAbs : Int) := by unfold mx; split <;> omega
theorem spec_l1Size_eq {t : Int} (h : t.natAbs ≤ 1000000000000) : spec_l1Size.f t = some (t.natAbs : Int) := by
 unfold spec_l1Size.f
 rw [w64 (by omega) (by omega), smx_abs]
/-- The greatest number that divides g and all of a list. -/
def gf : Nat → List Int → Nat
 | g, [] => g
 | g, x :: r => gf (Nat.gcd g x.natAbs) r
def gl (l : List Int) : Nat := gf 0 l
theorem gcd_mod (a b : Nat) : Nat.gcd a b = Nat.gcd b (a % b) := by rw [Nat.gcd_comm a b, Nat.gcd_rec b a, Nat.gcd_comm]
theorem gf_dvd : ∀ (l : List Int) (g : Nat), gf g l ∣ g ∧ ∀ x ∈ l, gf g l ∣ x.natAbs
 | [], g => ⟨Nat.dvd_refl _, by simp⟩
 | x :: r, g => by
  obtain ⟨h1, h2⟩ := gf_dvd r (Nat.gcd g x.natAbs)
  refine ⟨Nat.dvd_trans h1 (Nat.gcd_dvd_left _ _), fun y hy => ?_⟩
  rcases List.mem_cons.1 hy with rfl | hy
  · exact Nat.dvd_trans h1 (Nat.gcd_dvd_right _ _)
  · exact h2 y hy
theorem gf_zero : ∀ (l : List Int) (g : Nat), gf g l = 0 ↔ g = 0 ∧ ∀ x ∈ l, x = 0
 | [], g => by simp [gf]
 | x :: r, g => by
  simp only [gf]
  rw [gf_zero r, Nat.gcd_eq_zero_iff]
  constructor
  · rintro ⟨⟨h1, h2⟩, h3⟩
    exact ⟨h1, fun y hy => by
     rcases List.mem_cons.1 hy with rfl | hy
     · omega
     · exact h3 y hy⟩
  · rintro ⟨h1, h2⟩
    exact ⟨⟨h1, by have := h2 x (by simp); omega⟩, fun y hy => h2 y (by simp [hy])⟩
theorem gl_zero {l : List Int} : gl l = 0 ↔ ∀ x ∈ l, x = 0 := by unfold gl; rw [gf_zero]; simp
theorem gf_mul (c : Int) : ∀ (l : List Int) (g : Nat), gf (c.natAbs * g) (l.map (c * ·)) = c.natAbs * gf g l
 | [], g => rfl
 | x :: r, g => by
  simp only [gf, List.map_cons]
  rw [Int.natAbs_mul, Nat.gcd_mul_left, gf_mul c r]
theorem gl_mul (c : Int) (l : List Int) : gl (l.map (c * ·)) = c.natAbs * gl l := by
 have := gf_mul c l 0
 simpa [gl] using this
theorem impl_size_abs {t : Int} (h : t.natAbs ≤ 1000000000000000) : impl_size.f t = some (t.natAbs : Int) := by
 unfold impl_size.f
 rw [w64 (by omega) (by omega), smx_abs]
theorem tmod_nat (a b : Nat) : Int.tmod (a : Int) (b : Int) = ((a % b : Nat) : Int) := by
 rw [Int.tmod_eq_emod_of_nonneg (by omega)]; rfl
theorem impl_gcd_l1 (L : List Int) (len : Int) (i : Nat) (hi : i ≤ 1000000) (res : Int) : ∀ (d x y : Nat), y ≤ d → Ev (fun k => impl_gcd.l0 k ((Nat.gcd x y : Nat) : Int) L len ((i + 1 : Nat) : Int)) res → Ev (fun k => impl_gcd.l1 k (x : Int) (y : Int) L len (i : Int)) res := by
 intro d
 induction d with
 | zero =>
  intro x y hy h
  obtain rfl : y = 0 := by omega
  refine Ev.succ ?_
  simp only [impl_gcd.l1]
  rw [w64 (by omega) (by omega), cast_succ]
  exact Ev.pos (by omega) (by simpa using h)
 | succ d ih =>
  intro x y hy h
  refine Ev.succ ?_
  simp only [impl_gcd.l1]
  by_cases c : y = 0
  · subst c
    rw [w64 (by omega) (by omega), cast_succ]
    exact Ev.pos (by omega) (by simpa using h)
  · refine Ev.neg (by omega) ?_
    rw [tmod_nat]
    exact ih y (x % y) (by have := Nat.mod_lt x (Nat.pos_of_ne_zero c); omega) (by rw [← gcd_mod]; exact h)
/-- Integers of moderate size. -/
def Mid (l : List Int) : Prop := l.length ≤ 1000000 ∧ ∀ x ∈ l, x.natAbs ≤ 1000000000000
theorem impl_gcd_l (L : List Int) (hL : Mid L) : ∀ (r : List Int) (i g : Nat), L.drop i = r → Ev (fun k => impl_gcd.l0 k (g : Int) L (L.length : Int) (i : Int)) ((gf g r : Nat) : Int)
 | [], i, g, h => by
  have := drop_nil h
  refine Ev.succ ?_
  simp only [impl_gcd.l0]
  exact Ev.neg (by omega) (Ev.now _)
 | x :: r, i, g, h => by
  obtain ⟨h1, h2, h3⟩ := drop_cons h
  have hx := hL.2 x (h2 ▸ rd_mem h1)
  have := hL.1
  refine Ev.succ ?_
  simp only [impl_gcd.l0]
  rw [h2, impl_size_abs (by omega)]
  exact Ev.pos (by omega) (Ev.pos (by omega) (Ev.pos (by omega) (Ev.sbind (impl_gcd_l1 L _ i (by omega) _ _ _ _ (Nat.le_refl _) (impl_gcd_l L hL r (i + 1) _ h3)))))
theorem impl_gcd_ev {L : List Int} (hL : Mid L) : Ev (fun k => impl_gcd.f k L) ((gl L : Nat) : Int) := by
 unfold impl_gcd.f
 exact impl_gcd_l L hL L 0 0 rfl
theorem spec_l1Gcd_l : ∀ (d x y : Nat), y ≤ d → Ev (fun k => spec_l1Gcd.l0 k (x : Int) (y : Int)) ((Nat.gcd x y : Nat) : Int) := by
 intro d
 induction d with
 | zero =>
  intro x y hy
  obtain rfl : y = 0 := by omega
  refine Ev.succ ?_
  simp only [spec_l1Gcd.l0]
  exact Ev.pos (by omega) (Ev.ret (by simp))
 | succ d ih =>
  intro x y hy
  refine Ev.succ ?_
  simp only [spec_l1Gcd.l0]
  by_cases c : y = 0
  · subst c
    exact Ev.pos (by omega) (Ev.ret (by simp))
  · refine Ev.neg (by omega) ?_
    rw [tmod_nat, gcd_mod]
    exact ih y (x % y) (by have := Nat.mod_lt x (Nat.pos_of_ne_zero c); omega)
theorem spec_l1Gcd_ev {a b : Int} (ha : a.natAbs ≤ 1000000000000) (hb : b.natAbs ≤ 1000000000000) : Ev (fun k => spec_l1Gcd.f k a b) ((Nat.gcd a.natAbs b.natAbs : Nat) : Int) := by
 unfold spec_l1Gcd.f
 rw [spec_l1Size_eq ha, spec_l1Size_eq hb]
 exact Ev.sbind (Ev.sbind (spec_l1Gcd_l _ _ _ (Nat.le_refl _)))
theorem div_facts {n p : Int} (hp : 2 ≤ p) (hn : n ≠ 0) (h : Int.tmod n p = 0) : Int.tdiv n p ≠ 0 ∧ (Int.tdiv n p).natAbs < n.natAbs ∧ Nt.vl n p = Nt.vl (Int.tdiv n p) p + 1 ∧ Nt.un n p = Nt.un (Int.tdiv n p) p := by
 obtain ⟨c, rfl⟩ := Nt.tmod_zero_iff.1 h
 rw [Int.mul_tdiv_cancel_left _ (by omega)]
 have hc : c ≠ 0 := by intro e; subst e; simp at hn
 refine ⟨hc, ?_, ?_⟩
 · rw [Int.natAbs_mul]
   have h1 : 2 ≤ p.natAbs := by omega
   have := Nat.mul_le_mul_right c.natAbs h1
   have : 0 < c.natAbs := by omega
   omega
 · obtain ⟨h1, h2⟩ := Nt.vl_spec hp hc
   refine Nt.vl_eq hp hn h2 ?_
   rw [Int.pow_succ]
   generalize p ^ Nt.vl c p = X at *
   generalize Nt.un c p = U at *
   rw [h1]; grind
theorem div_none {n p : Int} (hp : 2 ≤ p) (hn : n ≠ 0) (h : ¬ Int.tmod n p = 0) : Nt.vl n p = 0 ∧ Nt.un n p = n :=
 Nt.vl_unit hp hn (fun hd => h (Nt.tmod_zero_iff.2 hd))
theorem vl_le_abs {n p : Int} (hp : 2 ≤ p) : ∀ (d : Nat) (n : Int), n ≠ 0 → n.natAbs ≤ d → Nt.vl n p ≤ n.natAbs
 | 0, n, hn, h => by omega
 | d + 1, n, hn, h => by
  by_cases ht : Int.tmod n p = 0
  · obtain ⟨h1, h2, h3, _⟩ := div_facts hp hn ht
    have := vl_le_abs (n := n) hp d (Int.tdiv n p) h1 (by omega)
    omega
  · rw [(div_none hp hn ht).1]; omega
theorem ssq_small {p : Int} (h0 : 0 ≤ p) (h : p ≤ 1000001) : 0 ≤ p * p ∧ p * p ≤ 1000002000001 := by
 have h1 : p * p ≤ 1000001 * 1000001 := Int.mul_le_mul h h (by omega) (by omega)
 have h2 := Int.mul_nonneg h0 h0
 omega
theorem ssq_lt {p n : Int} (h : p * p ≤ n) (hn : n ≤ 1000000000000) (h0 : 0 ≤ p) : p ≤ 1000000 := by
 rcases Int.lt_or_le 1000000 p with h' | h'
 · have : 1000001 * 1000001 ≤ p * p := Int.mul_le_mul (by omega) (by omega) (by omega) (by omega)
   omega
 · exact h'
theorem spec_l1Primes_in {L out : List Int} {p : Int} (h2 : 2 ≤ p) (h3 : p ≤ 1000001) : ∀ (d : Nat) (n : Int), n ≠ 0 → n.natAbs ≤ d → d ≤ 1000000000000 →
 Ev (fun k => spec_l1Primes.l0 k (Nt.un n p) out (p + 1)) L → Ev (fun k => spec_l1Primes.l1 k n out p) L := by
 intro d
 induction d with
 | zero => intro n h0 hd; omega
 | succ d ih =>
  intro n h0 hd hd2 h
  refine Ev.succ ?_
  simp only [spec_l1Primes.l1]
  by_cases ht : Int.tmod n p = 0
  · obtain ⟨a1, a2, a3, a4⟩ := div_facts h2 h0 ht
    rw [w64 (x := Int.tdiv n p) (by omega) (by omega)]
    refine Ev.neg (by omega) (Ev.pos ht (ih (Int.tdiv n p) a1 (by omega) (by omega) ?_))
    rw [← a4]; exact h
  · obtain ⟨a1, a2⟩ := div_none h2 h0 ht
    rw [w64 (x := p + 1) (by omega) (by omega)]
    refine Ev.neg (by omega) (Ev.neg ht ?_)
    rw [a2] at h; exact h
theorem spec_l1Primes_l {N : Int} (hN : N ≤ 1000000000000) : ∀ (d : Nat) (n p : Int) (out : List Int), (1000001 - p).toNat ≤ d → 2 ≤ p → p ≤ 1000001 → (out.length : Int) ≤ p → Nt.St N n p out →
 ∃ L, Nt.IsPL N L ∧ Ev (fun k => spec_l1Primes.l0 k n out p) L := by
 intro d
 induction d with
 | zero =>
  intro n p out hd h2 h3 ho hS
  have hs := ssq_small (p := p) (by omega) h3
  have hle : n < p * p := by
   have e : p = 1000001 := by omega
   subst e
   have := hS.2.1
   omega
  refine ⟨_, hS.last h2 hle, Ev.succ ?_⟩
  simp only [spec_l1Primes.l0]
  rw [w64 (by omega) (by omega)]
  refine Ev.neg (by omega) ?_
  by_cases hn : n > 1
  · exact Ev.pos hn (Ev.pos (by omega) (Ev.ret (if_pos hn).symm))
  · exact Ev.neg hn (Ev.ret (if_neg hn).symm)
 | succ d ih =>
  intro n p out hd h2 h3 ho hS
  have hs := ssq_small (p := p) (by omega) h3
  have b1 := hS.1
  have b2 := hS.2.1
  by_cases hle : p * p ≤ n
  · have hp6 := ssq_lt hle (by omega) (by omega)
    by_cases hdv : p ∣ n
    · obtain ⟨L, h4, h5⟩ := ih (Nt.un n p) (p + 1) (out ++ [p]) (by omega) (by omega) (by omega) (by simp; omega) (hS.step h2 hdv)
      refine ⟨L, h4, Ev.succ ?_⟩
      simp only [spec_l1Primes.l0]
      rw [w64 (x := p * p) (by omega) (by omega)]
      refine Ev.pos hle (Ev.neg (by omega) (Ev.pos (Nt.tmod_zero_iff.2 hdv) (Ev.pos (by omega) (Ev.succ ?_))))
      simp only [spec_l1Primes.j1]
      exact spec_l1Primes_in h2 h3 _ n (by omega) (Nat.le_refl _) (by omega) h5
    · obtain ⟨L, h4, h5⟩ := ih n (p + 1) out (by omega) (by omega) (by omega) (by omega) (hS.skip hdv)
      refine ⟨L, h4, Ev.succ ?_⟩
      simp only [spec_l1Primes.l0]
      rw [w64 (x := p * p) (by omega) (by omega)]
      refine Ev.pos hle (Ev.neg (by omega) (Ev.neg (fun h => hdv (Nt.tmod_zero_iff.1 h)) (Ev.succ ?_)))
      simp only [spec_l1Primes.j1]
      refine spec_l1Primes_in h2 h3 _ n (by omega) (Nat.le_refl _) (by omega) ?_
      rw [(div_none h2 (by omega) (fun h => hdv (Nt.tmod_zero_iff.1 h))).2]; exact h5
  · refine ⟨_, hS.last h2 (by omega), Ev.succ ?_⟩
    simp only [spec_l1Primes.l0]
    rw [w64 (by omega) (by omega)]
    refine Ev.neg (by omega) ?_
    by_cases hn : n > 1
    · exact Ev.pos hn (Ev.pos (by omega) (Ev.ret (if_pos hn).symm))
    · exact Ev.neg hn (Ev.ret (if_neg hn).symm)
theorem spl_abs {n : Int} {L : List Int} (h : Nt.IsPL (n.natAbs : Int) L) : Nt.IsPL n L := ⟨h.1, fun p => by rw [h.2, Int.dvd_natAbs]⟩
theorem spec_l1Primes_ev {n : Int} (hn : n ≠ 0) (hn2 : n.natAbs ≤ 1000000000000) : ∃ L, Nt.IsPL n L ∧ Ev (fun k => spec_l1Primes.f k n) L := by
 obtain ⟨L, h1, h2⟩ := spec_l1Primes_l (N := (n.natAbs : Int)) (by omega) _ (n.natAbs : Int) 2 [] (Nat.le_refl _) (by omega) (by omega) (by simp) (Nt.St.start (by omega))
 refine ⟨L, spl_abs h1, ?_⟩
 unfold spec_l1Primes.f
 rw [spec_l1Size_eq (by omega)]
 exact Ev.sbind h2
theorem spec_l5Two_ev {a b c : Int} (ha : a ≠ 0) (hb : b ≠ 0) (hc : c ≠ 0) (ha2 : a.natAbs ≤ 1000000000000) (hb2 : b.natAbs ≤ 1000000000000) (hc2 : c.natAbs ≤ 1000000000000) : Ev (fun k => spec_l5Two.f k [a, b, c]) (two a b c) := by
 have e0 : rd [a, b, c] 0 = a := rfl
 have e1 : rd [a, b, c] 1 = b := rfl
 have e2 : rd [a, b, c] 2 = c := rfl
 have hit : ∀ x y : Int, 1 < Nat.gcd x.natAbs y.natAbs → x ≠ 0 → x.natAbs ≤ 1000000000000 → ∃ L, Ev (fun k => spec_l1Primes.f k ((Nat.gcd x.natAbs y.natAbs : Nat) : Int)) L ∧ 0 < L.length ∧ rd L 0 = lp (Nat.gcd x.natAbs y.natAbs) := by
  intro x y h h0 h2
  have hle := Nat.gcd_le_left y.natAbs (show 0 < x.natAbs by omega)
  obtain ⟨L, l1, l2⟩ := spec_l1Primes_ev (n := ((Nat.gcd x.natAbs y.natAbs : Nat) : Int)) (by omega) (by omega)
  obtain ⟨p1, p2, _⟩ := lp_of l1 h
  exact ⟨L, l2, p1, p2⟩
 unfold spec_l5Two.f
 refine Ev.succ ?_
 simp only [spec_l5Two.l0]
 rw [show Int.tmod (wrap64 (2 + 1)) 3 = 0 by rw [w64 (by omega) (by omega)]; rfl, show Int.tmod (wrap64 (2 + 2)) 3 = 1 by rw [w64 (by omega) (by omega)]; rfl, show wrap64 (2 - 1) = 1 by rw [w64 (by omega) (by omega)]; rfl, e0, e1]
 refine Ev.pos (by omega) (Ev.pos (by omega) (Ev.pos (by simp) (Ev.pos (by omega) (Ev.pos (by simp) (Ev.bind (spec_l1Gcd_ev ha2 hb2) ?_)))))
 unfold two
 by_cases c1 : 1 < Nat.gcd a.natAbs b.natAbs
 · obtain ⟨L, l1, l2, l3⟩ := hit a b c1 ha ha2
   rw [if_pos c1]
   exact Ev.pos (by omega) (Ev.bind l1 (Ev.pos (by omega) (Ev.ret (by rw [l3]))))
 · rw [if_neg c1]
   refine Ev.neg (by omega) (Ev.succ ?_)
   simp only [spec_l5Two.l0]
   rw [show Int.tmod (wrap64 (1 + 1)) 3 = 2 by rw [w64 (by omega) (by omega)]; rfl, show Int.tmod (wrap64 (1 + 2)) 3 = 0 by rw [w64 (by omega) (by omega)]; rfl, show wrap64 (1 - 1) = 0 by rw [w64 (by omega) (by omega)]; rfl, e0, e2]
   refine Ev.pos (by omega) (Ev.pos (by omega) (Ev.pos (by simp) (Ev.pos (by omega) (Ev.pos (by simp) (Ev.bind (spec_l1Gcd_ev hc2 ha2) ?_)))))
   by_cases c2 : 1 < Nat.gcd c.natAbs a.natAbs
   · obtain ⟨L, l1, l2, l3⟩ := hit c a c2 hc hc2
     rw [if_pos c2]
     exact Ev.pos (by omega) (Ev.bind l1 (Ev.pos (by omega) (Ev.ret (by rw [l3]))))
   · rw [if_neg c2]
     refine Ev.neg (by omega) (Ev.succ ?_)
     simp only [spec_l5Two.l0]
     rw [show Int.tmod (wrap64 (0 + 1)) 3 = 1 by rw [w64 (by omega) (by omega)]; rfl, show Int.tmod (wrap64 (0 + 2)) 3 = 2 by rw [w64 (by omega) (by omega)]; rfl, show wrap64 (0 - 1) = -1 by rw [w64 (by omega) (by omega)]; rfl, e1, e2]
     refine Ev.pos (by omega) (Ev.pos (by omega) (Ev.pos (by simp) (Ev.pos (by omega) (Ev.pos (by simp) (Ev.bind (spec_l1Gcd_ev hb2 hc2) ?_)))))
     by_cases c3 : 1 < Nat.gcd b.natAbs c.natAbs
     · obtain ⟨L, l1, l2, l3⟩ := hit b c c3 hb hb2
       rw [if_pos c3]
       exact Ev.pos (by omega) (Ev.bind l1 (Ev.pos (by omega) (Ev.ret (by rw [l3]))))
     · rw [if_neg c3]
       refine Ev.neg (by omega) (Ev.succ ?_)
       simp only [spec_l5Two.l0]
       exact Ev.neg (by omega) (Ev.now _)
theorem sq_ne {p : Int} (hp : 2 ≤ p) : p * p ≠ 0 := Int.mul_ne_zero (by omega) (by omega)
/-- Dividing by a square once. -/
theorem core_step {N n r p : Int} (hN : N ≠ 0) (hN2 : N.natAbs ≤ 1000000000) (hp : 2 ≤ p) (h : N = n * (r * r)) (hr : 1 ≤ r) (hd : p * p ∣ n) :
 Int.tdiv n (p * p) ≠ 0 ∧ (Int.tdiv n (p * p)).natAbs < n.natAbs ∧ N = Int.tdiv n (p * p) * ((r * p) * (r * p)) ∧ 1 ≤ r * p ∧ Int.tdiv n (p * p) ∣ n := by
 obtain ⟨m, rfl⟩ := hd
 have hpp := sq_ne hp
 rw [Int.mul_tdiv_cancel_left _ hpp]
 have hm : m ≠ 0 := by intro e; subst e; simp at h; exact hN h
 have h4 : 2 * 2 ≤ p * p := Int.mul_le_mul hp hp (by omega) (by omega)
 refine ⟨hm, ?_, by rw [h]; grind, ?_, ⟨p * p, by rw [Int.mul_comm]⟩⟩
 · rw [Int.natAbs_mul]
   have : 4 * m.natAbs ≤ (p * p).natAbs * m.natAbs := Nat.mul_le_mul_right _ (by omega)
   omega
 · have : 1 * 1 ≤ r * p := Int.mul_le_mul hr (by omega) (by omega) (by omega)
   omega
theorem core_bd {N n r : Int} (hN : N ≠ 0) (hN2 : N.natAbs ≤ 1000000000) (h : N = n * (r * r)) (hr : 1 ≤ r) : r ≤ 100000 ∧ n ≠ 0 ∧ n.natAbs ≤ 1000000000 := by
 have hn : n ≠ 0 := by intro e; subst e; simp at h; exact hN h
 have e : N.natAbs = n.natAbs * (r.natAbs * r.natAbs) := by rw [← Int.natAbs_mul, ← Int.natAbs_mul, ← h]
 have a : 1 * (r.natAbs * r.natAbs) ≤ n.natAbs * (r.natAbs * r.natAbs) := Nat.mul_le_mul_right _ (by omega)
 have b : n.natAbs * (1 * 1) ≤ n.natAbs * (r.natAbs * r.natAbs) := Nat.mul_le_mul_left _ (Nat.mul_le_mul (by omega) (by omega))
 refine ⟨?_, hn, by omega⟩
 rcases Int.lt_or_le 100000 r with h' | h'
 · exfalso
   have : 100001 * 100001 ≤ r.natAbs * r.natAbs := Nat.mul_le_mul (by omega) (by omega)
   omega
 · exact h'
theorem spec_l1Core_l1 {N p : Int} (hN : N ≠ 0) (hN2 : N.natAbs ≤ 1000000000) (hp : 2 ≤ p) (hp2 : p ≤ 40000) (res : Int × Int) (B : Int → Prop)
 (hB : ∀ m n, B n → m ∣ n → B m)
 (hnext : ∀ n r, N = n * (r * r) → 1 ≤ r → B n → ¬ p * p ∣ n → Ev (fun k => spec_l1Core.l0 k n r (p + 1)) res) :
 ∀ (d : Nat) (n r : Int), n.natAbs ≤ d → N = n * (r * r) → 1 ≤ r → B n → Ev (fun k => spec_l1Core.l1 k n r p) res := by
 intro d
 induction d with
 | zero =>
  intro n r hd h hr
  have := (core_bd hN hN2 h hr).2.1
  omega
 | succ d ih =>
  intro n r hd h hr hb
  obtain ⟨b1, b2, b3⟩ := core_bd hN hN2 h hr
  have hpp : 0 ≤ p * p ∧ p * p ≤ 40000 * 40000 := ⟨Int.mul_nonneg (by omega) (by omega), Int.mul_le_mul hp2 hp2 (by omega) (by omega)⟩
  have hp0 := sq_ne hp
  refine Ev.succ ?_
  simp only [spec_l1Core.l1]
  rw [w64 (x := p * p) (by omega) (by omega)]
  refine Ev.neg hp0 ?_
  by_cases hdv : p * p ∣ n
  · obtain ⟨c1, c2, c3, c4, c5⟩ := core_step hN hN2 hp h hr hdv
    have hrp : r * p ≤ 100000 * 40000 := Int.mul_le_mul b1 hp2 (by omega) (by omega)
    rw [w64 (x := Int.tdiv n (p * p)) (by omega) (by omega), w64 (x := r * p) (by omega) (by omega)]
    exact Ev.pos (Nt.tmod_zero_iff.2 hdv) (ih _ _ (by omega) c3 c4 (hB _ _ hb c5))
  · rw [w64 (x := p + 1) (by omega) (by omega)]
    exact Ev.neg (fun e => hdv (Nt.tmod_zero_iff.1 e)) (hnext n r h hr hb hdv)
theorem spec_l1Core_l0 {N : Int} (hN : N ≠ 0) (hN2 : N.natAbs ≤ 1000000000) : ∀ (d : Nat) (p n r : Int), p + d = 40000 → 2 ≤ p → N = n * (r * r) → 1 ≤ r → (∀ q, 2 ≤ q → q < p → ¬ q * q ∣ n) →
 ∃ c s, Nt.IsCore N c s ∧ Ev (fun k => spec_l1Core.l0 k n r p) (c, s) := by
 intro d
 induction d with
 | zero =>
  intro p n r hd hp h hr hq
  obtain ⟨b1, b2, b3⟩ := core_bd hN hN2 h hr
  refine ⟨n, r, ⟨h, hr, fun q hq' hdv => ?_⟩, Ev.succ ?_⟩
  · by_cases c : q < p
    · exact hq q hq'.1 c hdv
    · have := Int.mul_le_mul (show 40000 ≤ q by omega) (show 40000 ≤ q by omega) (by omega) (by omega)
      have h2 := Int.le_of_dvd (show 0 < ((n.natAbs : Nat) : Int) by omega) (Int.dvd_natAbs.2 hdv)
      omega
  · simp only [spec_l1Core.l0]
    rw [spec_l1Size_eq (by omega), show p = 40000 by omega]
    exact Ev.sbind (Ev.neg (by unfold wrap64; omega) (Ev.now _))
 | succ d ih =>
  intro p n r hd hp h hr hq
  obtain ⟨b1, b2, b3⟩ := core_bd hN hN2 h hr
  have hpp : 0 ≤ p * p ∧ p * p ≤ 40000 * 40000 := ⟨Int.mul_nonneg (by omega) (by omega), Int.mul_le_mul (by omega) (by omega) (by omega) (by omega)⟩
  by_cases c : p * p ≤ (n.natAbs : Int)
  · -- the round goes on
    have key : ∀ (res : Int × Int), (∀ n' r', N = n' * (r' * r') → 1 ≤ r' → (∀ q, 2 ≤ q → q < p → ¬ q * q ∣ n') → ¬ p * p ∣ n' → Ev (fun k => spec_l1Core.l0 k n' r' (p + 1)) res) → Ev (fun k => spec_l1Core.l0 k n r p) res := by
     intro res hres
     refine Ev.succ ?_
     simp only [spec_l1Core.l0]
     rw [spec_l1Size_eq (by omega), w64 (x := p * p) (by omega) (by omega)]
     exact Ev.sbind (Ev.pos c (spec_l1Core_l1 hN hN2 hp (by omega) res (fun m => ∀ q, 2 ≤ q → q < p → ¬ q * q ∣ m) (fun m n hb hd q h1 h2 e => hb q h1 h2 (Int.dvd_trans e hd)) hres n.natAbs n r (Nat.le_refl _) h hr hq))
    obtain ⟨c0, s0, hc0⟩ := Nt.core_exists hN
    have all : ∀ n' r', N = n' * (r' * r') → 1 ≤ r' → (∀ q, 2 ≤ q → q < p → ¬ q * q ∣ n') → ¬ p * p ∣ n' → Ev (fun k => spec_l1Core.l0 k n' r' (p + 1)) (c0, s0) := by
     intro n' r' h1 h2 h3 h4
     obtain ⟨c1, s1, k1, k2⟩ := ih (p + 1) n' r' (by omega) (by omega) h1 h2 (fun q q1 q2 => by
      by_cases e : q = p
      · rw [e]; exact h4
      · exact h3 q q1 (by omega))
     obtain ⟨u1, u2⟩ := hc0.uniq hN k1
     rw [u1, u2]; exact k2
    exact ⟨c0, s0, hc0, key _ all⟩
  · refine ⟨n, r, ⟨h, hr, fun q hq' hdv => ?_⟩, Ev.succ ?_⟩
    · by_cases c' : q < p
      · exact hq q hq'.1 c' hdv
      · have := Int.mul_le_mul (show p ≤ q by omega) (show p ≤ q by omega) (by omega) (by omega)
        have h2 := Int.le_of_dvd (show 0 < ((n.natAbs : Nat) : Int) by omega) (Int.dvd_natAbs.2 hdv)
        omega
    · simp only [spec_l1Core.l0]
      rw [spec_l1Size_eq (by omega), w64 (x := p * p) (by omega) (by omega)]
      exact Ev.sbind (Ev.neg c (Ev.now _))
theorem spec_l1Core_ev {N : Int} (hN : N ≠ 0) (hN2 : N.natAbs ≤ 1000000000) : ∃ c s, Nt.IsCore N c s ∧ Ev (fun k => spec_l1Core.f k N) (c, s) := by
 unfold spec_l1Core.f
 exact spec_l1Core_l0 hN hN2 39998 2 N 1 (by omega) (by omega) (by simp) (by omega) (fun q h1 h2 => by omega)
theorem spec_l1Core_cor {N : Int} (hN : N ≠ 0) (hN2 : N.natAbs ≤ 1000000000) : Ev (fun k => spec_l1Core.f k N) (Nt.cor N, Nt.rt N) := by
 obtain ⟨c, s, h1, h2⟩ := spec_l1Core_ev hN hN2
 obtain ⟨u, v⟩ := Nt.cor_eq hN h1
 rw [← u, ← v]; exact h2
theorem NI_two {t0 t1 t2 a b c m n o : Int} (h : NI t0 t1 t2 a b c m n o) : Ev (fun k => spec_l5Two.f k [a, b, c]) (two a b c) ∧
 (((two a b c).1 = 1 ∧ (two a b c).2 = 0 ∧ Nat.gcd a.natAbs b.natAbs ≤ 1 ∧ Nat.gcd c.natAbs a.natAbs ≤ 1 ∧ Nat.gcd b.natAbs c.natAbs ≤ 1) ∨
  (Nt.Pr (two a b c).1 ∧ (((two a b c).2 = 2 ∧ (two a b c).1 ∣ a ∧ (two a b c).1 ∣ b) ∨ ((two a b c).2 = 1 ∧ (two a b c).1 ∣ c ∧ (two a b c).1 ∣ a) ∨ ((two a b c).2 = 0 ∧ (two a b c).1 ∣ b ∧ (two a b c).1 ∣ c)))) := by
 obtain ⟨_, ⟨b1, b2, b3⟩, _⟩ := h.bds
 exact ⟨spec_l5Two_ev h.1.1 h.1.2.1 h.1.2.2 (by omega) (by omega) (by omega), two_step h.1.1 h.1.2.1 h.1.2.2 (by omega) (by omega) (by omega)⟩
theorem spec_l5Normal_l {t0 t1 t2 : Int} : ∀ (f : Nat) (a b c m n o : Int), NI t0 t1 t2 a b c m n o → (a * b * c).natAbs ≤ f →
 Ev (fun k => spec_l5Normal.l1 k [a, b, c] [m, n, o] (two a b c).1 (two a b c).2) (nrm f a b c m n o) := by
 intro f
 induction f with
 | zero =>
  intro a b c m n o h hf
  have := Int.natAbs_pos.2 (Int.mul_ne_zero (Int.mul_ne_zero h.1.1 h.1.2.1) h.1.2.2)
  omega
 | succ f ih =>
  intro a b c m n o h hf
  obtain ⟨_, hcase⟩ := NI_two h
  obtain ⟨hb0, ⟨hb1, hb2, hb3⟩, hb4⟩ := h.bds
  simp only [nrm]
  generalize two a b c = q at *
  obtain ⟨p, t⟩ := q
  dsimp only at *
  rcases hcase with ⟨rfl, rfl, _⟩ | ⟨hp, hcase⟩
  · refine Ev.succ ?_
    simp only [spec_l5Normal.l1]
    rw [if_neg (by omega)]
    exact Ev.neg (by omega) (Ev.now _)
  · have hp2 : 2 ≤ p := hp.1
    refine Ev.succ ?_
    simp only [spec_l5Normal.l1]
    rw [if_pos (show p > 1 by omega)]
    refine Ev.pos (by omega) ?_
    have go : ∀ {a b c m n o : Int} {R : List Int × List Int}, NI t0 t1 t2 a b c m n o → Ev (fun k => spec_l5Normal.l1 k [a, b, c] [m, n, o] (two a b c).1 (two a b c).2) R →
     Ev (fun k => (spec_l5Two.f k [a, b, c]).bind fun bt => spec_l5Normal.l1 k [a, b, c] [m, n, o] bt.1 bt.2) R := fun h hR => Ev.bind (NI_two h).1 hR
    rcases hcase with ⟨rfl, ⟨a', rfl⟩, ⟨b', rfl⟩⟩ | ⟨rfl, ⟨c', rfl⟩, ⟨a', rfl⟩⟩ | ⟨rfl, ⟨b', rfl⟩, ⟨c', rfl⟩⟩
    · obtain ⟨s1, s2, s3⟩ := h.step hp2
      have bb := s2.bds
      have ab : a'.natAbs ≤ 29791 ∧ b'.natAbs ≤ 29791 := ⟨bb.2.1.1, bb.2.1.2.1⟩
      rw [if_pos rfl, show Int.tmod (wrap64 (2 + 1)) 3 = 0 by rw [w64 (by omega) (by omega)]; rfl, show Int.tmod (wrap64 (2 + 2)) 3 = 1 by rw [w64 (by omega) (by omega)]; rfl]
      rw [show rd [p * a', p * b', c] 0 = p * a' from rfl, tdiv_of hp2, w64 (x := a') (by omega) (by omega)]
      refine Ev.pos (by omega) (Ev.pos (by simp) (Ev.neg (by omega) (Ev.sbind ?_)))
      show Ev (fun k => _) _
      rw [show [p * a', p * b', c].set (0 : Int).toNat a' = [a', p * b', c] from rfl, show rd [a', p * b', c] 1 = p * b' from rfl, tdiv_of hp2, w64 (x := b') (by omega) (by omega)]
      refine Ev.pos (by omega) (Ev.pos (by simp) (Ev.sbind ?_))
      show Ev (fun k => _) _
      rw [show [a', p * b', c].set (1 : Int).toNat b' = [a', b', c] from rfl, show rd [a', b', c] 2 = c from rfl]
      refine Ev.pos (by omega) (Ev.pos (by simp) ?_)
      by_cases hd : Int.tmod c p = 0
      · obtain ⟨c', rfl⟩ := Int.dvd_of_tmod_eq_zero hd
        obtain ⟨s4, s5⟩ := s1 c' rfl
        have cb := s4.bds.2.1.2.2
        rw [if_pos hd]
        (try simp only [tdiv_of hp2])
        rw [w64 (x := c') (by omega) (by omega)]
        exact Ev.pos hd (Ev.sbind (go s4 (ih _ _ _ _ _ _ s4 (by omega))))
      · rw [if_neg hd]
        (try simp only [tdiv_of hp2])
        rw [w64 (x := c * p) (by omega) (by omega), show rd [m, n, o] 2 = o from rfl, w64 (x := o * p) (by have := s2.2.1; omega) (by omega)]
        exact Ev.neg hd (Ev.sbind (Ev.pos (by simp) (go s2 (ih _ _ _ _ _ _ s2 (by omega)))))
    · have h' := h.rot.rot
      obtain ⟨s1, s2, s3⟩ := h'.step hp2
      have s2' := s2.rot
      have bb := s2'.bds
      have e1 : (p * a' * b * (p * c')).natAbs = (p * c' * (p * a') * b).natAbs := by congr 1; grind
      rw [if_neg (by omega), if_pos rfl, show Int.tmod (wrap64 (1 + 1)) 3 = 2 by rw [w64 (by omega) (by omega)]; rfl, show Int.tmod (wrap64 (1 + 2)) 3 = 0 by rw [w64 (by omega) (by omega)]; rfl]
      rw [show rd [p * a', b, p * c'] 2 = p * c' from rfl, tdiv_of hp2, w64 (x := c') (by omega) (by omega)]
      refine Ev.pos (by omega) (Ev.pos (by simp) (Ev.neg (by omega) (Ev.sbind ?_)))
      show Ev (fun k => _) _
      rw [show [p * a', b, p * c'].set (2 : Int).toNat c' = [p * a', b, c'] from rfl, show rd [p * a', b, c'] 0 = p * a' from rfl, tdiv_of hp2, w64 (x := a') (by omega) (by omega)]
      refine Ev.pos (by omega) (Ev.pos (by simp) (Ev.sbind ?_))
      show Ev (fun k => _) _
      rw [show [p * a', b, c'].set (0 : Int).toNat a' = [a', b, c'] from rfl, show rd [a', b, c'] 1 = b from rfl]
      refine Ev.pos (by omega) (Ev.pos (by simp) ?_)
      by_cases hd : Int.tmod b p = 0
      · obtain ⟨b', rfl⟩ := Int.dvd_of_tmod_eq_zero hd
        obtain ⟨s4, s5⟩ := s1 b' rfl
        have s4' := s4.rot
        have cb := s4'.bds.2.1
        have e2 : (a' * b' * c').natAbs = (c' * a' * b').natAbs := by congr 1; grind
        rw [if_pos hd]
        (try simp only [tdiv_of hp2])
        rw [w64 (x := b') (by omega) (by omega)]
        exact Ev.pos hd (Ev.sbind (go s4' (ih _ _ _ _ _ _ s4' (by omega))))
      · have e2 : (a' * (b * p) * c').natAbs = (c' * a' * (b * p)).natAbs := by congr 1; grind
        rw [if_neg hd]
        (try simp only [tdiv_of hp2])
        rw [w64 (x := b * p) (by omega) (by omega), show rd [m, n, o] 1 = n from rfl, w64 (x := n * p) (by have := s2'.2.1; omega) (by omega)]
        exact Ev.neg hd (Ev.sbind (Ev.pos (by simp) (go s2' (ih _ _ _ _ _ _ s2' (by omega)))))
    · have h' := h.rot
      obtain ⟨s1, s2, s3⟩ := h'.step hp2
      have s2' := s2.rot.rot
      have bb := s2'.bds
      have e1 : (a * (p * b') * (p * c')).natAbs = (p * b' * (p * c') * a).natAbs := by congr 1; grind
      rw [if_neg (by omega), if_neg (by omega), show Int.tmod (wrap64 (0 + 1)) 3 = 1 by rw [w64 (by omega) (by omega)]; rfl, show Int.tmod (wrap64 (0 + 2)) 3 = 2 by rw [w64 (by omega) (by omega)]; rfl]
      rw [show rd [a, p * b', p * c'] 1 = p * b' from rfl, tdiv_of hp2, w64 (x := b') (by omega) (by omega)]
      refine Ev.pos (by omega) (Ev.pos (by simp) (Ev.neg (by omega) (Ev.sbind ?_)))
      show Ev (fun k => _) _
      rw [show [a, p * b', p * c'].set (1 : Int).toNat b' = [a, b', p * c'] from rfl, show rd [a, b', p * c'] 2 = p * c' from rfl, tdiv_of hp2, w64 (x := c') (by omega) (by omega)]
      refine Ev.pos (by omega) (Ev.pos (by simp) (Ev.sbind ?_))
      show Ev (fun k => _) _
      rw [show [a, b', p * c'].set (2 : Int).toNat c' = [a, b', c'] from rfl, show rd [a, b', c'] 0 = a from rfl]
      refine Ev.pos (by omega) (Ev.pos (by simp) ?_)
      by_cases hd : Int.tmod a p = 0
      · obtain ⟨a', rfl⟩ := Int.dvd_of_tmod_eq_zero hd
        obtain ⟨s4, s5⟩ := s1 a' rfl
        have s4' := s4.rot.rot
        have cb := s4'.bds.2.1
        have e2 : (a' * b' * c').natAbs = (b' * c' * a').natAbs := by congr 1; grind
        rw [if_pos hd]
        (try simp only [tdiv_of hp2])
        rw [w64 (x := a') (by omega) (by omega)]
        exact Ev.pos hd (Ev.sbind (go s4' (ih _ _ _ _ _ _ s4' (by omega))))
      · have e2 : (a * p * b' * c').natAbs = (b' * c' * (a * p)).natAbs := by congr 1; grind
        rw [if_neg hd]
        (try simp only [tdiv_of hp2])
        rw [w64 (x := a * p) (by omega) (by omega), show rd [m, n, o] 0 = m from rfl, w64 (x := m * p) (by have := s2'.2.1; omega) (by omega)]
        exact Ev.neg hd (Ev.sbind (Ev.pos (by simp) (go s2' (ih _ _ _ _ _ _ s2' (by omega)))))
theorem nrm_ni {t0 t1 t2 : Int} : ∀ (f : Nat) (a b c m n o : Int), NI t0 t1 t2 a b c m n o → (a * b * c).natAbs ≤ f →
 ∃ a' b' c' m' n' o', nrm f a b c m n o = ([a', b', c'], [m', n', o']) ∧ NI t0 t1 t2 a' b' c' m' n' o' ∧ (a' * b' * c').natAbs ≤ (a * b * c).natAbs ∧
  (Nat.gcd a'.natAbs b'.natAbs ≤ 1 ∧ Nat.gcd c'.natAbs a'.natAbs ≤ 1 ∧ Nat.gcd b'.natAbs c'.natAbs ≤ 1) := by
 intro f
 induction f with
 | zero =>
  intro a b c m n o h hf
  have := Int.natAbs_pos.2 (Int.mul_ne_zero (Int.mul_ne_zero h.1.1 h.1.2.1) h.1.2.2)
  omega
 | succ f ih =>
  intro a b c m n o h hf
  obtain ⟨_, hcase⟩ := NI_two h
  simp only [nrm]
  generalize two a b c = q at *
  obtain ⟨p, t⟩ := q
  dsimp only at *
  have next : ∀ {a1 b1 c1 m1 n1 o1 : Int}, NI t0 t1 t2 a1 b1 c1 m1 n1 o1 → (a1 * b1 * c1).natAbs < (a * b * c).natAbs → ∃ a' b' c' m' n' o', nrm f a1 b1 c1 m1 n1 o1 = ([a', b', c'], [m', n', o']) ∧ NI t0 t1 t2 a' b' c' m' n' o' ∧ (a' * b' * c').natAbs ≤ (a * b * c).natAbs ∧ (Nat.gcd a'.natAbs b'.natAbs ≤ 1 ∧ Nat.gcd c'.natAbs a'.natAbs ≤ 1 ∧ Nat.gcd b'.natAbs c'.natAbs ≤ 1) := by
   intro a1 b1 c1 m1 n1 o1 h1 h2
   obtain ⟨a', b', c', m', n', o', k1, k2, k3, k4⟩ := ih _ _ _ _ _ _ h1 (by omega)
   exact ⟨a', b', c', m', n', o', k1, k2, by omega, k4⟩
  rcases hcase with ⟨rfl, rfl, g1, g2, g3⟩ | ⟨hp, hcase⟩
  · rw [if_neg (by omega)]
    exact ⟨a, b, c, m, n, o, rfl, h, Nat.le_refl _, g1, g2, g3⟩
  · have hp2 : 2 ≤ p := hp.1
    rw [if_pos (show p > 1 by omega)]
    rcases hcase with ⟨rfl, ⟨a', rfl⟩, ⟨b', rfl⟩⟩ | ⟨rfl, ⟨c', rfl⟩, ⟨a', rfl⟩⟩ | ⟨rfl, ⟨b', rfl⟩, ⟨c', rfl⟩⟩
    · obtain ⟨s1, s2, s3⟩ := h.step hp2
      rw [if_pos rfl]
      simp only [tdiv_of hp2]
      by_cases hd : Int.tmod c p = 0
      · obtain ⟨c', rfl⟩ := Int.dvd_of_tmod_eq_zero hd
        obtain ⟨s4, s5⟩ := s1 c' rfl
        rw [if_pos hd, tdiv_of hp2]
        exact next s4 s5
      · rw [if_neg hd]
        exact next s2 s3
    · obtain ⟨s1, s2, s3⟩ := h.rot.rot.step hp2
      have e1 : (p * a' * b * (p * c')).natAbs = (p * c' * (p * a') * b).natAbs := by congr 1; grind
      rw [if_neg (by omega), if_pos rfl]
      simp only [tdiv_of hp2]
      by_cases hd : Int.tmod b p = 0
      · obtain ⟨b', rfl⟩ := Int.dvd_of_tmod_eq_zero hd
        obtain ⟨s4, s5⟩ := s1 b' rfl
        have e2 : (a' * b' * c').natAbs = (c' * a' * b').natAbs := by congr 1; grind
        rw [if_pos hd, tdiv_of hp2]
        exact next s4.rot (by omega)
      · have e2 : (a' * (b * p) * c').natAbs = (c' * a' * (b * p)).natAbs := by congr 1; grind
        rw [if_neg hd]
        exact next s2.rot (by omega)
    · obtain ⟨s1, s2, s3⟩ := h.rot.step hp2
      have e1 : (a * (p * b') * (p * c')).natAbs = (p * b' * (p * c') * a).natAbs := by congr 1; grind
      rw [if_neg (by omega), if_neg (by omega)]
      simp only [tdiv_of hp2]
      by_cases hd : Int.tmod a p = 0
      · obtain ⟨a', rfl⟩ := Int.dvd_of_tmod_eq_zero hd
        obtain ⟨s4, s5⟩ := s1 a' rfl
        have e2 : (a' * b' * c').natAbs = (b' * c' * a').natAbs := by congr 1; grind
        rw [if_pos hd, tdiv_of hp2]
        exact next s4.rot.rot (by omega)
      · have e2 : (a * p * b' * c').natAbs = (b' * c' * (a * p)).natAbs := by congr 1; grind
        rw [if_neg hd]
        exact next s2.rot.rot (by omega)
/-- The normal terms of three terms. -/
noncomputable def nm3 (x y z : Int) : List Int × List Int := nrm 29791 (Nt.cor x) (Nt.cor y) (Nt.cor z) (1 * Nt.rt y * Nt.rt z) (1 * Nt.rt x * Nt.rt z) (1 * Nt.rt x * Nt.rt y)
theorem ni_start {x y z : Int} (hx : x ≠ 0) (hy : y ≠ 0) (hz : z ≠ 0) (bx : x.natAbs ≤ 31) (by' : y.natAbs ≤ 31) (bz : z.natAbs ≤ 31) :
 NI x y z (Nt.cor x) (Nt.cor y) (Nt.cor z) (1 * Nt.rt y * Nt.rt z) (1 * Nt.rt x * Nt.rt z) (1 * Nt.rt x * Nt.rt y) := by
 obtain ⟨e1, r1, _⟩ := Nt.cor_core hx
 obtain ⟨e2, r2, _⟩ := Nt.cor_core hy
 obtain ⟨e3, r3, _⟩ := Nt.cor_core hz
 have p12 : 1 * 1 ≤ Nt.rt x * Nt.rt y := Int.mul_le_mul r1 r2 (by omega) (by omega)
 have p13 : 1 * 1 ≤ Nt.rt x * Nt.rt z := Int.mul_le_mul r1 r3 (by omega) (by omega)
 have p23 : 1 * 1 ≤ Nt.rt y * Nt.rt z := Int.mul_le_mul r2 r3 (by omega) (by omega)
 have p123 : 1 * 1 ≤ Nt.rt x * Nt.rt y * Nt.rt z := Int.mul_le_mul (by omega) r3 (by omega) (by omega)
 have pS : 1 * 1 ≤ (Nt.rt x * Nt.rt y * Nt.rt z) * (Nt.rt x * Nt.rt y * Nt.rt z) := Int.mul_le_mul (by omega) (by omega) (by omega) (by omega)
 refine ⟨⟨Nt.cor_nz hx, Nt.cor_nz hy, Nt.cor_nz hz⟩, ⟨by rw [Int.one_mul]; omega, by rw [Int.one_mul]; omega, by rw [Int.one_mul]; omega⟩, (Nt.rt x * Nt.rt y * Nt.rt z) * (Nt.rt x * Nt.rt y * Nt.rt z), by omega, ?_, ?_, ?_, ?_⟩
 · conv => lhs; rw [e1]
   grind
 · conv => lhs; rw [e2]
   grind
 · conv => lhs; rw [e3]
   grind
 · rw [← Int.natAbs_mul]
   have : Nt.cor x * Nt.cor y * Nt.cor z * (Nt.rt x * Nt.rt y * Nt.rt z * (Nt.rt x * Nt.rt y * Nt.rt z)) = x * y * z := by
    conv => rhs; rw [e1, e2, e3]
    grind
   rw [this, Int.natAbs_mul, Int.natAbs_mul]
   exact Nat.mul_le_mul (Nat.mul_le_mul bx by') bz
theorem spec_l5Normal_ev {x y z : Int} (hx : x ≠ 0) (hy : y ≠ 0) (hz : z ≠ 0) (bx : x.natAbs ≤ 31) (by' : y.natAbs ≤ 31) (bz : z.natAbs ≤ 31) :
 Ev (fun k => spec_l5Normal.f k [x, y, z]) (nm3 x y z) := by
 have hs := ni_start hx hy hz bx by' bz
 obtain ⟨_, r1, _⟩ := Nt.cor_core hx
 obtain ⟨_, r2, _⟩ := Nt.cor_core hy
 obtain ⟨_, r3, _⟩ := Nt.cor_core hz
 have l1 := ((Nt.cor_core hx).root_le hx).1
 have l2 := ((Nt.cor_core hy).root_le hy).1
 have l3 := ((Nt.cor_core hz).root_le hz).1
 have sq : ∀ r : Int, 1 ≤ r → r.natAbs * r.natAbs ≤ 31 → r ≤ 5 := by
  intro r h1 h2
  rcases Nat.lt_or_ge r.natAbs 6 with h | h
  · omega
  · have := Nat.mul_le_mul h h; omega
 have q1 := sq _ r1 (by omega)
 have q2 := sq _ r2 (by omega)
 have q3 := sq _ r3 (by omega)
 obtain ⟨_, _, ⟨m1, m2, m3⟩⟩ := hs.bds
 have mp := hs.2.1
 have cx := Nt.cor_le hx
 have cy := Nt.cor_le hy
 have cz := Nt.cor_le hz
 unfold spec_l5Normal.f
 refine Ev.succ ?_
 simp only [spec_l5Normal.l0]
 rw [show rd [x, y, z] 0 = x from rfl, show Int.tmod (wrap64 (0 + 1)) 3 = 1 by rw [w64 (by omega) (by omega)]; rfl, show Int.tmod (wrap64 (0 + 2)) 3 = 2 by rw [w64 (by omega) (by omega)]; rfl, show wrap64 (0 + 1) = 1 by rw [w64 (by omega) (by omega)]; rfl]
 refine Ev.pos (by omega) (Ev.pos (by omega) (Ev.pos (by simp) (Ev.bind (spec_l1Core_cor hx (by omega)) ?_)))
 dsimp only
 refine Ev.pos (by simp) (Ev.pos (by omega) (Ev.pos (by simp) (Ev.sbind ?_)))
 show Ev (fun k => _) _
 rw [show rd [(1 : Int), 1, 1] 1 = 1 from rfl, w64 (x := 1 * Nt.rt x) (by omega) (by omega), show [(1 : Int), 1, 1].set (1 : Int).toNat (1 * Nt.rt x) = [1, 1 * Nt.rt x, 1] from rfl]
 refine Ev.pos (by omega) (Ev.pos (by simp) ?_)
 rw [show rd [1, 1 * Nt.rt x, 1] 2 = 1 from rfl, w64 (x := 1 * Nt.rt x) (by omega) (by omega), show [1, 1 * Nt.rt x, 1].set (2 : Int).toNat (1 * Nt.rt x) = [1, 1 * Nt.rt x, 1 * Nt.rt x] from rfl]
 refine Ev.succ ?_
 simp only [spec_l5Normal.l0]
 rw [show rd [x, y, z] 1 = y from rfl, show Int.tmod (wrap64 (1 + 1)) 3 = 2 by rw [w64 (by omega) (by omega)]; rfl, show Int.tmod (wrap64 (1 + 2)) 3 = 0 by rw [w64 (by omega) (by omega)]; rfl, show wrap64 (1 + 1) = 2 by rw [w64 (by omega) (by omega)]; rfl]
 refine Ev.pos (by omega) (Ev.pos (by omega) (Ev.pos (by simp) (Ev.bind (spec_l1Core_cor hy (by omega)) ?_)))
 dsimp only
 refine Ev.pos (by simp) (Ev.pos (by omega) (Ev.pos (by simp) (Ev.sbind ?_)))
 show Ev (fun k => _) _
 rw [show rd [1, 1 * Nt.rt x, 1 * Nt.rt x] 2 = 1 * Nt.rt x from rfl, w64 (x := 1 * Nt.rt x * Nt.rt y) (by omega) (by omega), show [1, 1 * Nt.rt x, 1 * Nt.rt x].set (2 : Int).toNat (1 * Nt.rt x * Nt.rt y) = [1, 1 * Nt.rt x, 1 * Nt.rt x * Nt.rt y] from rfl]
 refine Ev.pos (by omega) (Ev.pos (by simp) ?_)
 rw [show rd [1, 1 * Nt.rt x, 1 * Nt.rt x * Nt.rt y] 0 = 1 from rfl, w64 (x := 1 * Nt.rt y) (by omega) (by omega), show [1, 1 * Nt.rt x, 1 * Nt.rt x * Nt.rt y].set (0 : Int).toNat (1 * Nt.rt y) = [1 * Nt.rt y, 1 * Nt.rt x, 1 * Nt.rt x * Nt.rt y] from rfl]
 refine Ev.succ ?_
 simp only [spec_l5Normal.l0]
 rw [show rd [x, y, z] 2 = z from rfl, show Int.tmod (wrap64 (2 + 1)) 3 = 0 by rw [w64 (by omega) (by omega)]; rfl, show Int.tmod (wrap64 (2 + 2)) 3 = 1 by rw [w64 (by omega) (by omega)]; rfl, show wrap64 (2 + 1) = 3 by rw [w64 (by omega) (by omega)]; rfl]
 refine Ev.pos (by omega) (Ev.pos (by omega) (Ev.pos (by simp) (Ev.bind (spec_l1Core_cor hz (by omega)) ?_)))
 dsimp only
 refine Ev.pos (by simp) (Ev.pos (by omega) (Ev.pos (by simp) (Ev.sbind ?_)))
 show Ev (fun k => _) _
 rw [show rd [1 * Nt.rt y, 1 * Nt.rt x, 1 * Nt.rt x * Nt.rt y] 0 = 1 * Nt.rt y from rfl, w64 (x := 1 * Nt.rt y * Nt.rt z) (by omega) (by omega), show [1 * Nt.rt y, 1 * Nt.rt x, 1 * Nt.rt x * Nt.rt y].set (0 : Int).toNat (1 * Nt.rt y * Nt.rt z) = [1 * Nt.rt y * Nt.rt z, 1 * Nt.rt x, 1 * Nt.rt x * Nt.rt y] from rfl]
 refine Ev.pos (by omega) (Ev.pos (by simp) ?_)
 rw [show rd [1 * Nt.rt y * Nt.rt z, 1 * Nt.rt x, 1 * Nt.rt x * Nt.rt y] 1 = 1 * Nt.rt x from rfl, w64 (x := 1 * Nt.rt x * Nt.rt z) (by omega) (by omega), show [1 * Nt.rt y * Nt.rt z, 1 * Nt.rt x, 1 * Nt.rt x * Nt.rt y].set (1 : Int).toNat (1 * Nt.rt x * Nt.rt z) = [1 * Nt.rt y * Nt.rt z, 1 * Nt.rt x * Nt.rt z, 1 * Nt.rt x * Nt.rt y] from rfl]
 refine Ev.succ ?_
 simp only [spec_l5Normal.l0]
 refine Ev.neg (by omega) (Ev.bind (NI_two hs).1 ?_)
 exact spec_l5Normal_l 29791 _ _ _ _ _ _ hs hs.bds.1
/-- Normal terms and what belongs to them. -/
theorem nm3_ni {x y z : Int} (hx : x ≠ 0) (hy : y ≠ 0) (hz : z ≠ 0) (bx : x.natAbs ≤ 31) (by' : y.natAbs ≤ 31) (bz : z.natAbs ≤ 31) :
 ∃ a b c m n o, nm3 x y z = ([a, b, c], [m, n, o]) ∧ NI x y z a b c m n o ∧ (a * b * c).natAbs ≤ (Nt.cor x * Nt.cor y * Nt.cor z).natAbs ∧ (Nat.gcd a.natAbs b.natAbs ≤ 1 ∧ Nat.gcd c.natAbs a.natAbs ≤ 1 ∧ Nat.gcd b.natAbs c.natAbs ≤ 1) := by
 have hs := ni_start hx hy hz bx by' bz
 exact nrm_ni 29791 _ _ _ _ _ _ hs hs.bds.1
/-- Square-free terms stay square-free. -/
theorem nrm_sqf {t0 t1 t2 : Int} : ∀ (f : Nat) (a b c m n o : Int), NI t0 t1 t2 a b c m n o → Nt.Sqf a → Nt.Sqf b → Nt.Sqf c → ∀ {a' b' c' : Int} {M : List Int}, nrm f a b c m n o = ([a', b', c'], M) → Nt.Sqf a' ∧ Nt.Sqf b' ∧ Nt.Sqf c' := by
 have sd : ∀ {p a : Int}, Nt.Sqf (p * a) → Nt.Sqf a := fun h q hq hd => h q hq (Int.dvd_trans hd ⟨_, Int.mul_comm _ _⟩)
 have nd : ∀ {p c : Int}, ¬ Int.tmod c p = 0 → ¬ p ∣ c := fun h hd => h (Int.dvd_iff_tmod_eq_zero.1 hd)
 intro f
 induction f with
 | zero =>
  intro a b c m n o _ ha hb hc a' b' c' M e
  simp only [nrm, Prod.mk.injEq, List.cons.injEq] at e
  obtain ⟨⟨rfl, rfl, rfl, _⟩, _⟩ := e
  exact ⟨ha, hb, hc⟩
 | succ f ih =>
  intro a b c m n o h ha hb hc a' b' c' M e
  obtain ⟨_, hcase⟩ := NI_two h
  simp only [nrm] at e
  generalize two a b c = q at *
  obtain ⟨p, t⟩ := q
  dsimp only at *
  rcases hcase with ⟨rfl, rfl, _⟩ | ⟨hp, hcase⟩
  · rw [if_neg (by omega)] at e
    simp only [Prod.mk.injEq, List.cons.injEq] at e
    obtain ⟨⟨rfl, rfl, rfl, _⟩, _⟩ := e
    exact ⟨ha, hb, hc⟩
  · have hp2 : 2 ≤ p := hp.1
    rw [if_pos (show p > 1 by omega)] at e
    rcases hcase with ⟨rfl, ⟨a1, rfl⟩, ⟨b1, rfl⟩⟩ | ⟨rfl, ⟨c1, rfl⟩, ⟨a1, rfl⟩⟩ | ⟨rfl, ⟨b1, rfl⟩, ⟨c1, rfl⟩⟩
    · obtain ⟨s1, s2, s3⟩ := h.step hp2
      rw [if_pos rfl] at e
      simp only [tdiv_of hp2] at e
      by_cases hd : Int.tmod c p = 0
      · obtain ⟨c1, rfl⟩ := Int.dvd_of_tmod_eq_zero hd
        rw [if_pos hd, tdiv_of hp2] at e
        exact ih _ _ _ _ _ _ (s1 c1 rfl).1 (sd ha) (sd hb) (sd hc) e
      · rw [if_neg hd] at e
        exact ih _ _ _ _ _ _ s2 (sd ha) (sd hb) (Nt.sqf_pr hp hc (nd hd)) e
    · obtain ⟨s1, s2, s3⟩ := h.rot.rot.step hp2
      rw [if_neg (by omega), if_pos rfl] at e
      simp only [tdiv_of hp2] at e
      by_cases hd : Int.tmod b p = 0
      · obtain ⟨b1, rfl⟩ := Int.dvd_of_tmod_eq_zero hd
        rw [if_pos hd, tdiv_of hp2] at e
        exact ih _ _ _ _ _ _ (s1 b1 rfl).1.rot (sd ha) (sd hb) (sd hc) e
      · rw [if_neg hd] at e
        exact ih _ _ _ _ _ _ s2.rot (sd ha) (Nt.sqf_pr hp hb (nd hd)) (sd hc) e
    · obtain ⟨s1, s2, s3⟩ := h.rot.step hp2
      rw [if_neg (by omega), if_neg (by omega)] at e
      simp only [tdiv_of hp2] at e
      by_cases hd : Int.tmod a p = 0
      · obtain ⟨a1, rfl⟩ := Int.dvd_of_tmod_eq_zero hd
        rw [if_pos hd, tdiv_of hp2] at e
        exact ih _ _ _ _ _ _ (s1 a1 rfl).1.rot.rot (sd ha) (sd hb) (sd hc) e
      · rw [if_neg hd] at e
        exact ih _ _ _ _ _ _ s2.rot.rot (Nt.sqf_pr hp ha (nd hd)) (sd hb) (sd hc) e
/-- The normal terms of a form, with all that the law asks of them. -/
theorem nm3_all {x y z : Int} (hx : x ≠ 0) (hy : y ≠ 0) (hz : z ≠ 0) (bx : x.natAbs ≤ 30) (by' : y.natAbs ≤ 30) (bz : z.natAbs ≤ 30) :
 ∃ a b c m n o S, nm3 x y z = ([a, b, c], [m, n, o]) ∧ Nt.Nm x y z a b c m n o S ∧ (1 ≤ m ∧ 1 ≤ n ∧ 1 ≤ o) ∧ (a * b * c).natAbs * S.natAbs ≤ 29791 ∧ (a * b * c).natAbs ≤ (x * y * z).natAbs := by
 have hs := ni_start hx hy hz (by omega) (by omega) (by omega)
 obtain ⟨a, b, c, m, n, o, e, ⟨h1, ⟨m1, m2, m3⟩, S, h3, h4, h5, h6, h7⟩, hle, hg⟩ := nrm_ni 29791 _ _ _ _ _ _ hs hs.bds.1
 have sq := nrm_sqf 29791 _ _ _ _ _ _ hs (Nt.cor_core hx).2.2 (Nt.cor_core hy).2.2 (Nt.cor_core hz).2.2 e
 refine ⟨a, b, c, m, n, o, S, e, ⟨⟨⟨hx, hy, hz⟩, h1, h3, by omega⟩, ⟨h4, h5, h6⟩, sq, hg⟩, ⟨m1, m2, m3⟩, h7, Nat.le_trans hle ?_⟩
 rw [Int.natAbs_mul, Int.natAbs_mul, Int.natAbs_mul, Int.natAbs_mul]
 exact Nat.mul_le_mul (Nat.mul_le_mul (Nt.cor_le hx) (Nt.cor_le hy)) (Nt.cor_le hz)
theorem sq_lts {x y : Int} (h0 : 0 ≤ x) (h : x < y) : x * x < y * y := by
 have h1 : x * x ≤ x * y := Int.mul_le_mul_of_nonneg_left (by omega) h0
 have h2 : x * y < y * y := Int.mul_lt_mul_of_pos_right h (by omega)
 omega
/-- A zero within the bounds of the search. -/
def Good (a b c x y z : Int) : Prop := 0 ≤ x ∧ 0 ≤ y ∧ 0 ≤ z ∧ x * x ≤ ((b * c).natAbs : Int) ∧ y * y ≤ ((a * c).natAbs : Int) ∧ (x ≠ 0 ∨ y ≠ 0) ∧ a * (x * x) + b * (y * y) + c * (z * z) = 0
/-- None has come so far. -/
def NB (a b c x y : Int) : Prop := ∀ x' y' z', Good a b c x' y' z' → ¬ (x' < x ∨ (x' = x ∧ y' < y))
/-- The first zero, or none. -/
def IsFirst (a b c : Int) (res : List Int × Bool) : Prop :=
 (∃ x y z, res = ([x, y, z], true) ∧ Good a b c x y z ∧ NB a b c x y) ∨ (res = ([], false) ∧ ∀ x y z, ¬ Good a b c x y z)
theorem IsFirst.uniq {a b c : Int} (hc : c ≠ 0) {r s : List Int × Bool} (h : IsFirst a b c r) (h' : IsFirst a b c s) : r = s := by
 rcases h with ⟨x, y, z, rfl, g, n⟩ | ⟨rfl, n⟩ <;> rcases h' with ⟨x', y', z', rfl, g', n'⟩ | ⟨rfl, n'⟩
 · have h1 := n _ _ _ g'
   have h2 := n' _ _ _ g
   obtain rfl : x = x' := by omega
   obtain rfl : y = y' := by omega
   obtain ⟨_, _, z0, _, _, _, e⟩ := g
   obtain ⟨_, _, z0', _, _, _, e'⟩ := g'
   have e2 : c * (z * z) = c * (z' * z') := by omega
   have e3 := Int.eq_of_mul_eq_mul_left hc e2
   have : z = z' := by
    rcases Int.lt_trichotomy z z' with h | h | h
    · have : z * z < z' * z' := sq_lts z0 h
      omega
    · exact h
    · have : z' * z' < z * z := sq_lts z0' h
      omega
   rw [this]
 · exact absurd g (n' _ _ _)
 · exact absurd g' (n _ _ _)
 · rfl
theorem sq_mono {x y : Int} (hx : 0 ≤ x) (h : x * x < y * y) (hy : 0 ≤ y) : x < y := by
 rcases Int.lt_or_le x y with h1 | h1
 · exact h1
 · have := Int.mul_le_mul h1 h1 hy hx
   omega
theorem NB.next {a b c x y : Int} (h : NB a b c x y) (hn : ∀ z, ¬ Good a b c x y z) : NB a b c x (y + 1) := by
 intro x' y' z' g hlt
 have h1 := h x' y' z' g
 by_cases e : x' = x ∧ y' = y
 · obtain ⟨rfl, rfl⟩ := e
   exact hn z' g
 · omega
theorem NB.row {a b c x y : Int} (h : NB a b c x y) (hy : 0 ≤ y) (hn : ((a * c).natAbs : Int) < y * y) : NB a b c (x + 1) 0 := by
 intro x' y' z' g hlt
 have h1 := h x' y' z' g
 obtain ⟨_, y0, _, _, hy', _⟩ := g
 have := sq_mono y0 (show y' * y' < y * y by omega) hy
 omega
theorem NB.last {a b c x : Int} (h : NB a b c x 0) (hx : 0 ≤ x) (hn : ((b * c).natAbs : Int) < x * x) : ∀ x y z, ¬ Good a b c x y z := by
 intro x' y' z' g
 have h1 := h x' y' z' g
 obtain ⟨x0, _, _, hx', _⟩ := g
 have := sq_mono x0 (show x' * x' < x * x by omega) hx
 omega
theorem NB.start (a b c : Int) : NB a b c 0 0 := by
 intro x' y' z' g hlt
 have := g.1
 have := g.2.1
 omega
theorem sq174 {x : Int} (h0 : 0 ≤ x) (h : x * x ≤ 30000) : x ≤ 173 := by
 rcases Int.lt_or_le x 174 with h1 | h1
 · omega
 · have := Int.mul_le_mul h1 h1 (by omega) h0
   omega
/-- What the search asks of a pair. -/
theorem good_iff {a b c x y : Int} (hc : c ≠ 0) (h0 : 0 ≤ x) (h1 : 0 ≤ y) (hx : x * x ≤ ((b * c).natAbs : Int)) (hy : y * y ≤ ((a * c).natAbs : Int)) (z : Int) :
 Good a b c x y z ↔ 0 ≤ z ∧ (x ≠ 0 ∨ y ≠ 0) ∧ Int.tmod (-(a * x * x) - b * y * y) c = 0 ∧ Int.tdiv (-(a * x * x) - b * y * y) c = z * z := by
 have e : a * (x * x) + b * (y * y) + c * (z * z) = 0 ↔ -(a * x * x) - b * y * y = c * (z * z) := by
  rw [Int.mul_assoc a x x, Int.mul_assoc b y y]; omega
 unfold Good
 rw [e]
 constructor
 · rintro ⟨_, _, z0, _, _, hn, h⟩
   rw [h]
   exact ⟨z0, hn, Int.mul_tmod_right _ _, Int.mul_tdiv_cancel_left _ hc⟩
 · rintro ⟨z0, hn, h2, h3⟩
   refine ⟨h0, h1, z0, hx, hy, hn, ?_⟩
   have := Int.mul_tdiv_add_tmod (-(a * x * x) - b * y * y) c
   rw [h2, h3] at this
   omega
theorem axx_bd {a x : Int} (ha : a.natAbs ≤ 30000) (h0 : 0 ≤ x) (h : x ≤ 174) : (a * x).natAbs ≤ 5220000 ∧ (a * x * x).natAbs ≤ 908280000 := by
 have h1 : (a * x).natAbs ≤ 30000 * 174 := by rw [Int.natAbs_mul]; exact Nat.mul_le_mul ha (by omega)
 have h2 : (a * x * x).natAbs ≤ 30000 * 174 * 174 := by rw [Int.natAbs_mul]; exact Nat.mul_le_mul h1 (by omega)
 omega
theorem quot_bd {n c : Int} {m : Nat} (h : n.natAbs ≤ m) : (Int.tdiv n c).natAbs ≤ m := by
 rw [Int.natAbs_tdiv]
 exact Nat.le_trans (Nat.div_le_self _ _) h
/-- Three terms that the search takes. -/
def ok3 (a b c : Int) : Prop := (a ≠ 0 ∧ b ≠ 0 ∧ c ≠ 0) ∧ (Nt.rt a = 1 ∧ Nt.rt b = 1 ∧ Nt.rt c = 1) ∧ (a * b * c).natAbs ≤ 30000 ∧ (Nat.gcd a.natAbs b.natAbs ≤ 1 ∧ Nat.gcd c.natAbs a.natAbs ≤ 1 ∧ Nat.gcd b.natAbs c.natAbs ≤ 1)
/-- What the search gives. -/
def Zs (a b c : Int) (res : List Int × Bool) : Prop := (ok3 a b c ∧ IsFirst a b c res) ∨ (¬ ok3 a b c ∧ res = ([], false))
theorem Zs.uniq {a b c : Int} {r s : List Int × Bool} (h : Zs a b c r) (h' : Zs a b c s) : r = s := by
 rcases h with ⟨h1, h2⟩ | ⟨h1, rfl⟩ <;> rcases h' with ⟨g1, g2⟩ | ⟨g1, rfl⟩
 · exact h2.uniq h1.1.2.2 g2
 · exact absurd h1 g1
 · exact absurd g1 h1
 · rfl
theorem ok3.bds {a b c : Int} (h : ok3 a b c) : a.natAbs ≤ 30000 ∧ b.natAbs ≤ 30000 ∧ c.natAbs ≤ 30000 ∧ (b * c).natAbs ≤ 30000 ∧ (a * c).natAbs ≤ 30000 := by
 obtain ⟨⟨ha, hb, hc⟩, _, h2, _⟩ := h
 have e1 : (b * c).natAbs ≤ (a * b * c).natAbs := by rw [show a * b * c = b * c * a by grind]; exact abs_le_mul ha
 have e2 : (a * c).natAbs ≤ (a * b * c).natAbs := by rw [show a * b * c = a * c * b by grind]; exact abs_le_mul hb
 have e3 := abs_le_mul (x := b) hc
 have e4 := abs_le_mul (x := a) hc
 have e5 : c.natAbs ≤ (a * c).natAbs := by rw [Int.mul_comm]; exact abs_le_mul ha
 omega
/-- A term of a form. -/
def okT (t : Int) : Bool := decide (t ≠ 0 ∧ -30 ≤ t ∧ t ≤ 30)
theorem okT_iff {t : Int} : okT t = true ↔ t ≠ 0 ∧ -30 ≤ t ∧ t ≤ 30 := by unfold okT; simp
/-- Is it a form? -/
def fv (l : List Int) : Bool := l.all okT && decide (1 ≤ l.length ∧ l.length ≤ 4)
theorem fv_iff {l : List Int} : fv l = true ↔ (∀ t ∈ l, t ≠ 0 ∧ -30 ≤ t ∧ t ≤ 30) ∧ 1 ≤ l.length ∧ l.length ≤ 4 := by
 unfold fv; simp [okT_iff]
/-- Not too large, as far as the walk goes. -/
def Md (l : List Int) : Prop := l.length ≤ 1000000 ∧ ∀ t ∈ l, -1000000000000 ≤ t ∧ t ≤ 1000000000000
theorem Md.of_fv {l : List Int} (h : fv l = true) : Md l := by
 obtain ⟨h1, h2, h3⟩ := fv_iff.1 h
 exact ⟨by omega, fun t ht => by have := h1 t ht; omega⟩
/-- How many are less than 0. -/
def less : List Int → Nat
 | [] => 0
 | t :: l => if t < 0 then less l + 1 else less l
theorem less_le : ∀ l : List Int, less l ≤ l.length
 | [] => by simp [less]
 | t :: l => by have := less_le l; unfold less; split <;> simp <;> omega
theorem less_append : ∀ a b : List Int, less (a ++ b) = less a + less b
 | [], b => by simp [less]
 | t :: a, b => by
  have := less_append a b
  simp only [List.cons_append, less]
  split <;> omega
theorem less_ng : ∀ l : List Int, less l = Nt.ng l
 | [] => rfl
 | t :: l => by unfold less Nt.ng; rw [less_ng l]
theorem fv_nz {l : List Int} (h : fv l = true) : Nt.Nz l := fun t ht => ((fv_iff.1 h).1 t ht).1
theorem fv_len {l : List Int} (h : fv l = true) : 1 ≤ l.length ∧ l.length ≤ 4 := (fv_iff.1 h).2
theorem fv_bd {l : List Int} (h : fv l = true) : ∀ t ∈ l, t.natAbs ≤ 30 := fun t ht => by have := (fv_iff.1 h).1 t ht; omega
theorem step_bd {a t : Int} {n : Nat} (h : a.natAbs * 30 ^ (n + 1) ≤ 810000) (ht : t.natAbs ≤ 30) : (a * t).natAbs * 30 ^ n ≤ 810000 ∧ (a * t).natAbs ≤ 810000 := by
 have h1 : (a * t).natAbs * 30 ^ n ≤ 810000 := by
  refine Nat.le_trans ?_ h
  rw [Int.natAbs_mul, Nat.pow_succ, Nat.mul_comm (30 ^ n) 30, ← Nat.mul_assoc]
  exact Nat.mul_le_mul_right _ (Nat.mul_le_mul_left _ ht)
 exact ⟨h1, Nat.le_trans (Nat.le_mul_of_pos_right _ (Nat.pow_pos (by omega))) h1⟩
theorem prod_le : ∀ {l : List Int}, (∀ t ∈ l, t.natAbs ≤ 30) → (Nt.prod l).natAbs ≤ 30 ^ l.length
 | [], _ => by simp [Nt.prod]
 | t :: l, h => by
  unfold Nt.prod
  rw [Int.natAbs_mul, List.length_cons, Nat.pow_succ, Nat.mul_comm]
  exact Nat.mul_le_mul (prod_le fun s hs => h s (by simp [hs])) (h t (by simp))
theorem pow_four {n : Nat} (h : n ≤ 4) : 30 ^ n ≤ 810000 := Nat.le_trans (Nat.pow_le_pow_right (by omega) h) (by omega)
theorem prod_bd {l : List Int} (h : fv l = true) : Nt.prod l ≠ 0 ∧ (Nt.prod l).natAbs ≤ 810000 :=
 ⟨Nt.prod_nz (fv_nz h), Nat.le_trans (prod_le (fv_bd h)) (pow_four (fv_len h).2)⟩
theorem nz_take {l : List Int} (h : Nt.Nz l) (i : Nat) : Nt.Nz (l.take i) := fun t ht => h t (List.mem_of_mem_take ht)
theorem rd_take {xs : List Int} {i j : Nat} (h : j < i) : rd (xs.take i) (j : Int) = rd xs (j : Int) := by
 unfold rd
 simp [List.getD_eq_getElem?_getD, List.getElem?_take, h]
theorem pm_bd {x : Int} (h : x = 1 ∨ x = -1) : -1 ≤ x ∧ x ≤ 1 := by omega
theorem pm_mul {x y : Int} (h : x = 1 ∨ x = -1) (k : y = 1 ∨ y = -1) : x * y = 1 ∨ x * y = -1 := by
 rcases h with rfl | rfl <;> rcases k with rfl | rfl <;> simp
theorem prod_snoc (l : List Int) (t : Int) : Nt.prod (l ++ [t]) = Nt.prod l * t := by rw [Nt.prod_app]; simp [Nt.prod]
theorem getlen {xs : List Int} {i : Nat} (h : i < xs.length) : xs.drop i = rd xs (i : Int) :: xs.drop (i + 1) := by
 rw [List.drop_eq_getElem_cons h]
 congr 1
 unfold rd
 simp [List.getD_eq_getElem?_getD, h]
/-- The places at which a form does not vanish. -/
def fbad (f S : List Int) : List Int := S.filter (fun p => !Nt.van p f)
/-- 0, 2 and the odd primes of some kind, ascending. -/
def IsPlaces (Q : Int → Prop) (l : List Int) : Prop := l.Pairwise (· < ·) ∧ ∀ p, p ∈ l ↔ p = 0 ∨ p = 2 ∨ (Nt.Pr p ∧ Q p)
theorem IsPlaces.uniq {Q R : Int → Prop} {l m : List Int} (hl : IsPlaces Q l) (hm : IsPlaces R m) (h : ∀ p, Nt.Pr p → p ≠ 2 → (Q p ↔ R p)) : l = m := by
 refine Nt.asc_ext hl.1 hm.1 (fun x => ?_)
 rw [hl.2, hm.2]
 by_cases h2 : x = 2
 · simp [h2]
 · constructor
   · rintro (h' | h' | ⟨a, b⟩)
     · exact .inl h'
     · exact .inr (.inl h')
     · exact .inr (.inr ⟨a, (h x a h2).1 b⟩)
   · rintro (h' | h' | ⟨a, b⟩)
     · exact .inl h'
     · exact .inr (.inl h')
     · exact .inr (.inr ⟨a, (h x a h2).2 b⟩)
theorem IsPlaces.pl {Q : Int → Prop} {l : List Int} (h : IsPlaces Q l) : ∀ p ∈ l, Nt.Pl p := by
 intro p hp
 rcases (h.2 p).1 hp with rfl | rfl | h'
 · exact .inl rfl
 · exact .inr Nt.pr2
 · exact .inr h'.1
theorem asc_nodup {l : List Int} (h : l.Pairwise (· < ·)) : l.Nodup := h.imp (fun h => by omega)
/-- A name is no larger than this. -/
theorem names_small {p : Int} (hp : Nt.Pl p) (hp5 : p ≤ 5000) : ∀ n ∈ Nt.names p, n ≠ 0 ∧ n.natAbs ≤ 25000000 := by
 intro n hn
 refine ⟨Nt.names_nz hp n hn, ?_⟩
 unfold Nt.names at hn
 split at hn
 · simp at hn; omega
 · split at hn
   · simp at hn; omega
   · rename_i h0 h2
     have hp := hp.resolve_left h0
     obtain ⟨n1, n2, n3, n4⟩ := Nt.nr_spec hp h2
     have hm := small_mul2 (a := p) (b := Nt.nr p) (by omega) (by omega) (by omega) (by omega)
     simp only [List.mem_cons, List.not_mem_nil, or_false] at hn
     rcases hn with rfl | rfl | rfl | rfl <;> omega
open Classical in
/-- Is it a prime, at most 5000? -/
noncomputable def isP (p : Int) : Bool := decide (Nt.Pr p ∧ p ≤ 5000)
theorem isP_iff {p : Int} : isP p = true ↔ Nt.Pr p ∧ p ≤ 5000 := by unfold isP; simp
theorem isP_false {p : Int} (h : ¬ (Nt.Pr p ∧ p ≤ 5000)) : isP p = false := by unfold isP; simpa using h
theorem isP_true {p : Int} (h : Nt.Pr p ∧ p ≤ 5000) : isP p = true := isP_iff.2 h
open Classical in
/-- Is it a place, at most 5000? -/
noncomputable def isPl (p : Int) : Bool := decide (p = 0 ∨ (Nt.Pr p ∧ p ≤ 5000))
theorem isPl_iff {p : Int} : isPl p = true ↔ p = 0 ∨ (Nt.Pr p ∧ p ≤ 5000) := by unfold isPl; simp
theorem isPl_pl {p : Int} (h : isPl p = true) : Nt.Pl p ∧ 0 ≤ p ∧ p ≤ 5000 := by
 rcases isPl_iff.1 h with rfl | ⟨h1, h2⟩
 · exact ⟨.inl rfl, by omega, by omega⟩
 · exact ⟨.inr h1, by have := h1.1; omega, h2⟩
theorem isPl_of {p : Int} (h : p ≠ 0) : isPl p = isP p := by
 unfold isPl isP
 simp [h]
/-- A prime divides a term. -/
def QT (l : List Int) (p : Int) : Prop := ∃ n ∈ l, p ∣ n
theorem small_primes {p : Int} (hp : Nt.Pr p) (h : p ≤ 30) : p ∈ ([2, 3, 5, 7, 11, 13, 17, 19, 23, 29] : List Int) := by
 have key : ∀ m ∈ List.range 31, Nt.prB m = true → (m : Int) ∈ ([2, 3, 5, 7, 11, 13, 17, 19, 23, 29] : List Int) := by decide +kernel
 obtain ⟨m, rfl⟩ : ∃ m : Nat, p = m := ⟨p.toNat, by have := hp.1; omega⟩
 refine key m (by simp; omega) ?_
 unfold Nt.prB
 have h2 := hp.1
 simp only [Bool.and_eq_true, decide_eq_true_eq, List.all_eq_true, List.mem_range, Bool.or_eq_true, bne_iff_ne, ne_eq]
 refine ⟨by omega, fun k hk => ?_⟩
 by_cases hk2 : k < 2
 · exact .inl hk2
 · refine .inr fun hm => ?_
   have := hp.2 k (by omega) (Int.natCast_dvd_natCast.2 (Nat.dvd_of_mod_eq_zero hm))
   omega
theorem qt_le {l : List Int} (hl : ∀ n ∈ l, n ≠ 0 ∧ n.natAbs ≤ 30) {p : Int} (h : QT l p) : p ≤ 30 := by
 obtain ⟨n, hn, hd⟩ := h
 have := hl n hn
 have := Int.le_of_dvd (show 0 < ((n.natAbs : Nat) : Int) by omega) (Int.dvd_natAbs.2 hd)
 omega
theorem term_ex {l : List Int} (hl : ∀ n ∈ l, n ≠ 0 ∧ n.natAbs ≤ 30) : ∃ S, IsPlaces (QT l) S ∧ S.length ≤ 12 ∧ (∀ p ∈ S, Nt.Pl p ∧ 0 ≤ p ∧ p ≤ 30) := by
 classical
 have key : ∀ p ∈ ([2, 3, 5, 7, 11, 13, 17, 19, 23, 29] : List Int), p ∈ Nt.all := by decide
 have pw : ([0, 2, 3, 5, 7, 11, 13, 17, 19, 23, 29] : List Int).Pairwise (· < ·) := by decide
 have hS : IsPlaces (QT l) (([0, 2, 3, 5, 7, 11, 13, 17, 19, 23, 29] : List Int).filter fun p => decide (p = 0 ∨ p = 2 ∨ QT l p)) := by
  refine ⟨pw.sublist List.filter_sublist, fun p => ?_⟩
  rw [List.mem_filter, decide_eq_true_eq]
  constructor
  · rintro ⟨hm, h | h | h⟩
    · exact .inl h
    · exact .inr (.inl h)
    · rcases List.mem_cons.1 hm with h0 | h1
      · exact .inl h0
      · rcases Nt.all_pl p (key p h1) with h2 | h2
        · exact .inl h2
        · exact .inr (.inr ⟨h2, h⟩)
  · rintro (h | h | ⟨h1, h2⟩)
    · exact ⟨by simp [h], .inl h⟩
    · exact ⟨by simp [h], .inr (.inl h)⟩
    · exact ⟨List.mem_cons_of_mem 0 (small_primes h1 (qt_le hl h2)), .inr (.inr h2)⟩
 refine ⟨_, hS, ?_, fun p hp => ⟨hS.pl p hp, ?_⟩⟩
 · exact Nat.le_trans (List.length_filter_le _ _) (by simp)
 · have hm := (List.mem_filter.1 hp).1
   simp only [List.mem_cons, List.not_mem_nil, or_false] at hm
   omega
theorem fv_terms {f : List Int} (h : fv f = true) : ∀ n ∈ f, n ≠ 0 ∧ n.natAbs ≤ 30 := fun n hn => ⟨fv_nz h n hn, fv_bd h n hn⟩
theorem qt_prod {p : Int} (hp : Nt.Pr p) : ∀ {l : List Int}, QT l p ↔ p ∣ Nt.prod l
 | [] => ⟨fun ⟨n, h, _⟩ => by simp at h, fun h => absurd h hp.not_dvd_one⟩
 | t :: l => by
  constructor
  · rintro ⟨n, hn, hd⟩
    unfold Nt.prod
    rcases List.mem_cons.1 hn with rfl | hn
    · exact Int.dvd_trans hd ⟨_, rfl⟩
    · exact Int.dvd_trans ((qt_prod hp).1 ⟨n, hn, hd⟩) ⟨t, by rw [Int.mul_comm]⟩
  · intro h
    rcases hp.dvd_mul h with h | h
    · exact ⟨t, by simp, h⟩
    · obtain ⟨n, hn, hd⟩ := (qt_prod hp).2 h
      exact ⟨n, by simp [hn], hd⟩
theorem S_isPl {l S : List Int} (h : IsPlaces (QT l) S) (hb : ∀ p ∈ S, Nt.Pl p ∧ 0 ≤ p ∧ p ≤ 30) : ∀ p ∈ S, isPl p = true := fun p hp => by
 rw [isPl_iff]
 rcases (hb p hp).1 with h0 | h1
 · exact .inl h0
 · exact .inr ⟨h1, by have := (hb p hp).2; omega⟩
theorem hz_good {a b c t u v : Int} (h : Nt.Hz a b c t u v) : Good a b c t u v := by
 obtain ⟨⟨h1, h2, h3⟩, ⟨k1, k2, _⟩, e, n⟩ := h
 refine ⟨h1, h2, h3, k1, k2, ?_, by rw [← Int.mul_assoc, ← Int.mul_assoc, ← Int.mul_assoc]; exact e⟩
 rcases Decidable.em (t = 0) with h | h
 · exact .inr fun e => n ⟨h, e⟩
 · exact .inl h
theorem sq_leN {t : Int} {N : Nat} (h : t * t ≤ (N : Int) * N) : t.natAbs ≤ N := by
 rcases Nat.lt_or_ge N t.natAbs with k | k
 · have h1 : (N + 1) * (N + 1) ≤ t.natAbs * t.natAbs := Nat.mul_le_mul k k
   have h2 : ((t.natAbs : Int) * (t.natAbs : Int)) = t * t := Int.natAbs_mul_self
   have h3 : ((N : Int) + 1) * ((N : Int) + 1) ≤ t * t := by rw [← h2]; exact_mod_cast h1
   grind
 · exact k
/-- The zero of the form: its three numbers are small. -/
theorem zero_bd {x t m a b c S : Int} {k : Nat} (hx : x ≠ 0) (ha : a ≠ 0) (hS : 1 ≤ S) (e : x * (m * m) = a * S) (h : (a * b * c).natAbs * S.natAbs ≤ 29791) (ht : t * t ≤ (k : Int) * (b * c).natAbs) (hk : k ≤ 2) : (t * m).natAbs ≤ 300 := by
 apply sq_leN
 have h1 : (m * m).natAbs ≤ (a * S).natAbs := by
  rw [← e, Int.mul_comm x]; exact abs_le_mul hx
 have h2 : (t * t).natAbs ≤ k * (b * c).natAbs := by
  have : 0 ≤ t * t := by
   rcases Int.le_total 0 t with h | h
   · exact Int.mul_nonneg h h
   · exact Int.mul_nonneg_of_nonpos_of_nonpos h h
  have e1 : ((t * t).natAbs : Int) = t * t := Int.natAbs_of_nonneg this
  have : (((t * t).natAbs : Nat) : Int) ≤ ((k * (b * c).natAbs : Nat) : Int) := by rw [e1]; push_cast; exact ht
  omega
 have h3 : (t * t).natAbs * (m * m).natAbs ≤ k * (b * c).natAbs * (a * S).natAbs := Nat.mul_le_mul h2 h1
 have h4 : k * (b * c).natAbs * (a * S).natAbs = k * ((a * b * c).natAbs * S.natAbs) := by
  rw [Int.natAbs_mul, Int.natAbs_mul, Int.natAbs_mul, Int.natAbs_mul]; grind
 have h5 : k * ((a * b * c).natAbs * S.natAbs) ≤ 2 * 29791 := Nat.mul_le_mul hk h
 have h6 : (t * m * (t * m)).natAbs = (t * t).natAbs * (m * m).natAbs := by rw [← Int.natAbs_mul]; congr 1; grind
 have h7 : t * m * (t * m) ≤ ((t * m * (t * m)).natAbs : Int) := Int.le_natAbs
 omega
theorem fbad_nil {f S : List Int} : fbad f S = [] ↔ ∀ p ∈ S, Nt.van p f = true := by
 unfold fbad
 rw [List.filter_eq_nil_iff]
 simp
theorem van_unit {f : List Int} {p : Int} (hp : Nt.Pr p) (h2 : p ≠ 2) (hf : ∀ t ∈ f, ¬ p ∣ t) (h3 : f.length = 3) : Nt.van p f = true := by
 have h1 := hp.1
 unfold Nt.van
 rw [if_neg (by omega), if_neg (by omega), Nt.inv_unit hp h2 hf, if_pos h3, Nt.hil_unit hp h2 (Nt.hn1 hp) (fun e => Nt.prod_unit hp hf (Int.dvd_neg.1 e))]
 rfl
theorem ok3_of {x y z a b c m n o S : Int} (h : Nt.Nm x y z a b c m n o S) (hb : (a * b * c).natAbs ≤ 29791) : ok3 a b c := by
 obtain ⟨_, ⟨ha, hb', hc⟩, _⟩ := h.1
 obtain ⟨sa, sb, sc⟩ := h.3
 exact ⟨⟨ha, hb', hc⟩, ⟨(Nt.cor_eq ha (Nt.isCore_self sa)).2.symm, (Nt.cor_eq hb' (Nt.isCore_self sb)).2.symm, (Nt.cor_eq hc (Nt.isCore_self sc)).2.symm⟩, by omega, h.4⟩
/-- The form's zero, out of the normal terms' one. -/
theorem zero_form {x y z a b c m n o S t u v : Int} (h : Nt.Nm x y z a b c m n o S) (g : a * (t * t) + b * (u * u) + c * (v * v) = 0) : x * ((t * m) * (t * m)) + y * ((u * n) * (u * n)) + z * ((v * o) * (v * o)) = 0 := by
 obtain ⟨e1, e2, e3⟩ := h.2
 rw [show x * ((t * m) * (t * m)) + y * ((u * n) * (u * n)) + z * ((v * o) * (v * o)) = (t * t) * (x * (m * m)) + (u * u) * (y * (n * n)) + (v * v) * (z * (o * o)) by grind, e1, e2, e3, show (t * t) * (a * S) + (u * u) * (b * S) + (v * v) * (c * S) = S * (a * (t * t) + b * (u * u) + c * (v * v)) by grind, g, Int.mul_zero]
/-- No place is bad just where the normal terms have a zero within the bounds. -/
theorem bad_iff {x y z a b c m n o S : Int} {L : List Int} (h : Nt.Nm x y z a b c m n o S) (bx : x.natAbs ≤ 30) (by' : y.natAbs ≤ 30) (bz : z.natAbs ≤ 30) (hL : IsPlaces (QT [x, y, z]) L) : fbad [x, y, z] L = [] ↔ ∃ t u v, Good a b c t u v := by
 rw [fbad_nil]
 constructor
 · intro hv
   have hps : ∀ p ∈ Nt.ps, Nt.van p [x, y, z] = true := by
    intro p hp
    rcases Decidable.em (p ∈ L) with k | k
    · exact hv p k
    · have hpr := Nt.ps_pr p hp
      refine van_unit hpr (fun e => k ((hL.2 p).2 (.inr (.inl e)))) (fun t ht hd => k ((hL.2 p).2 (.inr (.inr ⟨hpr, t, ht, hd⟩)))) rfl
   obtain ⟨t, u, v, g⟩ := h.zero bx by' bz (hv 0 ((hL.2 0).2 (.inl rfl))) hps
   exact ⟨t, u, v, hz_good g⟩
 · rintro ⟨t, u, v, g0, g1, g2, g3, g4, gn, g⟩ p hp
   obtain ⟨⟨hx, hy, hz⟩, _, _, ⟨hm, hn, ho⟩⟩ := h.1
   refine Nt.van_of_zero (x := t * m) (y := u * n) (z := v * o) ?_ hx hy hz ?_ (zero_form h g)
   · rcases (hL.2 p).1 hp with k | k | k
     · exact .inl k
     · exact .inr (k ▸ Nt.pr235.1)
     · exact .inr k.1
   · rcases gn with k | k
     · exact .inl (Int.mul_ne_zero k hm)
     · exact .inr (Int.mul_ne_zero k hn)
theorem zero_bds {x y z a b c m n o S t u v : Int} (h : Nt.Nm x y z a b c m n o S) (h7 : (a * b * c).natAbs * S.natAbs ≤ 29791) (g : Good a b c t u v) : (t * m).natAbs ≤ 300 ∧ (u * n).natAbs ≤ 300 ∧ (v * o).natAbs ≤ 300 := by
 obtain ⟨⟨hx, hy, hz⟩, ⟨ha, hb, hc⟩, hS, _⟩ := h.1
 obtain ⟨e1, e2, e3⟩ := h.2
 obtain ⟨g0, g1, g2, g3, g4, gn, ge⟩ := g
 refine ⟨zero_bd (k := 1) hx ha hS e1 h7 (by omega) (by omega), zero_bd (k := 1) (b := a) (c := c) hy hb hS e2 ?_ (by omega) (by omega), zero_bd (k := 2) (b := a) (c := b) hz hc hS e3 ?_ ?_ (by omega)⟩
 · rw [show b * a * c = a * b * c by grind]; exact h7
 · rw [show c * a * b = a * b * c by grind]; exact h7
 · have tt : 0 ≤ t * t := Int.mul_nonneg g0 g0
   have uu : 0 ≤ u * u := Int.mul_nonneg g1 g1
   have t1 : (t * t).natAbs ≤ (b * c).natAbs := by omega
   have u1 : (u * u).natAbs ≤ (a * c).natAbs := by omega
   have q1 : (c * (v * v)).natAbs ≤ (a * (t * t)).natAbs + (b * (u * u)).natAbs := by
    clear e1 e2 e3 h7 tt uu t1 u1 g3 g4
    omega
   have q2 : (a * (t * t)).natAbs ≤ a.natAbs * (b * c).natAbs := by rw [Int.natAbs_mul]; exact Nat.mul_le_mul_left _ t1
   have q3 : (b * (u * u)).natAbs ≤ b.natAbs * (a * c).natAbs := by rw [Int.natAbs_mul]; exact Nat.mul_le_mul_left _ u1
   have q4 : c.natAbs * (v * v).natAbs ≤ c.natAbs * (2 * (a * b).natAbs) := by
    rw [← Int.natAbs_mul]
    refine Nat.le_trans q1 (Nat.le_trans (Nat.add_le_add q2 q3) (Nat.le_of_eq ?_))
    rw [Int.natAbs_mul, Int.natAbs_mul, Int.natAbs_mul]; grind
   have q5 := Nat.le_of_mul_le_mul_left q4 (Int.natAbs_pos.2 hc)
   have q6 : v * v ≤ ((v * v).natAbs : Int) := Int.le_natAbs
   clear e1 e2 e3 h7 tt uu t1 u1 g3 g4 ge q1 q2 q3 q4
   omega
theorem impl_split_l {p : Int} (hp : 2 ≤ p) : ∀ (d : Nat) (n : Int) (v : Nat), n ≠ 0 → n.natAbs ≤ d → d ≤ 1000000000000 → v + n.natAbs ≤ 1000000000000 →
 Ev (fun k => impl_split.l0 k n p (v : Int)) (((v + Nt.vl n p : Nat) : Int), Nt.un n p) := by
 intro d
 induction d with
 | zero => intro n v hn h; omega
 | succ d ih =>
  intro n v hn h hd hv
  refine Ev.succ ?_
  simp only [impl_split.l0]
  refine Ev.neg (by omega) ?_
  by_cases ht : Int.tmod n p = 0
  · obtain ⟨h1, h2, h3, h4⟩ := div_facts hp hn ht
    refine Ev.pos ht ?_
    rw [w64 (x := Int.tdiv n p) (by omega) (by omega), w64 (by omega) (by omega), cast_succ]
    refine Ev.to (ih (Int.tdiv n p) (v + 1) h1 (by omega) (by omega) (by omega)) ?_
    rw [h3, h4]; congr 2; omega
  · refine Ev.neg ht (Ev.ret ?_)
    obtain ⟨h1, h2⟩ := div_none hp hn ht
    rw [h1, h2]; rfl
theorem impl_split_ev {n p : Int} (hp : 2 ≤ p) (hn : n ≠ 0) (hb : n.natAbs ≤ 1000000000000) : Ev (fun k => impl_split.f k n p) ((Nt.vl n p : Int), Nt.un n p) := by
 have := impl_split_l hp _ n 0 hn (Nat.le_refl _) hb (by omega)
 unfold impl_split.f
 simpa using this
theorem sq_small {p : Int} (h0 : 0 ≤ p) (h : p ≤ 1000001) : 0 ≤ p * p ∧ p * p ≤ 1000002000001 := by
 have h1 : p * p ≤ 1000001 * 1000001 := Int.mul_le_mul h h (by omega) (by omega)
 have h2 := Int.mul_nonneg h0 h0
 omega
theorem sq_lt {p n : Int} (h : p * p ≤ n) (hn : n ≤ 1000000000000) (h0 : 0 ≤ p) : p ≤ 1000000 := by
 rcases Int.lt_or_le 1000000 p with h' | h'
 · have : 1000001 * 1000001 ≤ p * p := Int.mul_le_mul (by omega) (by omega) (by omega) (by omega)
   omega
 · exact h'
theorem impl_primesOf_l {N : Int} (hN : N ≤ 1000000000000) : ∀ (d : Nat) (n p : Int) (out : List Int), (1000001 - p).toNat ≤ d → 2 ≤ p → p ≤ 1000001 → (out.length : Int) ≤ p → Nt.St N n p out →
 ∃ L, Nt.IsPL N L ∧ Ev (fun k => impl_primesOf.l0 k n out p) L := by
 intro d
 induction d with
 | zero =>
  intro n p out hd h2 h3 ho hS
  have hs := sq_small (p := p) (by omega) h3
  have hle : n < p * p := by
   have e : p = 1000001 := by omega
   subst e
   have := hS.2.1
   omega
  refine ⟨_, hS.last h2 hle, Ev.succ ?_⟩
  simp only [impl_primesOf.l0]
  rw [w64 (by omega) (by omega)]
  refine Ev.neg (by omega) ?_
  by_cases hn : n > 1
  · exact Ev.pos hn (Ev.pos (by omega) (Ev.ret (if_pos hn).symm))
  · exact Ev.neg hn (Ev.ret (if_neg hn).symm)
 | succ d ih =>
  intro n p out hd h2 h3 ho hS
  have hs := sq_small (p := p) (by omega) h3
  by_cases hle : p * p ≤ n
  · have hp6 := sq_lt hle (by have := hS.2.1; omega) (by omega)
    by_cases hdv : p ∣ n
    · obtain ⟨L, h4, h5⟩ := ih (Nt.un n p) (p + 1) (out ++ [p]) (by omega) (by omega) (by omega) (by simp; omega) (hS.step h2 hdv)
      refine ⟨L, h4, Ev.succ ?_⟩
      simp only [impl_primesOf.l0]
      have := hS.1
      have := hS.2.1
      rw [w64 (x := p * p) (by omega) (by omega), w64 (x := p + 1) (by omega) (by omega)]
      exact Ev.pos hle (Ev.neg (by omega) (Ev.pos (Nt.tmod_zero_iff.2 hdv) (Ev.pos (by omega) (Ev.bind (impl_split_ev h2 (by omega) (by omega)) h5))))
    · obtain ⟨L, h4, h5⟩ := ih n (p + 1) out (by omega) (by omega) (by omega) (by omega) (hS.skip hdv)
      refine ⟨L, h4, Ev.succ ?_⟩
      simp only [impl_primesOf.l0]
      rw [w64 (x := p * p) (by omega) (by omega), w64 (x := p + 1) (by omega) (by omega)]
      exact Ev.pos hle (Ev.neg (by omega) (Ev.neg (fun h => hdv (Nt.tmod_zero_iff.1 h)) h5))
  · refine ⟨_, hS.last h2 (by omega), Ev.succ ?_⟩
    simp only [impl_primesOf.l0]
    rw [w64 (by omega) (by omega)]
    refine Ev.neg (by omega) ?_
    by_cases hn : n > 1
    · exact Ev.pos hn (Ev.pos (by omega) (Ev.ret (if_pos hn).symm))
    · exact Ev.neg hn (Ev.ret (if_neg hn).symm)
theorem pl_abs {n : Int} {L : List Int} (h : Nt.IsPL (n.natAbs : Int) L) : Nt.IsPL n L := ⟨h.1, fun p => by rw [h.2, Int.dvd_natAbs]⟩
theorem mx_abs' (t : Int) : mx t (-t) = (t.natAbs : Int) := by unfold mx; split <;> omega
theorem impl_primesOf_ev {n : Int} (hn : n ≠ 0) (hn2 : n.natAbs ≤ 1000000000000) : ∃ L, Nt.IsPL n L ∧ Ev (fun k => impl_primesOf.f k n) L := by
 obtain ⟨L, h1, h2⟩ := impl_primesOf_l (N := (n.natAbs : Int)) (by omega) _ (n.natAbs : Int) 2 [] (Nat.le_refl _) (by omega) (by omega) (by simp) (Nt.St.start (by omega))
 refine ⟨L, pl_abs h1, ?_⟩
 unfold impl_primesOf.f impl_size.f
 rw [w64 (by omega) (by omega), mx_abs']
 exact Ev.sbind h2
/-- The first two of three numbers that share a prime, and that prime; or three times 0. -/
noncomputable def shp (a b c : Int) : Int × Int × Int :=
 if 1 < Nat.gcd a.natAbs b.natAbs then (0, 1, lp (Nat.gcd a.natAbs b.natAbs))
 else if 1 < Nat.gcd c.natAbs a.natAbs then (0, 2, lp (Nat.gcd c.natAbs a.natAbs))
 else if 1 < Nat.gcd b.natAbs c.natAbs then (1, 2, lp (Nat.gcd b.natAbs c.natAbs))
 else (0, 0, 0)
theorem gl_two (a b : Int) : gl [a, b] = Nat.gcd a.natAbs b.natAbs := by simp [gl, gf]
theorem impl_sharedPrime_ev {a b c : Int} (ha : a ≠ 0) (hb : b ≠ 0) (hc : c ≠ 0) (ha2 : a.natAbs ≤ 1000000000000) (hb2 : b.natAbs ≤ 1000000000000) (hc2 : c.natAbs ≤ 1000000000000) : Ev (fun k => impl_sharedPrime.f k [a, b, c]) (shp a b c) := by
 have e0 : rd [a, b, c] 0 = a := rfl
 have e1 : rd [a, b, c] 1 = b := rfl
 have e2 : rd [a, b, c] 2 = c := rfl
 have hM : ∀ x y : Int, x.natAbs ≤ 1000000000000 → y.natAbs ≤ 1000000000000 → Mid [x, y] := fun x y hx hy => ⟨by simp, by
  intro t ht
  simp only [List.mem_cons, List.not_mem_nil, or_false] at ht
  rcases ht with rfl | rfl
  · exact hx
  · exact hy⟩
 have hit : ∀ x y : Int, 1 < Nat.gcd x.natAbs y.natAbs → x ≠ 0 → x.natAbs ≤ 1000000000000 → ∃ L, Ev (fun k => impl_primesOf.f k ((Nat.gcd x.natAbs y.natAbs : Nat) : Int)) L ∧ 0 < L.length ∧ rd L 0 = lp (Nat.gcd x.natAbs y.natAbs) := by
  intro x y h h0 h2
  have hle := Nat.gcd_le_left y.natAbs (show 0 < x.natAbs by omega)
  obtain ⟨L, l1, l2⟩ := impl_primesOf_ev (n := ((Nat.gcd x.natAbs y.natAbs : Nat) : Int)) (by omega) (by omega)
  obtain ⟨p1, p2, _⟩ := lp_of l1 h
  exact ⟨L, l2, p1, p2⟩
 obtain ⟨Y, hY⟩ : ∃ Y : List S83, Y = [(⟨0, 1⟩ : S83), (⟨0, 2⟩ : S83), (⟨1, 2⟩ : S83)] := ⟨_, rfl⟩
 have y0 : rd_T83 Y 0 = ⟨0, 1⟩ := by rw [hY]; rfl
 have y1 : rd_T83 Y 1 = ⟨0, 2⟩ := by rw [hY]; rfl
 have y2 : rd_T83 Y 2 = ⟨1, 2⟩ := by rw [hY]; rfl
 have yl : (Y.length : Int) = 3 := by rw [hY]; rfl
 unfold impl_sharedPrime.f
 refine Ev.sbind ?_
 rw [← hY, yl]
 unfold shp
 refine Ev.succ ?_
 simp only [impl_sharedPrime.l0]
 rw [y0, yl]
 dsimp only
 rw [e0, e1, show wrap64 (0 + 1) = 1 by rw [w64 (by omega) (by omega)]; rfl]
 refine Ev.pos (by omega) (Ev.pos (by omega) (Ev.pos (by omega) (Ev.pos (by omega) (Ev.pos (by simp) (Ev.pos (by omega) (Ev.pos (by simp) (Ev.bind (impl_gcd_ev (hM a b ha2 hb2)) ?_)))))))
 rw [gl_two]
 by_cases c1 : 1 < Nat.gcd a.natAbs b.natAbs
 · obtain ⟨L, l1, l2, l3⟩ := hit a b c1 ha ha2
   rw [if_pos c1]
   exact Ev.pos (by omega) (Ev.bind l1 (Ev.pos (by omega) (Ev.ret (by rw [l3]))))
 · rw [if_neg c1]
   refine Ev.neg (by omega) (Ev.succ ?_)
   simp only [impl_sharedPrime.l0]
   rw [y1, yl]
   dsimp only
   rw [e0, e2, show wrap64 (1 + 1) = 2 by rw [w64 (by omega) (by omega)]; rfl]
   refine Ev.pos (by omega) (Ev.pos (by omega) (Ev.pos (by omega) (Ev.pos (by omega) (Ev.pos (by simp) (Ev.pos (by omega) (Ev.pos (by simp) (Ev.bind (impl_gcd_ev (hM a c ha2 hc2)) ?_)))))))
   rw [gl_two, Nat.gcd_comm a.natAbs c.natAbs]
   by_cases c2 : 1 < Nat.gcd c.natAbs a.natAbs
   · obtain ⟨L, l1, l2, l3⟩ := hit c a c2 hc hc2
     rw [if_pos c2]
     exact Ev.pos (by omega) (Ev.bind l1 (Ev.pos (by omega) (Ev.ret (by rw [l3]))))
   · rw [if_neg c2]
     refine Ev.neg (by omega) (Ev.succ ?_)
     simp only [impl_sharedPrime.l0]
     rw [y2, yl]
     dsimp only
     rw [e1, e2, show wrap64 (2 + 1) = 3 by rw [w64 (by omega) (by omega)]; rfl]
     refine Ev.pos (by omega) (Ev.pos (by omega) (Ev.pos (by omega) (Ev.pos (by omega) (Ev.pos (by simp) (Ev.pos (by omega) (Ev.pos (by simp) (Ev.bind (impl_gcd_ev (hM b c hb2 hc2)) ?_)))))))
     rw [gl_two]
     by_cases c3 : 1 < Nat.gcd b.natAbs c.natAbs
     · obtain ⟨L, l1, l2, l3⟩ := hit b c c3 hb hb2
       rw [if_pos c3]
       exact Ev.pos (by omega) (Ev.bind l1 (Ev.pos (by omega) (Ev.ret (by rw [l3]))))
     · rw [if_neg c3]
       refine Ev.neg (by omega) (Ev.succ ?_)
       simp only [impl_sharedPrime.l0]
       exact Ev.neg (by omega) (Ev.now _)
theorem slices_Clone_eq {xs : List Int} (h : xs.length ≤ 1000000) : slices_Clone_int_int.f xs = some xs := by
 unfold slices_Clone_int_int.f
 simp only [Option.bind_some, List.length_nil, List.nil_append]
 rw [if_pos (by omega)]
theorem impl_FormValid_l (xs : List Int) (hx : Md xs) : ∀ (r : List Int) (i : Nat), xs.drop i = r → Ev (fun k => impl_FormValid.l0 k xs xs (xs.length : Int) (i : Int)) (r.all okT && decide (1 ≤ xs.length ∧ xs.length ≤ 4))
 | [], i, h => by
  have := drop_nil h
  refine Ev.succ ?_
  simp only [impl_FormValid.l0]
  refine Ev.neg (by omega) ?_
  by_cases h1 : (xs.length : Int) ≥ 1
  · exact Ev.pos h1 (Ev.ret (by simp only [List.all_nil, Bool.true_and, decide_eq_decide]; omega))
  · exact Ev.neg h1 (Ev.ret (by simp only [List.all_nil, Bool.true_and]; symm; rw [decide_eq_false_iff_not]; omega))
 | t :: r, i, h => by
  obtain ⟨h1, h2, h3⟩ := drop_cons h
  have hb := hx.2 t (h2 ▸ rd_mem h1)
  have hl := hx.1
  refine Ev.succ ?_
  simp only [impl_FormValid.l0]
  rw [h2]
  refine Ev.pos (by omega) (Ev.pos (by omega) (Ev.pos (by omega) ?_))
  by_cases h0 : t = 0
  · exact Ev.pos h0 (Ev.ret (by simp [okT, h0]))
  · refine Ev.neg h0 ?_
    unfold impl_size.f
    rw [w64 (by omega) (by omega)]
    refine Ev.sbind ?_
    have hm : mx t (-t) = if t < 0 then -t else t := by unfold mx; split <;> split <;> omega
    rw [hm]
    by_cases hs : (if t < 0 then -t else t) > 30
    · refine Ev.pos hs (Ev.ret ?_)
      have : okT t = false := by unfold okT; simp; intro _ _; split at hs <;> omega
      simp [this]
    · refine Ev.neg hs ?_
      have : okT t = true := okT_iff.2 ⟨h0, by split at hs <;> omega, by split at hs <;> omega⟩
      rw [w64 (by omega) (by omega), cast_succ]
      refine Ev.to (impl_FormValid_l xs hx r (i + 1) h3) ?_
      simp [this]
theorem impl_FormValid_ev {xs : List Int} (hx : Md xs) : Ev (fun k => impl_FormValid.f k xs) (fv xs) := by
 unfold impl_FormValid.f
 exact impl_FormValid_l xs hx xs 0 rfl
theorem impl_coreOf_l1 {N p : Int} (hN : N ≠ 0) (hN2 : N.natAbs ≤ 1000000000) (hp : 2 ≤ p) (hp2 : p ≤ 1000000000) (L : List Int) (i : Nat) (hi : i < L.length) (hL : L.length ≤ 1000000) (res : Int × Int) (B : Int → Prop)
 (hB : ∀ m n, B n → m ∣ n → B m)
 (hnext : ∀ n r, N = n * (r * r) → 1 ≤ r → B n → ¬ p * p ∣ n → Ev (fun k => impl_coreOf.l0 k n r L (L.length : Int) ((i + 1 : Nat) : Int)) res) :
 ∀ (d : Nat) (n r : Int), n.natAbs ≤ d → N = n * (r * r) → 1 ≤ r → B n → Ev (fun k => impl_coreOf.l1 k n r p L (L.length : Int) (i : Int)) res := by
 intro d
 induction d with
 | zero =>
  intro n r hd h hr
  have := (core_bd hN hN2 h hr).2.1
  omega
 | succ d ih =>
  intro n r hd h hr hb
  obtain ⟨b1, b2, b3⟩ := core_bd hN hN2 h hr
  have hpp : 0 ≤ p * p ∧ p * p ≤ 1000000000000000000 := ⟨Int.mul_nonneg (by omega) (by omega), Int.le_trans (Int.mul_le_mul hp2 hp2 (by omega) (by omega)) (by omega)⟩
  have hp0 := sq_ne hp
  refine Ev.succ ?_
  simp only [impl_coreOf.l1]
  rw [w64 (x := p * p) (by omega) (by omega)]
  refine Ev.neg hp0 ?_
  by_cases hdv : p * p ∣ n
  · obtain ⟨c1, c2, c3, c4, c5⟩ := core_step hN hN2 hp h hr hdv
    have hrp : r * p ≤ 100000 * 1000000000 := Int.mul_le_mul b1 hp2 (by omega) (by omega)
    rw [w64 (x := Int.tdiv n (p * p)) (by omega) (by omega), w64 (x := r * p) (by omega) (by omega)]
    exact Ev.pos (Nt.tmod_zero_iff.2 hdv) (ih _ _ (by omega) c3 c4 (hB _ _ hb c5))
  · rw [w64 (x := (i : Int) + 1) (by omega) (by omega), cast_succ]
    exact Ev.neg (fun e => hdv (Nt.tmod_zero_iff.1 e)) (hnext n r h hr hb hdv)
theorem impl_coreOf_l0 {N : Int} (hN : N ≠ 0) (hN2 : N.natAbs ≤ 1000000000) {L : List Int} (hL : Nt.IsPL N L) : ∀ (rest : List Int) (i : Nat) (n r : Int), L.drop i = rest → N = n * (r * r) → 1 ≤ r → (∀ q, Nt.Pr q → q ∣ N → q ∉ rest → ¬ q * q ∣ n) →
 ∃ c s, Nt.IsCore N c s ∧ Ev (fun k => impl_coreOf.l0 k n r L (L.length : Int) (i : Int)) (c, s)
 | [], i, n, r, h, h1, h2, h3 => by
  have := drop_nil h
  refine ⟨n, r, ⟨h1, h2, fun q hq hd => ?_⟩, Ev.succ ?_⟩
  · have hqn : q ∣ N := by rw [h1]; exact Int.dvd_trans (Int.dvd_trans ⟨q, rfl⟩ hd) ⟨_, rfl⟩
    exact h3 q hq hqn (by simp) hd
  · simp only [impl_coreOf.l0]
    exact Ev.neg (by omega) (Ev.now _)
 | p :: rest, i, n, r, h, h1, h2, h3 => by
  obtain ⟨v1, v2, v3⟩ := drop_cons h
  have hp := (hL.2 p).1 (v2 ▸ rd_mem v1)
  have hp2 := hp.1.1
  have hple : p ≤ 1000000000 := by
   have := Int.le_of_dvd (show 0 < ((N.natAbs : Nat) : Int) by omega) (Int.dvd_natAbs.2 hp.2); omega
  have hlen : L.length ≤ 1000000 := by
   have hd := Nt.prod_dvd (l := L) (n := N) (hL.1.imp (fun h => by omega)) (fun p hp => (hL.2 p).1 hp)
   have hle := Int.le_of_dvd (show 0 < ((N.natAbs : Nat) : Int) by omega) (Int.dvd_natAbs.2 hd)
   have key : ∀ l : List Int, (∀ p ∈ l, Nt.Pr p) → (l.length : Int) < 2 ^ l.length ∧ (2 : Int) ^ l.length ≤ Nt.prod l := by
    intro l hp
    induction l with
    | nil => simp [Nt.prod]
    | cons p l ih =>
     obtain ⟨a, b⟩ := ih (fun q hq => hp q (by simp [hq]))
     have h2 := (hp p (by simp)).1
     have : 2 * 2 ^ l.length ≤ p * Nt.prod l := Int.mul_le_mul h2 b (by omega) (by omega)
     simp only [List.length_cons, Int.pow_succ, Nt.prod]
     omega
   obtain ⟨a, b⟩ := key L (fun p hp => ((hL.2 p).1 hp).1)
   rcases Nat.lt_or_ge 40 L.length with h4 | h4
   · exfalso
     have : (2 : Int) ^ 41 ≤ 2 ^ L.length := by
      have := Nat.pow_le_pow_right (show 0 < 2 by omega) (show 41 ≤ L.length by omega)
      exact_mod_cast this
     omega
   · omega
  -- all ways lead to the one core
  let B : Int → Prop := fun n => ∀ q, Nt.Pr q → q ∣ N → q ∉ p :: rest → ¬ q * q ∣ n
  have hBm : ∀ m n, B n → m ∣ n → B m := fun m n hb hm q k1 k2 k3 k4 => hb q k1 k2 k3 (Int.dvd_trans k4 hm)
  have nxt : ∀ n r, N = n * (r * r) → 1 ≤ r → B n → ¬ p * p ∣ n → ∃ c s, Nt.IsCore N c s ∧ Ev (fun k => impl_coreOf.l0 k n r L (L.length : Int) ((i + 1 : Nat) : Int)) (c, s) := by
   intro n r k1 k2 k3 k4
   refine impl_coreOf_l0 hN hN2 hL rest (i + 1) n r v3 k1 k2 (fun q q1 q2 q3 => ?_)
   by_cases e : q = p
   · rw [e]; exact k4
   · exact k3 q q1 q2 (by simp [e, q3])
  obtain ⟨c, s, hc⟩ := Nt.core_exists (N := N) hN
  have nxt2 : ∀ n r, N = n * (r * r) → 1 ≤ r → B n → ¬ p * p ∣ n → Ev (fun k => impl_coreOf.l0 k n r L (L.length : Int) ((i + 1 : Nat) : Int)) (c, s) := by
   intro n r k1 k2 k3 k4
   obtain ⟨c', s', h5, h6⟩ := nxt n r k1 k2 k3 k4
   obtain ⟨e1, e2⟩ := hc.uniq hN h5
   rw [e1, e2]; exact h6
  refine ⟨c, s, hc, Ev.succ ?_⟩
  simp only [impl_coreOf.l0]
  rw [v2]
  exact Ev.pos (by omega) (Ev.pos (by omega) (Ev.pos (by omega) (impl_coreOf_l1 hN hN2 hp2 hple L i v1 hlen (c, s) B hBm nxt2 _ n r (Nat.le_refl _) h1 h2 h3)))
theorem impl_coreOf_ev {N : Int} (hN : N ≠ 0) (hN2 : N.natAbs ≤ 1000000000) : ∃ c s, Nt.IsCore N c s ∧ Ev (fun k => impl_coreOf.f k N) (c, s) := by
 obtain ⟨L, h1, h2⟩ := impl_primesOf_ev hN (by omega)
 obtain ⟨c, s, h3, h4⟩ := impl_coreOf_l0 hN hN2 h1 L 0 N 1 rfl (by simp) (by omega) (fun q k1 k2 k3 => absurd ((h1.2 q).2 ⟨k1, k2⟩) k3)
 refine ⟨c, s, h3, ?_⟩
 unfold impl_coreOf.f
 exact Ev.bind h2 h4
theorem impl_coreOf_cor {N : Int} (hN : N ≠ 0) (hN2 : N.natAbs ≤ 1000000000) : Ev (fun k => impl_coreOf.f k N) (Nt.cor N, Nt.rt N) := by
 obtain ⟨c, s, h1, h2⟩ := impl_coreOf_ev hN hN2
 obtain ⟨u, v⟩ := Nt.cor_eq hN h1
 rw [← u, ← v]; exact h2
theorem shp_two {a b c p t : Int} (h : two a b c = (p, t)) (hp : 2 ≤ p) : shp a b c = if t = 2 then (0, 1, p) else if t = 1 then (0, 2, p) else (1, 2, p) := by
 unfold two at h
 unfold shp
 split at h
 · injection h with h1 h2
   subst h1 h2
   rw [if_pos (by assumption), if_pos rfl]
 · split at h
   · injection h with h1 h2
     subst h1 h2
     rw [if_neg (by assumption), if_pos (by assumption), if_neg (by omega), if_pos rfl]
   · split at h
     · injection h with h1 h2
       subst h1 h2
       rw [if_neg (by assumption), if_neg (by assumption), if_pos (by assumption), if_neg (by omega), if_neg (by omega)]
     · injection h with h1 h2
       omega
theorem impl_ZeroNormal_l {t0 t1 t2 : Int} : ∀ (f : Nat) (a b c m n o : Int), NI t0 t1 t2 a b c m n o → (a * b * c).natAbs ≤ f →
 Ev (fun k => impl_ZeroNormal.l1 k [a, b, c] [m, n, o]) ((nrm f a b c m n o).1, (nrm f a b c m n o).2, true) := by
 intro f
 induction f with
 | zero =>
  intro a b c m n o h hf
  have := Int.natAbs_pos.2 (Int.mul_ne_zero (Int.mul_ne_zero h.1.1 h.1.2.1) h.1.2.2)
  omega
 | succ f ih =>
  intro a b c m n o h hf
  obtain ⟨_, hcase⟩ := NI_two h
  obtain ⟨hb0, ⟨hb1, hb2, hb3⟩, hb4⟩ := h.bds
  have hs := impl_sharedPrime_ev h.1.1 h.1.2.1 h.1.2.2 (by omega) (by omega) (by omega)
  simp only [nrm]
  obtain ⟨p, t, hq⟩ : ∃ p t, two a b c = (p, t) := ⟨_, _, rfl⟩
  rw [hq] at hcase ⊢
  dsimp only at hcase ⊢
  refine Ev.succ ?_
  simp only [impl_ZeroNormal.l1]
  refine Ev.bind hs ?_
  rcases hcase with ⟨rfl, rfl, g1, g2, g3⟩ | ⟨hp, hcase⟩
  · have : shp a b c = (0, 0, 0) := by
     unfold shp
     rw [if_neg (by omega), if_neg (by omega), if_neg (by omega)]
    rw [this, if_neg (by omega)]
    exact Ev.pos rfl (Ev.now _)
  · have hp2 : 2 ≤ p := hp.1
    rw [shp_two hq hp2, if_pos (show p > 1 by omega)]
    clear hq hs
    rcases hcase with ⟨rfl, ⟨a', rfl⟩, ⟨b', rfl⟩⟩ | ⟨rfl, ⟨c', rfl⟩, ⟨a', rfl⟩⟩ | ⟨rfl, ⟨b', rfl⟩, ⟨c', rfl⟩⟩
    · obtain ⟨s1, s2, s3⟩ := h.step hp2
      have bb := s2.bds
      have ab : a'.natAbs ≤ 29791 ∧ b'.natAbs ≤ 29791 := ⟨bb.2.1.1, bb.2.1.2.1⟩
      rw [if_pos rfl, if_pos rfl]
      dsimp only
      rw [show wrap64 (wrap64 (3 - 0) - 1) = 2 by decide +kernel]
      rw [show rd [p * a', p * b', c] 0 = p * a' from rfl, tdiv_of hp2, w64 (x := a') (by omega) (by omega)]
      refine Ev.neg (by omega) (Ev.pos (by omega) (Ev.pos (by simp) (Ev.sbind ?_)))
      show Ev (fun k => _) _
      rw [show [p * a', p * b', c].set (0 : Int).toNat a' = [a', p * b', c] from rfl, show rd [a', p * b', c] 1 = p * b' from rfl, tdiv_of hp2, w64 (x := b') (by omega) (by omega)]
      refine Ev.pos (by omega) (Ev.pos (by simp) (Ev.sbind ?_))
      show Ev (fun k => _) _
      rw [show [a', p * b', c].set (1 : Int).toNat b' = [a', b', c] from rfl, show rd [a', b', c] 2 = c from rfl]
      refine Ev.pos (by omega) (Ev.pos (by simp) ?_)
      by_cases hd : Int.tmod c p = 0
      · obtain ⟨c', rfl⟩ := Int.dvd_of_tmod_eq_zero hd
        obtain ⟨s4, s5⟩ := s1 c' rfl
        have cb := s4.bds.2.1.2.2
        rw [if_pos hd]
        (try simp only [tdiv_of hp2])
        rw [w64 (x := c') (by omega) (by omega)]
        exact Ev.pos hd (ih _ _ _ _ _ _ s4 (by omega))
      · rw [if_neg hd]
        (try simp only [tdiv_of hp2])
        rw [w64 (x := c * p) (by omega) (by omega), show rd [m, n, o] 2 = o from rfl, w64 (x := o * p) (by have := s2.2.1; omega) (by omega)]
        exact Ev.neg hd (Ev.pos (by simp) (ih _ _ _ _ _ _ s2 (by omega)))
    · have h' := h.rot.rot
      obtain ⟨s1, s2, s3⟩ := h'.step hp2
      have s2' := s2.rot
      have bb := s2'.bds
      have e1 : (p * a' * b * (p * c')).natAbs = (p * c' * (p * a') * b).natAbs := by congr 1; grind
      rw [if_neg (by omega), if_pos rfl, if_neg (by omega), if_pos rfl]
      dsimp only
      rw [show wrap64 (wrap64 (3 - 0) - 2) = 1 by decide +kernel]
      rw [show rd [p * a', b, p * c'] 0 = p * a' from rfl, tdiv_of hp2, w64 (x := a') (by omega) (by omega)]
      refine Ev.neg (by omega) (Ev.pos (by omega) (Ev.pos (by simp) (Ev.sbind ?_)))
      show Ev (fun k => _) _
      rw [show [p * a', b, p * c'].set (0 : Int).toNat a' = [a', b, p * c'] from rfl, show rd [a', b, p * c'] 2 = p * c' from rfl, tdiv_of hp2, w64 (x := c') (by omega) (by omega)]
      refine Ev.pos (by omega) (Ev.pos (by simp) (Ev.sbind ?_))
      show Ev (fun k => _) _
      rw [show [a', b, p * c'].set (2 : Int).toNat c' = [a', b, c'] from rfl, show rd [a', b, c'] 1 = b from rfl]
      refine Ev.pos (by omega) (Ev.pos (by simp) ?_)
      by_cases hd : Int.tmod b p = 0
      · obtain ⟨b', rfl⟩ := Int.dvd_of_tmod_eq_zero hd
        obtain ⟨s4, s5⟩ := s1 b' rfl
        have s4' := s4.rot
        have cb := s4'.bds.2.1
        have e2 : (a' * b' * c').natAbs = (c' * a' * b').natAbs := by congr 1; grind
        rw [if_pos hd]
        (try simp only [tdiv_of hp2])
        rw [w64 (x := b') (by omega) (by omega)]
        exact Ev.pos hd (ih _ _ _ _ _ _ s4' (by omega))
      · have e2 : (a' * (b * p) * c').natAbs = (c' * a' * (b * p)).natAbs := by congr 1; grind
        rw [if_neg hd]
        (try simp only [tdiv_of hp2])
        rw [w64 (x := b * p) (by omega) (by omega), show rd [m, n, o] 1 = n from rfl, w64 (x := n * p) (by have := s2'.2.1; omega) (by omega)]
        exact Ev.neg hd (Ev.pos (by simp) (ih _ _ _ _ _ _ s2' (by omega)))
    · have h' := h.rot
      obtain ⟨s1, s2, s3⟩ := h'.step hp2
      have s2' := s2.rot.rot
      have bb := s2'.bds
      have e1 : (a * (p * b') * (p * c')).natAbs = (p * b' * (p * c') * a).natAbs := by congr 1; grind
      rw [if_neg (by omega), if_neg (by omega), if_neg (by omega), if_neg (by omega)]
      dsimp only
      rw [show wrap64 (wrap64 (3 - 1) - 2) = 0 by decide +kernel]
      rw [show rd [a, p * b', p * c'] 1 = p * b' from rfl, tdiv_of hp2, w64 (x := b') (by omega) (by omega)]
      refine Ev.neg (by omega) (Ev.pos (by omega) (Ev.pos (by simp) (Ev.sbind ?_)))
      show Ev (fun k => _) _
      rw [show [a, p * b', p * c'].set (1 : Int).toNat b' = [a, b', p * c'] from rfl, show rd [a, b', p * c'] 2 = p * c' from rfl, tdiv_of hp2, w64 (x := c') (by omega) (by omega)]
      refine Ev.pos (by omega) (Ev.pos (by simp) (Ev.sbind ?_))
      show Ev (fun k => _) _
      rw [show [a, b', p * c'].set (2 : Int).toNat c' = [a, b', c'] from rfl, show rd [a, b', c'] 0 = a from rfl]
      refine Ev.pos (by omega) (Ev.pos (by simp) ?_)
      by_cases hd : Int.tmod a p = 0
      · obtain ⟨a', rfl⟩ := Int.dvd_of_tmod_eq_zero hd
        obtain ⟨s4, s5⟩ := s1 a' rfl
        have s4' := s4.rot.rot
        have cb := s4'.bds.2.1
        have e2 : (a' * b' * c').natAbs = (b' * c' * a').natAbs := by congr 1; grind
        rw [if_pos hd]
        (try simp only [tdiv_of hp2])
        rw [w64 (x := a') (by omega) (by omega)]
        exact Ev.pos hd (ih _ _ _ _ _ _ s4' (by omega))
      · have e2 : (a * p * b' * c').natAbs = (b' * c' * (a * p)).natAbs := by congr 1; grind
        rw [if_neg hd]
        (try simp only [tdiv_of hp2])
        rw [w64 (x := a * p) (by omega) (by omega), show rd [m, n, o] 0 = m from rfl, w64 (x := m * p) (by have := s2'.2.1; omega) (by omega)]
        exact Ev.neg hd (Ev.pos (by simp) (ih _ _ _ _ _ _ s2' (by omega)))
theorem impl_ZeroNormal_no {f : List Int} (hf : Md f) (h : ¬ (fv f = true ∧ f.length = 3)) : Ev (fun k => impl_ZeroNormal.f k f) ([], [], false) := by
 have no : Ev (fun k => impl_ZeroNormal.j0 k f true) ([], [], false) := by
  refine Ev.succ ?_
  simp only [impl_ZeroNormal.j0]
  exact Ev.pos (by simp) (Ev.now _)
 unfold impl_ZeroNormal.f
 refine Ev.bind (impl_FormValid_ev hf) ?_
 by_cases h1 : fv f = true
 · refine Ev.pos h1 ?_
   rw [show ((f.length : Int) != 3) = true by rw [bne_iff_ne]; exact fun e => h ⟨h1, by omega⟩]
   exact no
 · exact Ev.neg h1 no
theorem impl_ZeroNormal_ev {x y z : Int} (h : fv [x, y, z] = true) : Ev (fun k => impl_ZeroNormal.f k [x, y, z]) ((nm3 x y z).1, (nm3 x y z).2, true) := by
 obtain ⟨hall, _⟩ := fv_iff.1 h
 have hx := (hall x (by simp)).1
 have hy := (hall y (by simp)).1
 have hz := (hall z (by simp)).1
 have bx : x.natAbs ≤ 31 := by have := hall x (by simp); omega
 have by' : y.natAbs ≤ 31 := by have := hall y (by simp); omega
 have bz : z.natAbs ≤ 31 := by have := hall z (by simp); omega
 have hs := ni_start hx hy hz bx by' bz
 obtain ⟨_, r1, _⟩ := Nt.cor_core hx
 obtain ⟨_, r2, _⟩ := Nt.cor_core hy
 obtain ⟨_, r3, _⟩ := Nt.cor_core hz
 have l1 := ((Nt.cor_core hx).root_le hx).1
 have l2 := ((Nt.cor_core hy).root_le hy).1
 have l3 := ((Nt.cor_core hz).root_le hz).1
 have sq : ∀ r : Int, 1 ≤ r → r.natAbs * r.natAbs ≤ 31 → r ≤ 5 := by
  intro r h1 h2
  rcases Nat.lt_or_ge r.natAbs 6 with h | h
  · omega
  · have := Nat.mul_le_mul h h; omega
 have q1 := sq _ r1 (by omega)
 have q2 := sq _ r2 (by omega)
 have q3 := sq _ r3 (by omega)
 obtain ⟨_, _, ⟨m1, m2, m3⟩⟩ := hs.bds
 have mp := hs.2.1
 unfold impl_ZeroNormal.f
 refine Ev.bind (impl_FormValid_ev (Md.of_fv h)) (Ev.pos h ?_)
 rw [show ((([x, y, z] : List Int).length : Int) != 3) = false from rfl]
 refine Ev.succ ?_
 simp only [impl_ZeroNormal.j0]
 refine Ev.neg (by simp) ?_
 rw [slices_Clone_eq (by simp)]
 refine Ev.sbind ?_
 show Ev (fun k => _) _
 rw [show ((([x, y, z] : List Int).length : Nat) : Int) = 3 from rfl]
 refine Ev.succ ?_
 simp only [impl_ZeroNormal.l0]
 rw [show rd [x, y, z] 0 = x from rfl, show Int.tmod (wrap64 (0 + 1)) 3 = 1 by rw [w64 (by omega) (by omega)]; rfl, show Int.tmod (wrap64 (0 + 2)) 3 = 2 by rw [w64 (by omega) (by omega)]; rfl, show wrap64 (0 + 1) = 1 by rw [w64 (by omega) (by omega)]; rfl]
 refine Ev.pos (by omega) (Ev.pos (by omega) (Ev.pos (by simp) (Ev.bind (impl_coreOf_cor hx (by omega)) ?_)))
 dsimp only
 refine Ev.pos (by simp) (Ev.pos (by omega) (Ev.pos (by simp) (Ev.sbind ?_)))
 show Ev (fun k => _) _
 rw [show rd [(1 : Int), 1, 1] 1 = 1 from rfl, w64 (x := 1 * Nt.rt x) (by omega) (by omega), show [(1 : Int), 1, 1].set (1 : Int).toNat (1 * Nt.rt x) = [1, 1 * Nt.rt x, 1] from rfl]
 refine Ev.pos (by omega) (Ev.pos (by simp) ?_)
 rw [show rd [1, 1 * Nt.rt x, 1] 2 = 1 from rfl, w64 (x := 1 * Nt.rt x) (by omega) (by omega), show [1, 1 * Nt.rt x, 1].set (2 : Int).toNat (1 * Nt.rt x) = [1, 1 * Nt.rt x, 1 * Nt.rt x] from rfl, show [x, y, z].set (0 : Int).toNat (Nt.cor x) = [Nt.cor x, y, z] from rfl]
 refine Ev.succ ?_
 simp only [impl_ZeroNormal.l0]
 rw [show rd [x, y, z] 1 = y from rfl, show Int.tmod (wrap64 (1 + 1)) 3 = 2 by rw [w64 (by omega) (by omega)]; rfl, show Int.tmod (wrap64 (1 + 2)) 3 = 0 by rw [w64 (by omega) (by omega)]; rfl, show wrap64 (1 + 1) = 2 by rw [w64 (by omega) (by omega)]; rfl]
 refine Ev.pos (by omega) (Ev.pos (by omega) (Ev.pos (by simp) (Ev.bind (impl_coreOf_cor hy (by omega)) ?_)))
 dsimp only
 refine Ev.pos (by simp) (Ev.pos (by omega) (Ev.pos (by simp) (Ev.sbind ?_)))
 show Ev (fun k => _) _
 rw [show rd [1, 1 * Nt.rt x, 1 * Nt.rt x] 2 = 1 * Nt.rt x from rfl, w64 (x := 1 * Nt.rt x * Nt.rt y) (by omega) (by omega), show [1, 1 * Nt.rt x, 1 * Nt.rt x].set (2 : Int).toNat (1 * Nt.rt x * Nt.rt y) = [1, 1 * Nt.rt x, 1 * Nt.rt x * Nt.rt y] from rfl]
 refine Ev.pos (by omega) (Ev.pos (by simp) ?_)
 rw [show rd [1, 1 * Nt.rt x, 1 * Nt.rt x * Nt.rt y] 0 = 1 from rfl, w64 (x := 1 * Nt.rt y) (by omega) (by omega), show [1, 1 * Nt.rt x, 1 * Nt.rt x * Nt.rt y].set (0 : Int).toNat (1 * Nt.rt y) = [1 * Nt.rt y, 1 * Nt.rt x, 1 * Nt.rt x * Nt.rt y] from rfl, show [Nt.cor x, y, z].set (1 : Int).toNat (Nt.cor y) = [Nt.cor x, Nt.cor y, z] from rfl]
 refine Ev.succ ?_
 simp only [impl_ZeroNormal.l0]
 rw [show rd [x, y, z] 2 = z from rfl, show Int.tmod (wrap64 (2 + 1)) 3 = 0 by rw [w64 (by omega) (by omega)]; rfl, show Int.tmod (wrap64 (2 + 2)) 3 = 1 by rw [w64 (by omega) (by omega)]; rfl, show wrap64 (2 + 1) = 3 by rw [w64 (by omega) (by omega)]; rfl]
 refine Ev.pos (by omega) (Ev.pos (by omega) (Ev.pos (by simp) (Ev.bind (impl_coreOf_cor hz (by omega)) ?_)))
 dsimp only
 refine Ev.pos (by simp) (Ev.pos (by omega) (Ev.pos (by simp) (Ev.sbind ?_)))
 show Ev (fun k => _) _
 rw [show rd [1 * Nt.rt y, 1 * Nt.rt x, 1 * Nt.rt x * Nt.rt y] 0 = 1 * Nt.rt y from rfl, w64 (x := 1 * Nt.rt y * Nt.rt z) (by omega) (by omega), show [1 * Nt.rt y, 1 * Nt.rt x, 1 * Nt.rt x * Nt.rt y].set (0 : Int).toNat (1 * Nt.rt y * Nt.rt z) = [1 * Nt.rt y * Nt.rt z, 1 * Nt.rt x, 1 * Nt.rt x * Nt.rt y] from rfl]
 refine Ev.pos (by omega) (Ev.pos (by simp) ?_)
 rw [show rd [1 * Nt.rt y * Nt.rt z, 1 * Nt.rt x, 1 * Nt.rt x * Nt.rt y] 1 = 1 * Nt.rt x from rfl, w64 (x := 1 * Nt.rt x * Nt.rt z) (by omega) (by omega), show [1 * Nt.rt y * Nt.rt z, 1 * Nt.rt x, 1 * Nt.rt x * Nt.rt y].set (1 : Int).toNat (1 * Nt.rt x * Nt.rt z) = [1 * Nt.rt y * Nt.rt z, 1 * Nt.rt x * Nt.rt z, 1 * Nt.rt x * Nt.rt y] from rfl, show [Nt.cor x, Nt.cor y, z].set (2 : Int).toNat (Nt.cor z) = [Nt.cor x, Nt.cor y, Nt.cor z] from rfl]
 refine Ev.succ ?_
 simp only [impl_ZeroNormal.l0]
 refine Ev.neg (by omega) ?_
 exact impl_ZeroNormal_l 29791 _ _ _ _ _ _ hs hs.bds.1
/-- What a reader reads: bytes, not too many. -/
def BY (b : List Int) : Prop := b.length ≤ 2000 ∧ ∀ x ∈ b, 0 ≤ x ∧ x < 256
theorem BY.rd {b : List Int} (hb : BY b) {i : Int} (h0 : 0 ≤ i) (h1 : i < b.length) : 0 ≤ rd b i ∧ rd b i < 256 := by
 obtain ⟨n, rfl⟩ : ∃ n : Nat, i = n := ⟨i.toNat, by omega⟩
 exact hb.2 _ (rd_mem (by omega))
theorem xor_i64 (a b : Nat) (ha : a < 9223372036854775808) (hb : b < 9223372036854775808) : Go.bits .xor .i64 (a : Int) (b : Int) = ((a ^^^ b : Nat) : Int) := by
 have hx : a ^^^ b < 2 ^ 63 := Nat.xor_lt_two_pow (by omega) (by omega)
 have h1 : (BitVec.ofInt 64 (a : Int)).toNat = a := by
  rw [BitVec.ofInt_natCast, BitVec.toNat_ofNat]; exact Nat.mod_eq_of_lt (by omega)
 have h2 : (BitVec.ofInt 64 (b : Int)).toNat = b := by
  rw [BitVec.ofInt_natCast, BitVec.toNat_ofNat]; exact Nat.mod_eq_of_lt (by omega)
 show IntKind.i64.wrap ((BitVec.ofInt 64 (a : Int) ^^^ BitVec.ofInt 64 (b : Int)).toNat : Int) = _
 rw [BitVec.toNat_xor, h1, h2]
 simp [IntKind.wrap, IntKind.bits, IntKind.signed]
 omega
/-- What lies behind the end. -/
def mixX (b : List Int) (q : Int) : Int := rd b (Int.tmod q b.length) * 131 + rd b (Int.tmod (q * 7 + 3) b.length) * 1117 + q * 29 + Int.tdiv q b.length * 53
/-- Behind the end: the mixture. -/
theorem pick_far {b : List Int} (hb : BY b) {n p : Int} (hn : 1 ≤ n) (hp : 0 ≤ p) (hp2 : p ≤ 1099511627776) (h0 : b.length ≠ 0) (hlt : ¬ p < b.length) :
 0 ≤ mixX b p ∧ Ev (fun k => spec_l6Rd_pick.f k b p n) ((((mixX b p).toNat ^^^ (mixX b p).toNat / 64 : Nat) : Int) % n, p + 1) := by
 have hl := hb.1
 have hlp : (0 : Int) < b.length := by omega
 have t1 : 0 ≤ Int.tmod p b.length := Int.tmod_nonneg _ hp
 have t2 : Int.tmod p b.length < b.length := Int.tmod_lt_of_pos _ hlp
 have t3 : 0 ≤ Int.tmod (p * 7 + 3) b.length := Int.tmod_nonneg _ (by omega)
 have t4 : Int.tmod (p * 7 + 3) b.length < b.length := Int.tmod_lt_of_pos _ hlp
 have r1 := hb.rd t1 t2
 have r2 := hb.rd t3 t4
 have d1 : 0 ≤ Int.tdiv p b.length := Int.tdiv_nonneg hp (by omega)
 have d2 : Int.tdiv p b.length ≤ p := by rw [Int.tdiv_eq_ediv_of_nonneg hp]; exact Int.ediv_le_self _ hp
 have x0 : 0 ≤ mixX b p := by unfold mixX; omega
 have x1 : mixX b p ≤ 100000000000000 := by unfold mixX; omega
 have x2 : Int.tdiv (mixX b p) 64 = mixX b p / 64 := Int.tdiv_eq_ediv_of_nonneg x0
 have x4 : (mixX b p / 64).toNat = (mixX b p).toNat / 64 := by omega
 have x3 : Go.bits .xor .i64 (mixX b p) (Int.tdiv (mixX b p) 64) = ((mixX b p).toNat ^^^ (mixX b p).toNat / 64 : Nat) := by
  rw [x2]
  have := xor_i64 (mixX b p).toNat (mixX b p / 64).toNat (by omega) (by omega)
  rw [Int.toNat_of_nonneg x0, Int.toNat_of_nonneg (by omega)] at this
  rw [this, x4]
 refine ⟨x0, ?_⟩
 rw [← Int.tmod_eq_emod_of_nonneg (by omega), ← x3]
 unfold spec_l6Rd_pick.f
 refine Ev.neg (by omega) ?_
 refine Ev.succ ?_
 simp only [spec_l6Rd_pick.j0]
 refine Ev.neg (by simp only [beq_iff_eq]; omega) ?_
 have e : wrap64 (wrap64 (p + 1) - 1) = p := by rw [w64 (x := p + 1) (by omega) (by omega), w64 (by omega) (by omega)]; omega
 rw [e]
 have e7 : wrap64 (wrap64 (p * 7) + 3) = p * 7 + 3 := by rw [w64 (x := p * 7) (by omega) (by omega), w64 (by omega) (by omega)]
 rw [e7]
 refine Ev.neg (by omega) (Ev.neg (by omega) (Ev.pos t1 (Ev.pos t2 (Ev.pos t3 (Ev.pos t4 (Ev.neg (by omega) ?_))))))
 have em : wrap64 (wrap64 (wrap64 (wrap64 (wrap64 (rd b (Int.tmod p b.length)) * 131) + wrap64 (wrap64 (rd b (Int.tmod (p * 7 + 3) b.length)) * 1117)) + wrap64 (p * 29)) + wrap64 (wrap64 (Int.tdiv p b.length) * 53)) = mixX b p := by
  unfold mixX
  generalize rd b (Int.tmod p b.length) = A at *
  generalize rd b (Int.tmod (p * 7 + 3) b.length) = B at *
  generalize Int.tdiv p b.length = D at *
  simp (disch := omega) only [w64]
 rw [em, w64 (x := Int.tdiv (mixX b p) 64) (by omega) (by omega), w64 (by omega) (by omega)]
 exact Ev.now _
theorem pick_ev {b : List Int} (hb : BY b) {n p : Int} (hn : 1 ≤ n) (hp : 0 ≤ p) (hp2 : p ≤ 1099511627776) :
 ∃ r, 0 ≤ r ∧ r < n ∧ Ev (fun k => spec_l6Rd_pick.f k b p n) (r, p + 1) := by
 have hl := hb.1
 by_cases h0 : b.length = 0
 · refine ⟨0, by omega, by omega, ?_⟩
   unfold spec_l6Rd_pick.f
   refine Ev.neg (by omega) ?_
   refine Ev.succ ?_
   simp only [spec_l6Rd_pick.j0]
   refine Ev.pos (by simp [h0]) ?_
   rw [w64 (by omega) (by omega)]
   exact Ev.now _
 · by_cases hlt : p < b.length
   · have hr := hb.rd hp hlt
     refine ⟨Int.tmod (rd b p) n, ?_, ?_, ?_⟩
     · exact Int.tmod_nonneg _ hr.1
     · exact Int.tmod_lt_of_pos _ (by omega)
     · unfold spec_l6Rd_pick.f
       refine Ev.neg (by omega) ?_
       refine Ev.succ ?_
       simp only [spec_l6Rd_pick.j0]
       refine Ev.neg (by simp only [beq_iff_eq]; omega) ?_
       have e : wrap64 (wrap64 (p + 1) - 1) = p := by rw [w64 (x := p + 1) (by omega) (by omega), w64 (by omega) (by omega)]; omega
       rw [e]
       refine Ev.pos hlt (Ev.pos hp (Ev.neg (by omega) ?_))
       rw [w64 (by omega) (by omega), w64 (by omega) (by omega)]
       exact Ev.now _
   · obtain ⟨_, h⟩ := pick_far hb hn hp hp2 h0 hlt
     exact ⟨_, Int.emod_nonneg _ (by omega), Int.emod_lt_of_pos _ (by omega), h⟩
theorem wf64 {a : Int} (h : (Lit.int .i64 a).wf = true) : -9223372036854775808 ≤ a ∧ a ≤ 9223372036854775807 := by
 simp [Lit.wf, IntKind.min, IntKind.max, IntKind.bits, IntKind.signed] at h
 omega
theorem wf8 {a : Int} (h : (Lit.int .u8 a).wf = true) : 0 ≤ a ∧ a < 256 := by
 simp [Lit.wf, IntKind.min, IntKind.max, IntKind.bits, IntKind.signed] at h
 omega
theorem spec_l6Open_ev {l : List Int} (hw : ∀ x ∈ l, (Lit.int .u8 x).wf = true) : ∃ b, BY b ∧ spec_l6Open.f l = some (b, 0) := by
 unfold spec_l6Open.f
 by_cases h : (l.length : Int) > 2000
 · refine ⟨l.take 2000, ⟨by rw [List.length_take]; omega, fun x hx => wf8 (hw x (List.mem_of_mem_take hx))⟩, ?_⟩
   rw [if_pos h, if_pos (by omega)]
 · exact ⟨l, ⟨by omega, fun x hx => wf8 (hw x hx)⟩, by rw [if_neg h]⟩
/-- The terms that are drawn. -/
def Drw (t : Int) : Prop := t.natAbs ∈ [1, 2, 3, 4, 5, 6, 7, 8, 10, 12, 15, 21, 30]
/-- What is drawn as a form: terms of a few sizes; the first one is seldom out of range. -/
def Dr (l : List Int) : Prop := l = [] ∨ ∃ x r, l = x :: r ∧ (Drw x ∨ x = 0 ∨ x = 31) ∧ ∀ t ∈ r, Drw t
theorem rd16 {i : Int} (h0 : 0 ≤ i) (h1 : i < 16) : Drw (rd [1, 2, 3, 5, 6, 7, 1, 10, 12, 3, 15, 4, 21, 1, 30, 8] i) ∧ 1 ≤ rd [1, 2, 3, 5, 6, 7, 1, 10, 12, 3, 15, 4, 21, 1, 30, 8] i ∧ rd [1, 2, 3, 5, 6, 7, 1, 10, 12, 3, 15, 4, 21, 1, 30, 8] i ≤ 30 := by
 have : ∀ n : Nat, n < 16 → Drw (rd [1, 2, 3, 5, 6, 7, 1, 10, 12, 3, 15, 4, 21, 1, 30, 8] (n : Int)) ∧ 1 ≤ rd [1, 2, 3, 5, 6, 7, 1, 10, 12, 3, 15, 4, 21, 1, 30, 8] (n : Int) ∧ rd [1, 2, 3, 5, 6, 7, 1, 10, 12, 3, 15, 4, 21, 1, 30, 8] (n : Int) ≤ 30 := by
  unfold Drw rd
  decide
 have h := this i.toNat (by omega)
 rwa [Int.toNat_of_nonneg h0] at h
theorem Drw.neg {t : Int} (h : Drw t) : Drw (-t) := by unfold Drw at *; rwa [Int.natAbs_neg]
theorem l91Form_l {b : List Int} (hb : BY b) (m : Nat) (hm : m ≤ 100) : ∀ (d : Nat) (o : List Int) (i : Nat) (p : Int), i + d = m → o.length = i → (∀ t ∈ o, Drw t) → 0 < m → 0 ≤ p → p + 2 * d + 2 ≤ 1000000000000 →
 ∃ r q, Dr r ∧ r.length ≤ m ∧ p ≤ q ∧ q ≤ p + 2 * d + 2 ∧ Ev (fun k => spec_l91Form.l0 k o (m : Int) (i : Int) b p) (r, q) := by
 intro d
 induction d with
 | zero =>
  intro o i p hi ho ht h0 hp hp2
  obtain ⟨r1, a1, a2, e1⟩ := pick_ev hb (n := 40) (p := p) (by omega) hp (by omega)
  have hne : o ≠ [] := by intro e; subst e; simp at ho; omega
  obtain ⟨x, r, rfl⟩ : ∃ x r, o = x :: r := List.exists_cons_of_ne_nil hne
  by_cases c1 : r1 = 0
  · obtain ⟨r2, a3, a4, e2⟩ := pick_ev hb (n := 2) (p := p + 1) (by omega) (by omega) (by omega)
    refine ⟨rd [0, 31] r2 :: r, p + 1 + 1, .inr ⟨_, _, rfl, ?_, fun t h => ht t (by simp [h])⟩, by simp at ho ⊢; omega, by omega, by omega, ?_⟩
    · rcases (by omega : r2 = 0 ∨ r2 = 1) with rfl | rfl
      · exact .inr (.inl rfl)
      · exact .inr (.inr rfl)
    · refine Ev.succ ?_
      simp only [spec_l91Form.l0]
      refine Ev.neg (by omega) (Ev.bind e1 (Ev.pos c1 (Ev.sbind (Ev.bind e2 ?_))))
      refine Ev.pos a3 (Ev.pos (by simp; omega) (Ev.pos (by simp only [List.length_cons]; omega) ?_))
      exact Ev.ret rfl
  · by_cases c2 : r1 = 1
    · refine ⟨[], p + 1, .inl rfl, by simp, by omega, by omega, ?_⟩
      refine Ev.succ ?_
      simp only [spec_l91Form.l0]
      exact Ev.neg (by omega) (Ev.bind e1 (Ev.neg c1 (Ev.pos c2 (Ev.now _))))
    · refine ⟨x :: r, p + 1, .inr ⟨x, r, rfl, .inl (ht x (by simp)), fun t h => ht t (by simp [h])⟩, by simp at ho ⊢; omega, by omega, by omega, ?_⟩
      refine Ev.succ ?_
      simp only [spec_l91Form.l0]
      exact Ev.neg (by omega) (Ev.bind e1 (Ev.neg c1 (Ev.neg c2 (Ev.now _))))
 | succ d ih =>
  intro o i p hi ho ht h0 hp hp2
  obtain ⟨r1, a1, a2, e1⟩ := pick_ev hb (n := 16) (p := p) (by omega) hp (by omega)
  obtain ⟨r2, a3, a4, e2⟩ := pick_ev hb (n := 5) (p := p + 1) (by omega) (by omega) (by omega)
  obtain ⟨t1, t2, t3⟩ := rd16 a1 a2
  have step : ∃ y, Drw y ∧ ∀ r q, Ev (fun k => spec_l91Form.l0 k (o ++ [y]) (m : Int) ((i + 1 : Nat) : Int) b (p + 1 + 1)) (r, q) → Ev (fun k => spec_l91Form.l0 k o (m : Int) (i : Int) b p) (r, q) := by
   by_cases c : r2 < 2
   · refine ⟨-(rd [1, 2, 3, 5, 6, 7, 1, 10, 12, 3, 15, 4, 21, 1, 30, 8] r1), t1.neg, fun r q h => ?_⟩
     refine Ev.succ ?_
     simp only [spec_l91Form.l0]
     refine Ev.pos (by omega) (Ev.sbind (Ev.bind e1 (Ev.pos a1 (Ev.pos (by simp; omega) (Ev.bind e2 (Ev.pos c (Ev.pos (by omega) ?_)))))))
     dsimp only
     rw [w64 (x := (i : Int) + 1) (by omega) (by omega), w64 (by omega) (by omega), cast_succ]
     exact h
   · refine ⟨rd [1, 2, 3, 5, 6, 7, 1, 10, 12, 3, 15, 4, 21, 1, 30, 8] r1, t1, fun r q h => ?_⟩
     refine Ev.succ ?_
     simp only [spec_l91Form.l0]
     refine Ev.pos (by omega) (Ev.sbind (Ev.bind e1 (Ev.pos a1 (Ev.pos (by simp; omega) (Ev.bind e2 (Ev.neg c (Ev.pos (by omega) ?_)))))))
     dsimp only
     rw [w64 (x := (i : Int) + 1) (by omega) (by omega), cast_succ]
     exact h
  obtain ⟨y, hy, hs⟩ := step
  obtain ⟨r, q, h1, h2, h3, h4, h5⟩ := ih (o ++ [y]) (i + 1) (p + 1 + 1) (by omega) (by simp [ho]) (by
   intro t h
   rcases List.mem_append.1 h with h | h
   · exact ht t h
   · rw [List.mem_singleton.1 h]; exact hy) h0 (by omega) (by omega)
  exact ⟨r, q, h1, h2, by omega, by omega, hs r q h5⟩
/-- A drawn form. -/
theorem spec_l91Form_ev {b : List Int} (hb : BY b) {n p : Int} (hn : 1 ≤ n) (hn2 : n ≤ 50) (hp : 0 ≤ p) (hp2 : p ≤ 900000000000) :
 ∃ r q, Dr r ∧ (r.length : Int) ≤ n ∧ p ≤ q ∧ q ≤ p + 2 * n + 3 ∧ Ev (fun k => spec_l91Form.f k b p n) (r, q) := by
 obtain ⟨r1, a1, a2, e1⟩ := pick_ev hb (n := n) (p := p) hn hp (by omega)
 obtain ⟨m, hm⟩ : ∃ m : Nat, 1 + r1 = m := ⟨(1 + r1).toNat, by omega⟩
 obtain ⟨r, q, h1, h2, h3, h4, h5⟩ := l91Form_l hb m (by omega) m [] 0 (p + 1) (by omega) rfl (by simp) (by omega) (by omega) (by omega)
 refine ⟨r, q, h1, by omega, by omega, by omega, ?_⟩
 unfold spec_l91Form.f
 refine Ev.bind e1 ?_
 dsimp only
 rw [w64 (by omega) (by omega), hm]
 exact h5
theorem Drw.bd {t : Int} (h : Drw t) : t ≠ 0 ∧ -30 ≤ t ∧ t ≤ 30 := by
 unfold Drw at h
 simp only [List.mem_cons, List.not_mem_nil, or_false] at h
 omega
theorem Dr.md {l : List Int} (h : Dr l) (hl : l.length ≤ 1000) : Md l := by
 refine ⟨by omega, fun t ht => ?_⟩
 rcases h with rfl | ⟨x, r, rfl, hx, hr⟩
 · simp at ht
 · rcases List.mem_cons.1 ht with rfl | ht
   · rcases hx with hx | rfl | rfl
     · have := hx.bd; omega
     · omega
     · omega
   · have := (hr t ht).bd; omega
/-- Of a drawn form, the terms are drawn ones. -/
theorem Dr.terms {l : List Int} (h : Dr l) (hv : fv l = true) : ∀ t ∈ l, Drw t := by
 obtain ⟨h1, _⟩ := fv_iff.1 hv
 intro t ht
 rcases h with rfl | ⟨x, r, rfl, hx, hr⟩
 · simp at ht
 · rcases List.mem_cons.1 ht with rfl | ht
   · rcases hx with hx | rfl | rfl
     · exact hx
     · have := h1 0 (by simp); omega
     · have := h1 31 (by simp); omega
   · exact hr t ht
theorem l6In_eq (a b c : Int) : spec_l6In.f a b c = some (decide (b ≤ a ∧ a ≤ c)) := by
 unfold spec_l6In.f
 split
 · congr 1; simp only [decide_eq_decide]; omega
 · congr 1; simp; omega
theorem spec_FormValid_l (xs : List Int) (hx : Md xs) : ∀ (r : List Int) (i : Nat), xs.drop i = r → Ev (fun k => spec_FormValid.l0 k xs (i : Int)) (r.all okT && decide (1 ≤ xs.length ∧ xs.length ≤ 4))
 | [], i, h => by
  have := drop_nil h
  refine Ev.succ ?_
  simp only [spec_FormValid.l0]
  refine Ev.neg (by omega) ?_
  rw [l6In_eq]
  refine Ev.sbind (Ev.ret ?_)
  simp only [List.all_nil, Bool.true_and, decide_eq_decide]; omega
 | t :: r, i, h => by
  obtain ⟨h1, h2, h3⟩ := drop_cons h
  have hl := hx.1
  refine Ev.succ ?_
  simp only [spec_FormValid.l0]
  rw [h2, l6In_eq]
  refine Ev.pos (by omega) (Ev.pos (by omega) ?_)
  by_cases h0 : t = 0
  · exact Ev.pos h0 (Ev.ret (by simp [okT, h0]))
  · refine Ev.neg h0 (Ev.sbind ?_)
    by_cases hs : -30 ≤ t ∧ t ≤ 30
    · have : okT t = true := okT_iff.2 ⟨h0, hs⟩
      refine Ev.pos (by simpa using hs) ?_
      rw [w64 (by omega) (by omega), cast_succ]
      refine Ev.to (spec_FormValid_l xs hx r (i + 1) h3) ?_
      simp [this]
    · have : okT t = false := by unfold okT; simp; intro _; omega
      refine Ev.neg (by simpa using hs) (Ev.ret (by simp [this]))
theorem spec_FormValid_ev {xs : List Int} (hx : Md xs) : Ev (fun k => spec_FormValid.f k xs) (fv xs) := by
 unfold spec_FormValid.f
 exact spec_FormValid_l xs hx xs 0 rfl
/-- One term is drawn, or none. -/
theorem l91One {b : List Int} (hb : BY b) {p : Int} (hp : 0 ≤ p) (hp2 : p ≤ 800000000000) :
 ∃ r q, (r = [] ∨ ∃ x, r = [x] ∧ -31 ≤ x ∧ x ≤ 31) ∧ p + 4 ≤ q ∧ q ≤ p + 5 ∧ Ev (fun k => spec_l91Form.f k b p 1) (r, q) ∧
  (r = [] → q = p + 4 ∧ b.length ≠ 0 ∧ (¬ p + 3 < b.length → ((Nt.fx (mixX b (p + 3)).toNat : Nat) : Int) % 40 = 1)) := by
 obtain ⟨r0, a1, a2, e0⟩ := pick_ev hb (n := 1) (p := p) (by omega) hp (by omega)
 obtain rfl : r0 = 0 := by omega
 obtain ⟨r1, a3, a4, e1⟩ := pick_ev hb (n := 16) (p := p + 1) (by omega) (by omega) (by omega)
 obtain ⟨r2, a5, a6, e2⟩ := pick_ev hb (n := 5) (p := p + 1 + 1) (by omega) (by omega) (by omega)
 obtain ⟨r3, a7, a8, e3⟩ := pick_ev hb (n := 40) (p := p + 1 + 1 + 1) (by omega) (by omega) (by omega)
 obtain ⟨t1, t2, t3⟩ := rd16 a3 a4
 obtain ⟨y, hy, hs⟩ : ∃ y, (-30 ≤ y ∧ y ≤ 30) ∧ ∀ r q, Ev (fun k => spec_l91Form.l0 k [y] 1 1 b (p + 1 + 1 + 1)) (r, q) → Ev (fun k => spec_l91Form.f k b p 1) (r, q) := by
  have go : ∀ y r q, (r2 < 2 → y = wrap64 (-(rd [1, 2, 3, 5, 6, 7, 1, 10, 12, 3, 15, 4, 21, 1, 30, 8] r1))) → (¬ r2 < 2 → y = rd [1, 2, 3, 5, 6, 7, 1, 10, 12, 3, 15, 4, 21, 1, 30, 8] r1) → Ev (fun k => spec_l91Form.l0 k [y] 1 1 b (p + 1 + 1 + 1)) (r, q) → Ev (fun k => spec_l91Form.f k b p 1) (r, q) := by
   intro y r q h1 h2 h
   unfold spec_l91Form.f
   refine Ev.bind e0 (Ev.succ ?_)
   simp only [spec_l91Form.l0]
   rw [w64 (x := 1 + 0) (by omega) (by omega)]
   refine Ev.pos (by omega) (Ev.sbind (Ev.bind e1 (Ev.pos a3 (Ev.pos (by simp; omega) (Ev.bind e2 ?_)))))
   by_cases c : r2 < 2
   · refine Ev.pos c (Ev.pos (by simp) ?_)
     rw [w64 (x := 0 + 1) (by omega) (by omega), ← h1 c]
     exact h
   · refine Ev.neg c (Ev.pos (by simp) ?_)
     rw [w64 (x := 0 + 1) (by omega) (by omega), ← h2 c]
     exact h
  by_cases c : r2 < 2
  · refine ⟨-(rd [1, 2, 3, 5, 6, 7, 1, 10, 12, 3, 15, 4, 21, 1, 30, 8] r1), by omega, fun r q h => go _ r q (fun _ => (w64 (by omega) (by omega)).symm) (fun h => absurd c h) h⟩
  · exact ⟨_, by omega, fun r q h => go _ r q (fun h => absurd h c) (fun _ => rfl) h⟩
 by_cases c1 : r3 = 0
 · obtain ⟨r4, b1, b2, e4⟩ := pick_ev hb (n := 2) (p := p + 1 + 1 + 1 + 1) (by omega) (by omega) (by omega)
   have hr : -31 ≤ rd [0, 31] r4 ∧ rd [0, 31] r4 ≤ 31 := by
    rcases (by omega : r4 = 0 ∨ r4 = 1) with rfl | rfl <;> decide
   refine ⟨[rd [0, 31] r4], p + 1 + 1 + 1 + 1 + 1, .inr ⟨_, rfl, hr⟩, by omega, by omega, hs _ _ (Ev.succ ?_), fun h => by cases h⟩
   simp only [spec_l91Form.l0]
   exact Ev.neg (by omega) (Ev.bind e3 (Ev.pos c1 (Ev.sbind (Ev.bind e4 (Ev.pos b1 (Ev.pos (by simp; omega) (Ev.pos (by simp) (Ev.ret rfl))))))))
 · by_cases c2 : r3 = 1
   · refine ⟨[], p + 1 + 1 + 1 + 1, .inl rfl, by omega, by omega, hs _ _ (Ev.succ ?_), fun _ => ⟨by omega, fun h0 => ?_, fun hlt => ?_⟩⟩
     · simp only [spec_l91Form.l0]
       exact Ev.neg (by omega) (Ev.bind e3 (Ev.neg c1 (Ev.pos c2 (Ev.now _))))
     · have : Ev (fun k => spec_l6Rd_pick.f k b (p + 1 + 1 + 1) 40) (0, p + 1 + 1 + 1 + 1) := by
        unfold spec_l6Rd_pick.f
        refine Ev.neg (by omega) (Ev.succ ?_)
        simp only [spec_l6Rd_pick.j0]
        refine Ev.pos (by simp [h0]) ?_
        rw [w64 (by omega) (by omega)]
        exact Ev.now _
       have := Ev.one e3 this
       injection this with h1 _
       omega
     · by_cases h0 : b.length = 0
       · exfalso
         have : Ev (fun k => spec_l6Rd_pick.f k b (p + 1 + 1 + 1) 40) (0, p + 1 + 1 + 1 + 1) := by
          unfold spec_l6Rd_pick.f
          refine Ev.neg (by omega) (Ev.succ ?_)
          simp only [spec_l6Rd_pick.j0]
          refine Ev.pos (by simp [h0]) ?_
          rw [w64 (by omega) (by omega)]
          exact Ev.now _
         have := Ev.one e3 this
         injection this with h1 _
         omega
       · obtain ⟨_, h⟩ := pick_far hb (n := 40) (p := p + 1 + 1 + 1) (by omega) (by omega) (by omega) h0 (by omega)
         have := Ev.one e3 h
         injection this with h1 _
         rw [c2, show p + 1 + 1 + 1 = p + 3 by omega] at h1
         exact h1.symm
   · refine ⟨[y], p + 1 + 1 + 1 + 1, .inr ⟨y, rfl, by omega, by omega⟩, by omega, by omega, hs _ _ (Ev.succ ?_), fun h => by cases h⟩
     simp only [spec_l91Form.l0]
     exact Ev.neg (by omega) (Ev.bind e3 (Ev.neg c1 (Ev.neg c2 (Ev.now _))))
theorem mix_step {b : List Int} (h0 : b.length ≠ 0) {p : Int} (hp : 0 ≤ p) (j : Nat) :
 mixX b (p + 4 * (b.length : Int) * (j : Int)) = mixX b p + (116 * (b.length : Int) + 212) * (j : Int) := by
 have hj : 0 ≤ 4 * (b.length : Int) * (j : Int) := Int.mul_nonneg (by omega) (by omega)
 have hL : (b.length : Int) ≠ 0 := by omega
 have e1 : Int.tmod (p + 4 * (b.length : Int) * (j : Int)) b.length = Int.tmod p b.length := by
  rw [Int.tmod_eq_emod_of_nonneg (by omega), Int.tmod_eq_emod_of_nonneg hp, show 4 * (b.length : Int) * (j : Int) = (b.length : Int) * (4 * (j : Int)) by rw [Int.mul_comm 4, Int.mul_assoc], Int.add_mul_emod_self_left]
 have e2 : Int.tmod ((p + 4 * (b.length : Int) * (j : Int)) * 7 + 3) b.length = Int.tmod (p * 7 + 3) b.length := by
  rw [Int.tmod_eq_emod_of_nonneg (by omega), Int.tmod_eq_emod_of_nonneg (by omega), show (p + 4 * (b.length : Int) * (j : Int)) * 7 + 3 = p * 7 + 3 + (b.length : Int) * (28 * (j : Int)) by grind, Int.add_mul_emod_self_left]
 have e3 : Int.tdiv (p + 4 * (b.length : Int) * (j : Int)) b.length = Int.tdiv p b.length + 4 * (j : Int) := by
  rw [Int.tdiv_eq_ediv_of_nonneg (by omega), Int.tdiv_eq_ediv_of_nonneg hp, show 4 * (b.length : Int) * (j : Int) = (b.length : Int) * (4 * (j : Int)) by rw [Int.mul_comm 4, Int.mul_assoc], Int.add_mul_ediv_left _ _ hL]
 unfold mixX
 rw [e1, e2, e3]
 grind
/-- At one of the coming draws a term comes. -/
theorem l91_comes {b : List Int} (hb : BY b) {p : Int} (hp : 0 ≤ p) (hp2 : p ≤ 100000000000) :
 ∃ i : Nat, i ≤ 4200000000 ∧ ∀ r q, Ev (fun k => spec_l91Form.f k b (p + 4 * (i : Int)) 1) (r, q) → r ≠ [] := by
 have hl := hb.1
 by_cases h0 : b.length = 0
 · refine ⟨0, by omega, fun r q h hr => ?_⟩
   obtain ⟨r', q', _, _, _, h1, h2⟩ := l91One hb (p := p + 4 * ((0 : Nat) : Int)) (by omega) (by omega)
   have := Ev.one h h1
   injection this with h3 h4
   exact (h2 (h3 ▸ hr)).2.1 h0
 · have hL : (b.length : Int) ≤ 2000 := by omega
   obtain ⟨j, hj, hne⟩ := Nt.ends (L := b.length) (x := (mixX b (p + 4 * 500 + 3)).toNat) (by omega) hl
   have hLj : b.length * j ≤ 2000 * 2097400 := Nat.mul_le_mul hl hj
   refine ⟨500 + b.length * j, by omega, fun r q h hr => hne ?_⟩
   have ec : ((500 + b.length * j : Nat) : Int) = 500 + (b.length : Int) * (j : Int) := by rw [Int.natCast_add, Int.natCast_mul]; rfl
   have ea : 4 * (b.length : Int) * (j : Int) = 4 * ((b.length : Int) * (j : Int)) := Int.mul_assoc _ _ _
   have hcast : (b.length : Int) * (j : Int) ≤ 4194800000 := by rw [← Int.natCast_mul]; omega
   have hpos : 0 ≤ (b.length : Int) * (j : Int) := Int.mul_nonneg (by omega) (by omega)
   have ep : p + 4 * ((500 + b.length * j : Nat) : Int) + 3 = p + 4 * 500 + 3 + 4 * (b.length : Int) * (j : Int) := by rw [ec, ea]; omega
   obtain ⟨r', q', _, _, _, h1, h2⟩ := l91One hb (p := p + 4 * ((500 + b.length * j : Nat) : Int)) (by omega) (by omega)
   have := Ev.one h h1
   injection this with h3 h4
   have h5 := (h2 (h3 ▸ hr)).2.2 (by omega)
   obtain ⟨hm0, _⟩ := pick_far hb (n := 40) (p := p + 4 * 500 + 3) (by omega) (by omega) (by omega) h0 (by omega)
   rw [ep, mix_step h0 (by omega)] at h5
   have e : (mixX b (p + 4 * 500 + 3) + (116 * (b.length : Int) + 212) * (j : Int)).toNat = (mixX b (p + 4 * 500 + 3)).toNat + (116 * b.length + 212) * j := by
    have h6 : ((((116 * b.length + 212) * j : Nat)) : Int) = (116 * (b.length : Int) + 212) * (j : Int) := by rw [Int.natCast_mul, Int.natCast_add, Int.natCast_mul]; rfl
    rw [← h6]
    omega
   rw [e] at h5
   omega
theorem l92_step {b : List Int} (hb : BY b) {n : Int} {o : List Int} (ho : 0 < o.length) (ho2 : (o.length : Int) < n) (hn : n ≤ 4) : ∀ (i : Nat) (p : Int), 0 ≤ p → p + 4 * (i : Int) ≤ 500000000000 →
 (∀ r q, Ev (fun k => spec_l91Form.f k b (p + 4 * (i : Int)) 1) (r, q) → r ≠ []) →
 ∃ x q, (-31 ≤ x ∧ x ≤ 31) ∧ p ≤ q ∧ q ≤ p + 4 * (i : Int) + 5 ∧ ∀ res, Ev (fun k => spec_l92Form.l0 k n (o ++ [x]) b q) res → Ev (fun k => spec_l92Form.l0 k n o b p) res := by
 intro i
 induction i with
 | zero =>
  intro p hp hp2 hc
  obtain ⟨r, q, h1, h2, h3, h4, h5⟩ := l91One hb hp (by omega)
  have hr := hc r q (by simpa using h4)
  obtain ⟨x, rfl, hx⟩ := h1.resolve_left hr
  refine ⟨x, q, hx, by omega, by omega, fun res h => Ev.succ ?_⟩
  simp only [spec_l92Form.l0]
  exact Ev.pos ho2 (Ev.pos (by omega) (Ev.bind h4 (Ev.pos (by simp; omega) h)))
 | succ i ih =>
  intro p hp hp2 hc
  obtain ⟨r, q, h1, h2, h3, h4, h5⟩ := l91One hb hp (by omega)
  rcases h1 with rfl | ⟨x, rfl, hx⟩
  · have hq := (h5 rfl).1
    obtain ⟨x, q', hx, c1, c2, c3⟩ := ih q (by omega) (by omega) (fun r' q' h => hc r' q' (by
     rw [show p + 4 * ((i + 1 : Nat) : Int) = q + 4 * (i : Int) by omega]; exact h))
    refine ⟨x, q', hx, by omega, by omega, fun res h => Ev.succ ?_⟩
    simp only [spec_l92Form.l0]
    refine Ev.pos ho2 (Ev.pos (by omega) (Ev.bind h4 (Ev.pos (by simp; omega) ?_)))
    dsimp only
    rw [List.append_nil]
    exact c3 res h
  · refine ⟨x, q, hx, by omega, by omega, fun res h => Ev.succ ?_⟩
    simp only [spec_l92Form.l0]
    exact Ev.pos ho2 (Ev.pos (by omega) (Ev.bind h4 (Ev.pos (by simp; omega) h)))
/-- Terms of size 31 at most. -/
def Dz (l : List Int) : Prop := l.length ≤ 4 ∧ ∀ t ∈ l, -31 ≤ t ∧ t ≤ 31
theorem Dz.md {l : List Int} (h : Dz l) : Md l := ⟨by have := h.1; omega, fun t ht => by have := h.2 t ht; omega⟩
theorem Dz.set {l : List Int} (h : Dz l) {t : Int} (ht : -31 ≤ t ∧ t ≤ 31) (i : Nat) : Dz (l.set i t) := by
 refine ⟨by simpa using h.1, fun x hx => ?_⟩
 rcases List.mem_or_eq_of_mem_set hx with hx | rfl
 · exact h.2 x hx
 · exact ht
theorem l92_j2 {o : List Int} (h : Dz o) (h3 : o.length = 3) {b : List Int} (hb : BY b) {p : Int} (hp : 0 ≤ p) (hp2 : p ≤ 600000000000) (c : Bool) :
 ∃ f q, Dz f ∧ f.length = 3 ∧ p ≤ q ∧ q ≤ p + 1 ∧ Ev (fun k => spec_l92Form.j2 k o c b p) (f, q) := by
 cases c with
 | false =>
  refine ⟨o, p, h, h3, by omega, by omega, Ev.succ ?_⟩
  simp only [spec_l92Form.j2]
  exact Ev.neg (by simp) (Ev.now _)
 | true =>
  obtain ⟨r1, a1, a2, e1⟩ := pick_ev hb (n := 2) (p := p) (by omega) hp (by omega)
  obtain ⟨x, y, z, rfl⟩ : ∃ x y z, o = [x, y, z] := by
   match o, h3 with
   | [x, y, z], _ => exact ⟨x, y, z, rfl⟩
  have hx := h.2 x (by simp)
  have hy := h.2 y (by simp)
  have ex : rd [x, y, z] 0 = x := rfl
  have ey : rd [x, y, z] 1 = y := rfl
  have hxr : -62 ≤ x * (1 + r1) ∧ x * (1 + r1) ≤ 62 := by
   rcases (by omega : r1 = 0 ∨ r1 = 1) with rfl | rfl <;> omega
  obtain ⟨t, ht⟩ : ∃ t, t = -(x * (1 + r1)) - y := ⟨_, rfl⟩
  have go : ∀ f, (t = 0 → f = [x, y, z]) → (t ≠ 0 → ¬ (t.natAbs : Int) ≤ 30 → f = [x, y, z]) → (t ≠ 0 → (t.natAbs : Int) ≤ 30 → f = [x, y, t]) → Ev (fun k => spec_l92Form.j2 k [x, y, z] true b p) (f, p + 1) := by
   intro f f1 f2 f3
   refine Ev.succ ?_
   simp only [spec_l92Form.j2]
   refine Ev.pos (by simp) (Ev.pos (by simp) (Ev.bind e1 (Ev.pos (by simp) ?_)))
   dsimp only
   rw [ex, ey, w64 (x := 1 + r1) (by omega) (by omega), w64 (x := x * (1 + r1)) (by omega) (by omega), w64 (x := -(x * (1 + r1))) (by omega) (by omega), w64 (x := -(x * (1 + r1)) - y) (by omega) (by omega), ← ht]
   by_cases c1 : t = 0
   · exact Ev.pos c1 (Ev.ret (by rw [f1 c1]))
   · refine Ev.neg c1 (Ev.bind (by rw [spec_l1Size_eq (by omega)]; exact Ev.now _) ?_)
     by_cases c2 : (t.natAbs : Int) ≤ 30
     · exact Ev.pos c2 (Ev.pos (by simp) (Ev.ret (by rw [f3 c1 c2]; rfl)))
     · exact Ev.neg c2 (Ev.ret (by rw [f2 c1 c2]))
  by_cases c1 : t ≠ 0 ∧ (t.natAbs : Int) ≤ 30
  · have hb : -31 ≤ t ∧ t ≤ 31 := by
     have := c1.2
     omega
    refine ⟨[x, y, t], p + 1, h.set (i := 2) hb, rfl, by omega, by omega, go _ (fun e => absurd e c1.1) (fun _ e => absurd c1.2 e) (fun _ _ => rfl)⟩
  · refine ⟨[x, y, z], p + 1, h, rfl, by omega, by omega, go _ (fun _ => rfl) (fun _ _ => rfl) (fun e1 e2 => absurd ⟨e1, e2⟩ c1)⟩
theorem l92_j1 {o : List Int} (h : Dz o) {b : List Int} (hb : BY b) {p : Int} (hp : 0 ≤ p) (hp2 : p ≤ 500000000000) :
 ∃ f q, Dz f ∧ f.length = o.length ∧ p ≤ q ∧ q ≤ p + 2 ∧ Ev (fun k => spec_l92Form.j1 k o b p) (f, q) := by
 by_cases h3 : o.length = 3
 · obtain ⟨r1, a1, a2, e1⟩ := pick_ev hb (n := 2) (p := p) (by omega) hp (by omega)
   by_cases c : r1 = 0
   · obtain ⟨f, q, k1, k2, k3, k4, k5⟩ := l92_j2 h h3 hb (p := p + 1) (by omega) (by omega) (fv o)
     refine ⟨f, q, k1, by omega, by omega, by omega, Ev.succ ?_⟩
     simp only [spec_l92Form.j1]
     exact Ev.pos (by omega) (Ev.bind e1 (Ev.pos c (Ev.bind (spec_FormValid_ev h.md) k5)))
   · obtain ⟨f, q, k1, k2, k3, k4, k5⟩ := l92_j2 h h3 hb (p := p + 1) (by omega) (by omega) false
     refine ⟨f, q, k1, by omega, by omega, by omega, Ev.succ ?_⟩
     simp only [spec_l92Form.j1]
     exact Ev.pos (by omega) (Ev.bind e1 (Ev.neg c k5))
 · refine ⟨o, p, h, rfl, by omega, by omega, Ev.succ ?_⟩
   simp only [spec_l92Form.j1]
   refine Ev.neg (by omega) (Ev.succ ?_)
   simp only [spec_l92Form.j2]
   exact Ev.neg (by simp) (Ev.now _)
theorem l92_l {b : List Int} (hb : BY b) {n : Int} (hn : n ≤ 4) : ∀ (d : Nat) (o : List Int) (p : Int), 0 < o.length → Dz o → (o.length : Int) + d = n → 0 ≤ p → p + 17000000000 * d ≤ 90000000000 →
 ∃ f q, Dz f ∧ (f.length : Int) = n ∧ p ≤ q ∧ q ≤ p + 17000000000 * d + 2 ∧ Ev (fun k => spec_l92Form.l0 k n o b p) (f, q) := by
 intro d
 induction d with
 | zero =>
  intro o p ho hz hl hp hp2
  obtain ⟨f, q, k1, k2, k3, k4, k5⟩ := l92_j1 hz hb hp (by omega)
  refine ⟨f, q, k1, by omega, by omega, by omega, Ev.succ ?_⟩
  simp only [spec_l92Form.l0]
  exact Ev.neg (by omega) k5
 | succ d ih =>
  intro o p ho hz hl hp hp2
  obtain ⟨i, i1, i2⟩ := l91_comes hb hp (by omega)
  obtain ⟨x, q, hx, q1, q2, hs⟩ := l92_step hb ho (by omega) hn i p hp (by omega) i2
  obtain ⟨f, q', k1, k2, k3, k4, k5⟩ := ih (o ++ [x]) q (by simp) ⟨by simp; omega, fun t ht => by
   rcases List.mem_append.1 ht with ht | ht
   · exact hz.2 t ht
   · rw [List.mem_singleton.1 ht]; exact hx⟩ (by simp; omega) (by omega) (by omega)
  exact ⟨f, q', k1, k2, by omega, by omega, hs _ k5⟩
/-- A drawn form of so many terms, or none. -/
theorem spec_l92Form_ev {b : List Int} (hb : BY b) {n p : Int} (hn : 1 ≤ n) (hn4 : n ≤ 4) (hp : 0 ≤ p) (hp2 : p ≤ 1000000) :
 ∃ f q, Dz f ∧ (f = [] ∨ (f.length : Int) = n) ∧ p ≤ q ∧ q ≤ 100000000000 ∧ Ev (fun k => spec_l92Form.f k b p n) (f, q) := by
 obtain ⟨r, q, h1, h2, h3, h4, _⟩ := l91One hb hp (by omega)
 rcases h1 with rfl | ⟨x, rfl, hx⟩
 · refine ⟨[], q, ⟨by simp, by simp⟩, .inl rfl, by omega, by omega, ?_⟩
   unfold spec_l92Form.f
   refine Ev.bind h4 (Ev.succ ?_)
   simp only [spec_l92Form.l0]
   refine Ev.pos (by simp; omega) (Ev.neg (by simp) (Ev.succ ?_))
   simp only [spec_l92Form.j1]
   refine Ev.neg (by simp) (Ev.succ ?_)
   simp only [spec_l92Form.j2]
   exact Ev.neg (by simp) (Ev.now _)
 · obtain ⟨f, q', k1, k2, k3, k4, k5⟩ := l92_l hb hn4 (n - 1).toNat [x] q (by simp) ⟨by simp, fun t ht => by rw [List.mem_singleton.1 ht]; exact hx⟩ (by simp; omega) (by omega) (by omega)
   refine ⟨f, q', k1, .inr k2, by omega, by omega, ?_⟩
   unfold spec_l92Form.f
   exact Ev.bind h4 k5
theorem spec_ZeroNormal_no {f : List Int} (hf : Md f) (h : ¬ (fv f = true ∧ f.length = 3)) : Ev (fun k => spec_ZeroNormal.f k f) ([], [], false) := by
 unfold spec_ZeroNormal.f
 refine Ev.bind (spec_FormValid_ev hf) ?_
 by_cases h1 : fv f = true
 · exact Ev.pos h1 (Ev.neg (fun e => h ⟨h1, by omega⟩) (Ev.now _))
 · exact Ev.neg h1 (Ev.now _)
theorem spec_ZeroNormal_ev {x y z : Int} (h : fv [x, y, z] = true) : Ev (fun k => spec_ZeroNormal.f k [x, y, z]) ((nm3 x y z).1, (nm3 x y z).2, true) := by
 obtain ⟨h1, _⟩ := fv_iff.1 h
 have hx := h1 x (by simp)
 have hy := h1 y (by simp)
 have hz := h1 z (by simp)
 unfold spec_ZeroNormal.f
 exact Ev.bind (spec_FormValid_ev (Md.of_fv h)) (Ev.pos h (Ev.pos (by simp) (Ev.bind (spec_l5Normal_ev hx.1 hy.1 hz.1 (by omega) (by omega) (by omega)) (Ev.now _))))
theorem len3 {f : List Int} (h : f.length = 3) : ∃ x y z, f = [x, y, z] := by
 match f, h with
 | [x, y, z], _ => exact ⟨x, y, z, rfl⟩
theorem impl_squareRoot_l {n : Int} (hn : 0 ≤ n) (hn2 : n ≤ 1000000000000000000) : ∀ (d : Nat) (k : Int), 0 ≤ k → k * k ≤ n → n < (k + 2 ^ d) * (k + 2 ^ d) → d ≤ 31 → k ≤ 1073741824 * 2 →
 ∃ r, 0 ≤ r ∧ r * r ≤ n ∧ n < (r + 1) * (r + 1) ∧ Ev (fun j => impl_squareRoot.l0 j n k (2 ^ d / 2)) (r, r * r == n) := by
 intro d
 induction d with
 | zero =>
  intro k h0 h1 h2 _ hk
  have hkk := Int.mul_nonneg h0 h0
  refine ⟨k, h0, h1, by simpa using h2, Ev.succ ?_⟩
  simp only [impl_squareRoot.l0]
  rw [w64 (x := k * k) (by omega) (by omega)]
  exact Ev.neg (by decide) (Ev.now _)
 | succ d ih =>
  intro k h0 h1 h2 hd hk
  have hp : (2 : Int) ^ (d + 1) / 2 = 2 ^ d := by rw [Int.pow_succ, Int.mul_ediv_cancel _ (by omega)]
  have hpos : (1 : Int) ≤ 2 ^ d := by have : (0 : Int) < 2 ^ d := Int.pow_pos (by omega); omega
  have hble : (2 : Int) ^ d ≤ 2 ^ 30 := by
   have := Nat.pow_le_pow_right (show 0 < 2 by omega) (show d ≤ 30 by omega)
   exact_mod_cast this
  have hk2 : k ≤ 1000000000 := by
   rcases Int.lt_or_le 1000000000 k with h | h
   · have := sq_lts (x := 1000000000) (y := k) (by omega) h
     omega
   · exact h
  have hsq : 0 ≤ (k + 2 ^ d) * (k + 2 ^ d) ∧ (k + 2 ^ d) * (k + 2 ^ d) ≤ 2073741824 * 2073741824 := ⟨Int.mul_nonneg (by omega) (by omega), Int.mul_le_mul (by omega) (by omega) (by omega) (by omega)⟩
  have e2 : wrap64 (Int.tdiv (2 ^ d) 2) = 2 ^ d / 2 := by
   rw [Int.tdiv_eq_ediv_of_nonneg (by omega), w64 (by omega) (by omega)]
  rw [hp]
  by_cases c : (k + 2 ^ d) * (k + 2 ^ d) ≤ n
  · obtain ⟨r, r1, r2, r3, r4⟩ := ih (k + 2 ^ d) (by omega) c (by
     rw [show k + 2 ^ d + 2 ^ d = k + 2 ^ (d + 1) by rw [Int.pow_succ]; omega]; exact h2) (by omega) (by omega)
    refine ⟨r, r1, r2, r3, Ev.succ ?_⟩
    simp only [impl_squareRoot.l0]
    rw [w64 (x := k + 2 ^ d) (by omega) (by omega), w64 (x := (k + 2 ^ d) * (k + 2 ^ d)) (by omega) (by omega), e2]
    exact Ev.pos (by omega) (Ev.pos c r4)
  · obtain ⟨r, r1, r2, r3, r4⟩ := ih k h0 h1 (by omega) (by omega) (by omega)
    refine ⟨r, r1, r2, r3, Ev.succ ?_⟩
    simp only [impl_squareRoot.l0]
    rw [w64 (x := k + 2 ^ d) (by omega) (by omega), w64 (x := (k + 2 ^ d) * (k + 2 ^ d)) (by omega) (by omega), e2]
    exact Ev.pos (by omega) (Ev.neg c r4)
/-- The root of a square, and whether it is one. -/
theorem impl_squareRoot_ev {n : Int} (hn2 : n ≤ 1000000000000000000) : ∃ r b, Ev (fun k => impl_squareRoot.f k n) (r, b) ∧ ((b = true ∧ 0 ≤ r ∧ r * r = n) ∨ (b = false ∧ ∀ z, 0 ≤ z → z * z ≠ n)) := by
 unfold impl_squareRoot.f
 by_cases c : n < 0
 · refine ⟨0, false, Ev.pos c (Ev.now _), .inr ⟨rfl, fun z hz e => ?_⟩⟩
   have := Int.mul_nonneg hz hz
   omega
 · obtain ⟨r, r1, r2, r3, r4⟩ := impl_squareRoot_l (n := n) (by omega) hn2 31 0 (by omega) (by omega) (by omega) (by omega) (by omega)
   refine ⟨r, r * r == n, Ev.neg c r4, ?_⟩
   by_cases e : r * r = n
   · exact .inl ⟨by simp [e], r1, e⟩
   · refine .inr ⟨by simp [e], fun z hz h => ?_⟩
     rcases Int.lt_trichotomy z r with h1 | h1 | h1
     · have := sq_lts hz h1; omega
     · subst h1; exact e h
     · have := Int.mul_le_mul (show r + 1 ≤ z by omega) (show r + 1 ≤ z by omega) (by omega) (by omega)
       omega
section
variable {a b c : Int} (hc : c ≠ 0) (ha : a.natAbs ≤ 30000) (hb : b.natAbs ≤ 30000) (hbc : (b * c).natAbs ≤ 30000) (hac : (a * c).natAbs ≤ 30000)
include hc ha hb hbc hac
theorem impl_ZeroSearch_l2 {x : Int} (h0 : 0 ≤ x) (hx : x * x ≤ ((b * c).natAbs : Int)) (hnext : NB a b c (x + 1) 0 → ∃ res, IsFirst a b c res ∧ Ev (fun k => impl_ZeroSearch.l1 k a b c (x + 1)) res) :
 ∀ (d : Nat) (y : Int), (175 - y).toNat ≤ d → 0 ≤ y → y ≤ 174 → NB a b c x y → ∃ res, IsFirst a b c res ∧ Ev (fun k => impl_ZeroSearch.l2 k a b c x y) res := by
 have hx173 := sq174 h0 (by omega)
 intro d
 induction d with
 | zero => intro y hd h1 h2 _; omega
 | succ d ih =>
  intro y hd h1 h2 hN
  have hyy : 0 ≤ y * y ∧ y * y ≤ 174 * 174 := ⟨Int.mul_nonneg h1 h1, Int.mul_le_mul h2 h2 h1 (by omega)⟩
  by_cases c1 : y * y ≤ ((a * c).natAbs : Int)
  · have hy173 := sq174 h1 (by omega)
    obtain ⟨a1, a2⟩ := axx_bd ha h0 (by omega)
    obtain ⟨b1, b2⟩ := axx_bd hb h1 (by omega)
    have na1 : -a * x = -(a * x) := Int.neg_mul _ _
    have na2 : -(a * x) * x = -(a * x * x) := Int.neg_mul _ _
    obtain ⟨n, hn⟩ : ∃ n, n = -(a * x * x) - b * y * y := ⟨_, rfl⟩
    have hnb : n.natAbs ≤ 1816560000 := by omega
    have hq := quot_bd (c := c) hnb
    have hg := good_iff hc h0 h1 hx c1
    rw [← hn] at hg
    have start : ∀ R, Ev (fun k => if Int.tmod n c = 0 then ((impl_squareRoot.f k (Int.tdiv n c)).bind fun bt => (if bt.2 = true then (if x = 0 then (if y = 0 then (if bt.1 = 0 then impl_ZeroSearch.l2 k a b c x (y + 1) else some ([x, y, bt.1], true)) else some ([x, y, bt.1], true)) else some ([x, y, bt.1], true)) else impl_ZeroSearch.l2 k a b c x (y + 1))) else impl_ZeroSearch.l2 k a b c x (y + 1)) R → Ev (fun k => impl_ZeroSearch.l2 k a b c x y) R := by
     intro R h
     refine Ev.succ ?_
     simp only [impl_ZeroSearch.l2]
     rw [w64 (x := a * c) (by omega) (by omega), impl_size_abs (by omega), w64 (x := y * y) (by omega) (by omega), w64 (x := -a) (by omega) (by omega), na1, w64 (x := -(a * x)) (by omega) (by omega), na2, w64 (x := -(a * x * x)) (by omega) (by omega), w64 (x := b * y) (by omega) (by omega), w64 (x := b * y * y) (by omega) (by omega), w64 (x := -(a * x * x) - b * y * y) (by omega) (by omega), ← hn, w64 (x := Int.tdiv n c) (by omega) (by omega), w64 (x := y + 1) (by omega) (by omega)]
     exact Ev.sbind (Ev.pos c1 (Ev.neg hc h))
    have skip : (∀ z, ¬ Good a b c x y z) → ∃ res, IsFirst a b c res ∧ Ev (fun k => impl_ZeroSearch.l2 k a b c x (y + 1)) res := fun hno => ih (y + 1) (by omega) (by omega) (by omega) (hN.next hno)
    by_cases k1 : Int.tmod n c = 0
    · obtain ⟨r, ok, r1, r2⟩ := impl_squareRoot_ev (n := Int.tdiv n c) (by omega)
      rcases r2 with ⟨rfl, z0, hz⟩ | ⟨rfl, hz⟩
      · by_cases k3 : x = 0 ∧ y = 0
        · obtain ⟨res, s1, s2⟩ := skip (fun z g => by
           have := ((hg z).1 g).2.1
           omega)
          have hn0 : n = 0 := by rw [hn, k3.1, k3.2]; simp
          have hr0 : r = 0 := by
           rw [hn0, Int.zero_tdiv] at hz
           rcases Int.mul_eq_zero.1 hz with h | h <;> exact h
          exact ⟨res, s1, start res (Ev.pos k1 (Ev.bind r1 (Ev.pos rfl (Ev.pos k3.1 (Ev.pos k3.2 (Ev.pos hr0 s2))))))⟩
        · have g : Good a b c x y r := (hg r).2 ⟨z0, by omega, k1, hz.symm⟩
          refine ⟨([x, y, r], true), .inl ⟨x, y, r, rfl, g, hN⟩, start _ (Ev.pos k1 (Ev.bind r1 (Ev.pos rfl ?_)))⟩
          by_cases k4 : x = 0
          · exact Ev.pos k4 (Ev.neg (fun e => k3 ⟨k4, e⟩) (Ev.now _))
          · exact Ev.neg k4 (Ev.now _)
      · obtain ⟨res, s1, s2⟩ := skip (fun z g => hz z g.2.2.1 ((hg z).1 g).2.2.2.symm)
        exact ⟨res, s1, start res (Ev.pos k1 (Ev.bind r1 (Ev.neg (by simp) s2)))⟩
    · obtain ⟨res, r1, r2⟩ := skip (fun z g => k1 ((hg z).1 g).2.2.1)
      exact ⟨res, r1, start res (Ev.neg k1 r2)⟩
  · obtain ⟨res, r1, r2⟩ := hnext (hN.row h1 (by omega))
    refine ⟨res, r1, Ev.succ ?_⟩
    simp only [impl_ZeroSearch.l2]
    rw [w64 (x := a * c) (by omega) (by omega), impl_size_abs (by omega), w64 (x := y * y) (by omega) (by omega), w64 (x := x + 1) (by omega) (by omega)]
    exact Ev.sbind (Ev.neg c1 r2)
theorem impl_ZeroSearch_l1 : ∀ (d : Nat) (x : Int), (175 - x).toNat ≤ d → 0 ≤ x → x ≤ 174 → NB a b c x 0 → ∃ res, IsFirst a b c res ∧ Ev (fun k => impl_ZeroSearch.l1 k a b c x) res := by
 intro d
 induction d with
 | zero => intro x hd h1 h2 _; omega
 | succ d ih =>
  intro x hd h1 h2 hN
  have hxx : 0 ≤ x * x ∧ x * x ≤ 174 * 174 := ⟨Int.mul_nonneg h1 h1, Int.mul_le_mul h2 h2 h1 (by omega)⟩
  by_cases c1 : x * x ≤ ((b * c).natAbs : Int)
  · have := sq174 h1 (by omega)
    obtain ⟨res, r1, r2⟩ := impl_ZeroSearch_l2 hc ha hb hbc hac h1 c1 (ih (x + 1) (by omega) (by omega) (by omega)) 175 0 (by omega) (by omega) (by omega) hN
    refine ⟨res, r1, Ev.succ ?_⟩
    simp only [impl_ZeroSearch.l1]
    rw [w64 (x := b * c) (by omega) (by omega), impl_size_abs (by omega), w64 (x := x * x) (by omega) (by omega)]
    exact Ev.sbind (Ev.pos c1 r2)
  · refine ⟨([], false), .inr ⟨rfl, hN.last h1 (by omega)⟩, Ev.succ ?_⟩
    simp only [impl_ZeroSearch.l1]
    rw [w64 (x := b * c) (by omega) (by omega), impl_size_abs (by omega), w64 (x := x * x) (by omega) (by omega)]
    exact Ev.sbind (Ev.neg c1 (Ev.now _))
end
theorem shp_zero {a b c : Int} (ha : a ≠ 0) (hb : b ≠ 0) (hc : c ≠ 0) : (shp a b c).2.2 = 0 ↔ Nat.gcd a.natAbs b.natAbs ≤ 1 ∧ Nat.gcd c.natAbs a.natAbs ≤ 1 ∧ Nat.gcd b.natAbs c.natAbs ≤ 1 := by
 have pos : ∀ x y : Int, 1 < Nat.gcd x.natAbs y.natAbs → lp (Nat.gcd x.natAbs y.natAbs) ≠ 0 := by
  intro x y h
  obtain ⟨L, hL⟩ := pl_ex (n := ((Nat.gcd x.natAbs y.natAbs : Nat) : Int)) (by omega)
  have := (lp_of hL h).2.2.1.1
  omega
 unfold shp
 split
 · rename_i h
   have := pos a b h
   constructor
   · intro e; exact absurd e this
   · rintro ⟨h1, _⟩; omega
 · split
   · rename_i h
     have := pos c a h
     constructor
     · intro e; exact absurd e this
     · rintro ⟨_, h1, _⟩; omega
   · split
     · rename_i h
       have := pos b c h
       constructor
       · intro e; exact absurd e this
       · rintro ⟨_, _, h1⟩; omega
     · simp only [true_iff]; omega
theorem impl_ZeroSearch_ev {a b c : Int} (ha : a.natAbs ≤ 30000) (hb : b.natAbs ≤ 30000) (hc : c.natAbs ≤ 30000) : ∃ res, Zs a b c res ∧ Ev (fun k => impl_ZeroSearch.f k [a, b, c]) res := by
 have e0 : rd [a, b, c] 0 = a := rfl
 have e1 : rd [a, b, c] 1 = b := rfl
 have e2 : rd [a, b, c] 2 = c := rfl
 have hl : (([a, b, c] : List Int).length : Int) = 3 := rfl
 have step : ∀ (x i : Int), rd [a, b, c] i = x → 0 ≤ i → i < 3 → x.natAbs ≤ 30000 → (x = 0 ∨ Nt.rt x ≠ 1 → Ev (fun k => impl_ZeroSearch.l0 k [a, b, c] [a, b, c] 3 i) ([], false)) ∧
  (x ≠ 0 → Nt.rt x = 1 → ∀ R, Ev (fun k => impl_ZeroSearch.l0 k [a, b, c] [a, b, c] 3 (i + 1)) R → Ev (fun k => impl_ZeroSearch.l0 k [a, b, c] [a, b, c] 3 i) R) := by
  intro x i hx h0 h3 hb
  have j1 : ∀ {R}, x ≠ 0 → Ev (fun k => if Nt.rt x = 1 then impl_ZeroSearch.l0 k [a, b, c] [a, b, c] 3 (i + 1) else some (([] : List Int), false)) R → Ev (fun k => impl_ZeroSearch.l0 k [a, b, c] [a, b, c] 3 i) R := by
   intro R hne h
   refine Ev.succ ?_
   simp only [impl_ZeroSearch.l0]
   rw [hx, hl, impl_size_abs (by omega)]
   refine Ev.pos h3 (Ev.pos h0 (Ev.pos h3 (Ev.neg hne (Ev.sbind ?_))))
   rw [show decide ((x.natAbs : Int) > 30000) = false by simp; omega]
   refine Ev.succ ?_
   simp only [impl_ZeroSearch.j1]
   rw [w64 (x := i + 1) (by omega) (by omega)]
   exact Ev.neg (by simp) (Ev.bind (impl_coreOf_cor hne (by omega)) h)
  refine ⟨fun h => ?_, fun h1 h2 R h => j1 h1 (Ev.pos h2 h)⟩
  by_cases hne : x = 0
  · refine Ev.succ ?_
    simp only [impl_ZeroSearch.l0]
    rw [hx, hl]
    refine Ev.pos h3 (Ev.pos h0 (Ev.pos h3 (Ev.pos hne (Ev.succ ?_))))
    simp only [impl_ZeroSearch.j1]
    exact Ev.pos (by simp) (Ev.now _)
  · exact j1 hne (Ev.neg (h.resolve_left hne) (Ev.now _))
 unfold impl_ZeroSearch.f
 rw [hl]
 obtain ⟨s1, s2⟩ := step a 0 e0 (by omega) (by omega) ha
 obtain ⟨t1, t2⟩ := step b 1 e1 (by omega) (by omega) hb
 obtain ⟨u1, u2⟩ := step c 2 e2 (by omega) (by omega) hc
 by_cases a0 : a = 0 ∨ Nt.rt a ≠ 1
 · exact ⟨_, .inr ⟨fun h => a0.elim h.1.1 (fun e => e h.2.1.1), rfl⟩, Ev.pos rfl (s1 a0)⟩
 · have a1 : a ≠ 0 := fun e => a0 (.inl e)
   have a2 : Nt.rt a = 1 := Classical.byContradiction fun e => a0 (.inr e)
   by_cases b0 : b = 0 ∨ Nt.rt b ≠ 1
   · exact ⟨_, .inr ⟨fun h => b0.elim h.1.2.1 (fun e => e h.2.1.2.1), rfl⟩, Ev.pos rfl (s2 a1 a2 _ (t1 b0))⟩
   · have b1 : b ≠ 0 := fun e => b0 (.inl e)
     have b2 : Nt.rt b = 1 := Classical.byContradiction fun e => b0 (.inr e)
     by_cases c0 : c = 0 ∨ Nt.rt c ≠ 1
     · exact ⟨_, .inr ⟨fun h => c0.elim h.1.2.2 (fun e => e h.2.1.2.2), rfl⟩, Ev.pos rfl (s2 a1 a2 _ (t2 b1 b2 _ (u1 c0)))⟩
     · have c1 : c ≠ 0 := fun e => c0 (.inl e)
       have c2 : Nt.rt c = 1 := Classical.byContradiction fun e => c0 (.inr e)
       have hab : (a * b).natAbs ≤ 30000 * 30000 := by rw [Int.natAbs_mul]; exact Nat.mul_le_mul ha hb
       have habc : (a * b * c).natAbs ≤ 30000 * 30000 * 30000 := by rw [Int.natAbs_mul]; exact Nat.mul_le_mul hab hc
       have prod : Ev (fun k => impl_product.f k [a, b, c]) (a * b * c) := by
        unfold impl_product.f
        refine Ev.succ ?_
        simp only [impl_product.l0]
        rw [e0, hl, Int.one_mul, w64 (x := a) (by omega) (by omega), show wrap64 (0 + 1) = 1 by rw [w64 (by omega) (by omega)]; rfl]
        refine Ev.pos (by omega) (Ev.pos (by omega) (Ev.pos (by omega) (Ev.succ ?_)))
        simp only [impl_product.l0]
        rw [e1, hl, w64 (x := a * b) (by omega) (by omega), show wrap64 (1 + 1) = 2 by rw [w64 (by omega) (by omega)]; rfl]
        refine Ev.pos (by omega) (Ev.pos (by omega) (Ev.pos (by omega) (Ev.succ ?_)))
        simp only [impl_product.l0]
        rw [e2, hl, w64 (x := a * b * c) (by omega) (by omega), show wrap64 (2 + 1) = 3 by rw [w64 (by omega) (by omega)]; rfl]
        refine Ev.pos (by omega) (Ev.pos (by omega) (Ev.pos (by omega) (Ev.succ ?_)))
        simp only [impl_product.l0]
        exact Ev.neg (by omega) (Ev.now _)
       have bad : ∀ k, impl_ZeroSearch.j2 (k + 1) [a, b, c] true = some ([], false) := fun k => by simp [impl_ZeroSearch.j2]
       have fin : ∀ {R}, Ev (fun k => if (shp a b c).2.2 = 0 then impl_ZeroSearch.j2 k [a, b, c] (decide (((a * b * c).natAbs : Int) > 30000)) else impl_ZeroSearch.j2 k [a, b, c] true) R → Ev (fun k => if (3 : Int) = 3 then impl_ZeroSearch.l0 k [a, b, c] [a, b, c] 3 0 else some (([] : List Int), false)) R := by
        intro R h
        refine Ev.pos rfl (s2 a1 a2 _ (t2 b1 b2 _ (u2 c1 c2 _ (Ev.succ ?_))))
        simp only [impl_ZeroSearch.l0]
        refine Ev.neg (by omega) (Ev.bind (impl_sharedPrime_ev a1 b1 c1 (by omega) (by omega) (by omega)) ?_)
        by_cases hs : (shp a b c).2.2 = 0
        · refine Ev.pos hs (Ev.bind prod ?_)
          rw [impl_size_abs (by omega)]
          refine Ev.sbind (Ev.congr (fun k => ?_) h)
          rw [if_pos hs]
        · refine Ev.neg hs (Ev.congr (fun k => ?_) h)
          rw [if_neg hs]
       by_cases h : ok3 a b c
       · obtain ⟨h1, h2, h3, h4, h5⟩ := h.bds
         obtain ⟨res, r1, r2⟩ := impl_ZeroSearch_l1 c1 h1 h2 h4 h5 175 0 (by omega) (by omega) (by omega) (NB.start a b c)
         have h30 := h.2.2.1
         refine ⟨res, .inl ⟨h, r1⟩, fin (Ev.pos ((shp_zero a1 b1 c1).2 h.2.2.2) ?_)⟩
         rw [show decide (((a * b * c).natAbs : Int) > 30000) = false by simp; omega]
         refine Ev.succ ?_
         simp only [impl_ZeroSearch.j2]
         rw [hl, e0, e1, e2]
         exact Ev.neg (by simp) (Ev.pos (by omega) (Ev.pos (by omega) (Ev.pos (by omega) r2)))
       · refine ⟨_, .inr ⟨h, rfl⟩, fin ?_⟩
         have hj : Ev (fun k => impl_ZeroSearch.j2 k [a, b, c] true) (([] : List Int), false) := by
          refine Ev.succ ?_
          simp only [impl_ZeroSearch.j2]
          exact Ev.pos (by simp) (Ev.now _)
         by_cases hs : (shp a b c).2.2 = 0
         · refine Ev.pos hs ?_
           have : ¬ (a * b * c).natAbs ≤ 30000 := fun h30 => h ⟨⟨a1, b1, c1⟩, ⟨a2, b2, c2⟩, h30, (shp_zero a1 b1 c1).1 hs⟩
           rw [show decide (((a * b * c).natAbs : Int) > 30000) = true by simp; omega]
           exact hj
         · exact Ev.neg hs hj
theorem impl_ZeroSearch_nil : Ev (fun k => impl_ZeroSearch.f k []) ([], false) := by
 unfold impl_ZeroSearch.f
 exact Ev.neg (by simp) (Ev.now _)
/-- What a sort is to give. -/
def Srt (xs ys : List Int) : Prop := ys.Pairwise (· ≤ ·) ∧ ys.Perm xs
/-- A row of numbers, sorted. -/
theorem slices_Sort_ev {xs : List Int} (h0 : 0 < xs.length) (h1 : xs.length ≤ 1000000) : ∃ ys, Ev (fun k => slices_Sort_int_int.f k xs) ys ∧ Srt xs ys := by
 refine ⟨Go.Proofs.Ytdeahlommlgceaa.Srt.srt xs, ?_, ?_, ?_⟩
 · unfold slices_Sort_int_int.f
   exact Ev.pos ⟨h0, by omega⟩ (Ev.now _)
 · unfold Go.Proofs.Ytdeahlommlgceaa.Srt.srt
   have := List.pairwise_mergeSort (le := fun x y : Int => decide (x ≤ y)) (fun a b c h1 h2 => by simp at *; omega) (fun a b => by simp; omega) xs
   exact this.imp (fun h => by simpa using h)
 · unfold Go.Proofs.Ytdeahlommlgceaa.Srt.srt
   exact List.mergeSort_perm _ _
theorem slices_Contains_l (xs : List Int) (v : Int) (hl : xs.length ≤ 10000000) : ∀ (r : List Int) (i : Nat), xs.drop i = r → ∃ j : Int, (0 ≤ j ↔ v ∈ r) ∧ Ev (fun k => slices_Index_int_int.l0 k xs v (xs.length : Int) (i : Int)) j
 | [], i, h => by
  have := drop_nil h
  refine ⟨-1, by simp, Ev.succ ?_⟩
  simp only [slices_Index_int_int.l0]
  exact Ev.neg (by omega) (Ev.now _)
 | t :: r, i, h => by
  obtain ⟨h1, h2, h3⟩ := drop_cons h
  by_cases c : v = t
  · refine ⟨(i : Int), by simp [c], Ev.succ ?_⟩
    simp only [slices_Index_int_int.l0]
    rw [h2]
    exact Ev.pos (by omega) (Ev.pos (by omega) (Ev.pos (by omega) (Ev.pos c (Ev.now _))))
  · obtain ⟨j, j1, j2⟩ := slices_Contains_l xs v hl r (i + 1) h3
    refine ⟨j, by rw [j1]; simp [c], Ev.succ ?_⟩
    simp only [slices_Index_int_int.l0]
    rw [h2, w64 (by omega) (by omega), cast_succ]
    exact Ev.pos (by omega) (Ev.pos (by omega) (Ev.pos (by omega) (Ev.neg c j2)))
theorem slices_Contains_any {xs : List Int} {v : Int} (hl : xs.length ≤ 10000000) : Ev (fun k => slices_Contains_int_int.f k xs v) (decide (v ∈ xs)) := by
 obtain ⟨j, h1, h2⟩ := slices_Contains_l xs v hl xs 0 rfl
 unfold slices_Contains_int_int.f slices_Index_int_int.f
 refine Ev.bind h2 (Ev.ret ?_)
 simp only [decide_eq_decide, ge_iff_le]
 exact h1
/-- What has been found so far. -/
def Got (Q : Int → Prop) (o : List Int) : Prop := o.Nodup ∧ ∀ p, p ∈ o ↔ p = 0 ∨ p = 2 ∨ (Nt.Pr p ∧ Q p)
theorem placesOf_l1 (L : List Int) (hL : L.length ≤ 100) (P : List Int) (hP : P.length ≤ 1000000) (i : Nat) (hi : i < L.length) (n : Int) (Q : Int → Prop) (S : List Int)
 (hnext : ∀ o, Got (fun p => Q p ∨ p ∣ n) o → Ev (fun k => impl_placesOf.l0 k o L (L.length : Int) ((i + 1 : Nat) : Int)) S) :
 ∀ (r : List Int) (j : Nat) (o : List Int), P.drop j = r → j ≤ P.length → o.length ≤ 2000000 + j → o.Nodup → (∀ p, (p ∈ o ∨ p ∈ r) ↔ p = 0 ∨ p = 2 ∨ (Nt.Pr p ∧ (Q p ∨ p ∣ n))) →
  Ev (fun k => impl_placesOf.l1 k o L (L.length : Int) (i : Int) P (P.length : Int) (j : Int)) S
 | [], j, o, h, hj, ho, hd, hm => by
  have := drop_nil h
  refine Ev.succ ?_
  simp only [impl_placesOf.l1]
  rw [w64 (x := (i : Int) + 1) (by omega) (by omega), cast_succ]
  exact Ev.neg (by omega) (hnext o ⟨hd, fun p => by rw [← hm p]; simp⟩)
 | t :: r, j, o, h, hj, ho, hd, hm => by
  obtain ⟨h1, h2, h3⟩ := drop_cons h
  refine Ev.succ ?_
  simp only [impl_placesOf.l1]
  rw [h2, w64 (x := (j : Int) + 1) (by omega) (by omega), cast_succ]
  refine Ev.pos (by omega) (Ev.pos (by omega) (Ev.pos (by omega) (Ev.bind (slices_Contains_any (by omega)) ?_)))
  by_cases c : t ∈ o
  · refine Ev.pos (by simpa using c) ?_
    refine placesOf_l1 L hL P hP i hi n Q S hnext r (j + 1) o h3 (by omega) (by omega) hd (fun p => ?_)
    rw [← hm p]
    constructor
    · rintro (h | h)
      · exact .inl h
      · exact .inr (by simp [h])
    · rintro (h | h)
      · exact .inl h
      · rcases List.mem_cons.1 h with rfl | h
        · exact .inl c
        · exact .inr h
  · refine Ev.neg (by simpa using c) (Ev.pos (by omega) ?_)
    refine placesOf_l1 L hL P hP i hi n Q S hnext r (j + 1) (o ++ [t]) h3 (by omega) (by simp; omega) ?_ (fun p => ?_)
    · rw [List.nodup_append]
      exact ⟨hd, by simp, fun a ha b hb => by rw [List.mem_singleton.1 hb]; exact fun e => c (e ▸ ha)⟩
    · rw [← hm p]
      simp only [List.mem_append, List.mem_cons, List.not_mem_nil, or_false]
      constructor
      · rintro ((h | h) | h)
        · exact .inl h
        · exact .inr (.inl h)
        · exact .inr (.inr h)
      · rintro (h | h | h)
        · exact .inl (.inl h)
        · exact .inl (.inr h)
        · exact .inr h
theorem pl_length {n : Int} {L : List Int} (h : Nt.IsPL n L) (hn : n ≠ 0) (hn2 : n.natAbs ≤ 1000000000000) : L.length ≤ 1000000 := by
 have hd := Nt.prod_dvd (l := L) (n := n) (asc_nodup h.1) (fun p hp => (h.2 p).1 hp)
 have hle := Int.le_of_dvd (show 0 < ((n.natAbs : Nat) : Int) by omega) (Int.dvd_natAbs.2 hd)
 have : ∀ l : List Int, (∀ p ∈ l, Nt.Pr p) → (l.length : Int) < 2 ^ l.length ∧ (2 : Int) ^ l.length ≤ Nt.prod l := by
  intro l hp
  induction l with
  | nil => simp [Nt.prod]
  | cons p l ih =>
   obtain ⟨a, b⟩ := ih (fun q hq => hp q (by simp [hq]))
   have h2 := (hp p (by simp)).1
   have : 2 * 2 ^ l.length ≤ p * Nt.prod l := Int.mul_le_mul h2 b (by omega) (by omega)
   simp only [List.length_cons, Int.pow_succ, Nt.prod]
   omega
 obtain ⟨a, b⟩ := this L (fun p hp => ((h.2 p).1 hp).1)
 rcases Nat.lt_or_ge 40 L.length with h4 | h4
 · exfalso
   have : (2 : Int) ^ 41 ≤ 2 ^ L.length := by
    have := Nat.pow_le_pow_right (show 0 < 2 by omega) (show 41 ≤ L.length by omega)
    exact_mod_cast this
   omega
 · omega
theorem got_ex : ∀ (r : List Int), (∀ n ∈ r, n ≠ 0 ∧ n.natAbs ≤ 1000000000000) → ∃ o, Got (fun p => ∃ n ∈ r, p ∣ n) o
 | [], _ => ⟨[0, 2], by decide, fun p => by simp⟩
 | n :: r, h => by
  obtain ⟨o, h1, h2⟩ := got_ex r (fun m hm => h m (by simp [hm]))
  obtain ⟨n1, n2⟩ := h n (by simp)
  obtain ⟨P, p1, _⟩ := impl_primesOf_ev n1 n2
  refine ⟨o ++ P.filter (fun p => decide (p ∉ o)), ?_, fun p => ?_⟩
  · rw [List.nodup_append]
    refine ⟨h1, (asc_nodup p1.1).filter _, fun a ha b hb => ?_⟩
    have := (List.mem_filter.1 hb).2
    intro e; subst e
    simp at this
    exact this ha
  · simp only [List.mem_append, List.mem_filter, decide_eq_true_eq, List.mem_cons, exists_eq_or_imp]
    rw [p1.2]
    by_cases hpo : p ∈ o
    · simp only [hpo, not_true_eq_false, and_false, or_false, true_iff]
      rcases (h2 p).1 hpo with h | h | ⟨h, h'⟩
      · exact .inl h
      · exact .inr (.inl h)
      · exact .inr (.inr ⟨h, .inr h'⟩)
    · simp only [hpo, not_false_eq_true, and_true, false_or]
      have hno := fun h => hpo ((h2 p).2 h)
      constructor
      · rintro ⟨h, h'⟩; exact .inr (.inr ⟨h, .inl h'⟩)
      · rintro (h | h | ⟨h, h' | h'⟩)
        · exact absurd (.inl h) hno
        · exact absurd (.inr (.inl h)) hno
        · exact ⟨h, h'⟩
        · exact absurd (.inr (.inr ⟨h, h'⟩)) hno
theorem got_le {Q R : Int → Prop} {o o' : List Int} (h : Got Q o) (h' : Got R o') (hQ : ∀ p, Q p → R p) : o.length ≤ o'.length :=
 Nt.length_le_of_sub h.1 (fun x hx => by
  rw [h'.2]
  rcases (h.2 x).1 hx with h1 | h1 | ⟨h1, h2⟩
  · exact .inl h1
  · exact .inr (.inl h1)
  · exact .inr (.inr ⟨h1, hQ x h2⟩))
theorem placesOf_l0 (L : List Int) (hL : L.length ≤ 100) (hn : ∀ n ∈ L, n ≠ 0 ∧ n.natAbs ≤ 1000000000000) (hcount : ∀ o, Got (fun p => ∃ n ∈ L, p ∣ n) o → o.length ≤ 100) :
 ∀ (r : List Int) (i : Nat) (o : List Int) (Q : Int → Prop), L.drop i = r → Got Q o → (∀ p, (Q p ∨ ∃ n ∈ r, p ∣ n) ↔ ∃ n ∈ L, p ∣ n) →
  ∃ S, IsPlaces (fun p => ∃ n ∈ L, p ∣ n) S ∧ Ev (fun k => impl_placesOf.l0 k o L (L.length : Int) (i : Int)) S
 | [], i, o, Q, h, hG, hQ => by
  have := drop_nil h
  have hG' : Got (fun p => ∃ n ∈ L, p ∣ n) o := ⟨hG.1, fun p => by
   show p ∈ o ↔ p = 0 ∨ p = 2 ∨ (Nt.Pr p ∧ ∃ n ∈ L, p ∣ n)
   rw [hG.2, ← hQ p]; simp⟩
  have h0 : 0 < o.length := List.length_pos_of_mem ((hG'.2 0).2 (.inl rfl))
  obtain ⟨S, s1, s2, s3⟩ := slices_Sort_ev h0 (by have := hcount o hG'; omega)
  refine ⟨S, ⟨?_, fun p => by rw [s3.mem_iff]; exact hG'.2 p⟩, Ev.succ ?_⟩
  · have hn := (s3.nodup_iff).2 hG.1
    exact (List.pairwise_and_iff.2 ⟨s2, hn⟩).imp (fun ⟨h1, h2⟩ => by omega)
  · simp only [impl_placesOf.l0]
    exact Ev.neg (by omega) (Ev.bind s1 (Ev.now _))
 | n :: r, i, o, Q, h, hG, hQ => by
  obtain ⟨h1, h2, h3⟩ := drop_cons h
  obtain ⟨n1, n2⟩ := hn n (h2 ▸ rd_mem h1)
  obtain ⟨P, p1, p2⟩ := impl_primesOf_ev n1 n2
  have key : ∀ o', Got (fun p => Q p ∨ p ∣ n) o' → ∃ S, IsPlaces (fun p => ∃ n ∈ L, p ∣ n) S ∧ Ev (fun k => impl_placesOf.l0 k o' L (L.length : Int) ((i + 1 : Nat) : Int)) S := fun o' hG' =>
   placesOf_l0 L hL hn hcount r (i + 1) o' _ h3 hG' (fun p => by
    rw [← hQ p]
    simp only [List.mem_cons, exists_eq_or_imp, or_assoc])
  -- all ways give one answer: it is told by its members
  obtain ⟨F, hF⟩ := got_ex L hn
  have hF12 := hcount F hF
  have hex : ∃ S, IsPlaces (fun p => ∃ n ∈ L, p ∣ n) S ∧ ∀ o', Got (fun p => Q p ∨ p ∣ n) o' → Ev (fun k => impl_placesOf.l0 k o' L (L.length : Int) ((i + 1 : Nat) : Int)) S := by
   have g0 : Got (fun p => Q p ∨ p ∣ n) (o ++ P.filter (fun p => decide (p ∉ o))) := by
    refine ⟨?_, fun p => ?_⟩
    · rw [List.nodup_append]
      refine ⟨hG.1, (asc_nodup p1.1).filter _, fun a ha b hb => ?_⟩
      have := (List.mem_filter.1 hb).2
      intro e; subst e
      simp at this
      exact this ha
    · simp only [List.mem_append, List.mem_filter, decide_eq_true_eq]
      rw [p1.2]
      by_cases hpo : p ∈ o
      · simp only [hpo, not_true_eq_false, and_false, or_false, true_iff]
        rcases (hG.2 p).1 hpo with h | h | ⟨h, h'⟩
        · exact .inl h
        · exact .inr (.inl h)
        · exact .inr (.inr ⟨h, .inl h'⟩)
      · simp only [hpo, not_false_eq_true, and_true, false_or]
        have hno := fun h => hpo ((hG.2 p).2 h)
        constructor
        · rintro ⟨h, h'⟩; exact .inr (.inr ⟨h, .inr h'⟩)
        · rintro (h | h | ⟨h, h' | h'⟩)
          · exact absurd (.inl h) hno
          · exact absurd (.inr (.inl h)) hno
          · exact absurd (.inr (.inr ⟨h, h'⟩)) hno
          · exact ⟨h, h'⟩
   obtain ⟨S, s1, _⟩ := key _ g0
   refine ⟨S, s1, fun o' hG' => ?_⟩
   obtain ⟨S', s1', s2'⟩ := key o' hG'
   have := s1.uniq s1' (fun p _ _ => Iff.rfl)
   rw [this]; exact s2'
  obtain ⟨S, s1, s2⟩ := hex
  have hoL : o.length ≤ 100 := by
   have := got_le hG hF (fun p hp => (hQ p).1 (.inl hp))
   omega
  refine ⟨S, s1, Ev.succ ?_⟩
  simp only [impl_placesOf.l0]
  rw [h2]
  refine Ev.pos (by omega) (Ev.pos (by omega) (Ev.pos (by omega) (Ev.bind p2 ?_)))
  refine placesOf_l1 L hL P (pl_length p1 n1 n2) i h1 n Q S s2 P 0 o rfl (by omega) (by omega) hG.1 (fun p => ?_)
  rw [p1.2, hG.2]
  constructor
  · rintro ((h | h | ⟨h, h'⟩) | ⟨h, h'⟩)
    · exact .inl h
    · exact .inr (.inl h)
    · exact .inr (.inr ⟨h, .inl h'⟩)
    · exact .inr (.inr ⟨h, .inr h'⟩)
  · rintro (h | h | ⟨h, h' | h'⟩)
    · exact .inl (.inl h)
    · exact .inl (.inr (.inl h))
    · exact .inl (.inr (.inr ⟨h, h'⟩))
    · exact .inr ⟨h, h'⟩
/-- The places of some numbers. -/
theorem impl_placesOf_ev100 {L : List Int} (hL : L.length ≤ 100) (hn : ∀ n ∈ L, n ≠ 0 ∧ n.natAbs ≤ 1000000000000) (hcount : ∀ o, Got (fun p => ∃ n ∈ L, p ∣ n) o → o.length ≤ 100) :
 ∃ S, IsPlaces (fun p => ∃ n ∈ L, p ∣ n) S ∧ Ev (fun k => impl_placesOf.f k L) S := by
 unfold impl_placesOf.f
 exact placesOf_l0 L hL hn hcount L 0 [0, 2] (fun _ => False) rfl ⟨by decide, fun p => by simp⟩ (fun p => by simp)
theorem impl_placesOf_ev {L : List Int} (hL : L.length ≤ 100) (hn : ∀ n ∈ L, n ≠ 0 ∧ n.natAbs ≤ 1000000000000) (hcount : ∀ o, Got (fun p => ∃ n ∈ L, p ∣ n) o → o.length ≤ 12) :
 ∃ S, IsPlaces (fun p => ∃ n ∈ L, p ∣ n) S ∧ Ev (fun k => impl_placesOf.f k L) S :=
 impl_placesOf_ev100 hL hn (fun o h => by have := hcount o h; omega)
theorem term_count {l : List Int} (hl : ∀ n ∈ l, n ≠ 0 ∧ n.natAbs ≤ 30) : ∀ o, Got (fun p => ∃ n ∈ l, p ∣ n) o → o.length ≤ 12 := by
 intro o ho
 have := Nt.length_le_of_sub (M := [0, 2, 3, 5, 7, 11, 13, 17, 19, 23, 29]) ho.1 (fun x hx => by
  rcases (ho.2 x).1 hx with hq | hq | ⟨hq, hd⟩
  · simp [hq]
  · simp [hq]
  · exact List.mem_cons_of_mem 0 (small_primes hq (qt_le hl hd)))
 simp only [List.length_cons, List.length_nil] at this
 omega
theorem term_places {l : List Int} (hlen : l.length ≤ 100) (hl : ∀ n ∈ l, n ≠ 0 ∧ n.natAbs ≤ 30) : ∃ S, IsPlaces (QT l) S ∧ S.length ≤ 12 ∧ (∀ p ∈ S, Nt.Pl p ∧ 0 ≤ p ∧ p ≤ 30) ∧ Ev (fun k => impl_placesOf.f k l) S := by
 obtain ⟨S, s1, s2⟩ := impl_placesOf_ev (L := l) hlen (fun n hn => ⟨(hl n hn).1, by have := (hl n hn).2; omega⟩) (term_count hl)
 refine ⟨S, s1, term_count hl S ⟨asc_nodup s1.1, s1.2⟩, fun p hp => ⟨IsPlaces.pl s1 p hp, ?_⟩, s2⟩
 rcases (s1.2 p).1 hp with rfl | rfl | ⟨h1, h2⟩
 · omega
 · omega
 · have := qt_le hl h2
   have := h1.1
   omega
theorem impl_FormPlaces_ev {f S : List Int} (h : fv f = true) (hS : IsPlaces (QT f) S) : Ev (fun k => impl_FormPlaces.f k f) S := by
 obtain ⟨S', s1, _, _, s4⟩ := term_places (l := f) (by have := fv_len h; omega) (fv_terms h)
 have := hS.uniq s1 (fun p _ _ => Iff.rfl)
 subst this
 unfold impl_FormPlaces.f
 exact Ev.bind (impl_FormValid_ev (Md.of_fv h)) (Ev.pos h (Ev.bind s4 (Ev.now _)))
theorem impl_FormPlaces_no {f : List Int} (h : ¬ fv f = true) (hf : Md f) : Ev (fun k => impl_FormPlaces.f k f) [] := by
 unfold impl_FormPlaces.f
 exact Ev.bind (impl_FormValid_ev hf) (Ev.neg h (Ev.now _))
theorem impl_product_l (xs : List Int) (hl : xs.length ≤ 1000000) : ∀ (r : List Int) (i : Nat) (a : Int), xs.drop i = r → (∀ t ∈ r, t.natAbs ≤ 30) → a.natAbs * 30 ^ r.length ≤ 810000 → Ev (fun k => impl_product.l0 k a xs (xs.length : Int) (i : Int)) (a * Nt.prod r)
 | [], i, a, h, _, _ => by
  have := drop_nil h
  refine Ev.succ ?_
  simp only [impl_product.l0]
  exact Ev.neg (by omega) (Ev.ret (by simp [Nt.prod]))
 | t :: r, i, a, h, ht, hb => by
  obtain ⟨h1, h2, h3⟩ := drop_cons h
  obtain ⟨b1, b2⟩ := step_bd hb (ht t (by simp))
  refine Ev.succ ?_
  simp only [impl_product.l0]
  rw [h2, w64 (x := a * t) (by omega) (by omega), w64 (x := (i : Int) + 1) (by omega) (by omega), cast_succ]
  refine Ev.pos (by omega) (Ev.pos (by omega) (Ev.pos (by omega) ?_))
  exact Ev.to (impl_product_l xs hl r (i + 1) (a * t) h3 (fun s hs => ht s (by simp [hs])) b1) (by simp only [Nt.prod, Int.mul_assoc])
theorem impl_product_ev {xs : List Int} (h : fv xs = true) : Ev (fun k => impl_product.f k xs) (Nt.prod xs) := by
 unfold impl_product.f
 have := fv_len h
 exact Ev.to (impl_product_l xs (by omega) xs 0 1 rfl (fv_bd h) (by have := pow_four this.2; simpa using this)) (by simp)
theorem isq8 {u : Int} (h : u % 2 = 1) : u % 8 = 1 ∨ u % 8 = 3 ∨ u % 8 = 5 ∨ u % 8 = 7 := by omega
theorem pw_if (e : Int) (k : Nat) : Nt.pw e k = if k % 2 = 1 then e else 1 := rfl
/-- The exponent at 2: of rests by 8. -/
theorem exp8 {i j : Nat} {u v : Int} (hu : u % 2 = 1) (hv : v % 2 = 1) :
 (((u % 8 - 1) / 2 * ((v % 8 - 1) / 2) + i * ((v % 8) * (v % 8) - 1) / 8 + j * ((u % 8) * (u % 8) - 1) / 8) % 2) = ((Nt.e4 u * Nt.e4 v + i * Nt.e8 v + j * Nt.e8 u : Nat) : Int) % 2 := by
 unfold Nt.e4 Nt.e8
 have k3 : u % 4 = u % 8 % 4 := by omega
 have k4 : v % 4 = v % 8 % 4 := by omega
 rw [k3, k4]
 rcases isq8 hu with a | a | a | a <;> rcases isq8 hv with b | b | b | b <;> simp only [a, b] <;> simp <;> omega
theorem exp16 {i j : Nat} {u v : Int} (hu : u % 2 = 1) (hv : v % 2 = 1) :
 (((u % 16 - 1) / 2 * ((v % 16 - 1) / 2) + i * (((v % 16) * (v % 16) - 1) / 8) + j * (((u % 16) * (u % 16) - 1) / 8)) % 2) = ((Nt.e4 u * Nt.e4 v + i * Nt.e8 v + j * Nt.e8 u : Nat) : Int) % 2 := by
 unfold Nt.e4 Nt.e8
 have h1 : u % 16 = 1 ∨ u % 16 = 3 ∨ u % 16 = 5 ∨ u % 16 = 7 ∨ u % 16 = 9 ∨ u % 16 = 11 ∨ u % 16 = 13 ∨ u % 16 = 15 := by omega
 have h2 : v % 16 = 1 ∨ v % 16 = 3 ∨ v % 16 = 5 ∨ v % 16 = 7 ∨ v % 16 = 9 ∨ v % 16 = 11 ∨ v % 16 = 13 ∨ v % 16 = 15 := by omega
 have k1 : u % 8 = u % 16 % 8 := by omega
 have k2 : v % 8 = v % 16 % 8 := by omega
 have k3 : u % 4 = u % 16 % 4 := by omega
 have k4 : v % 4 = v % 16 % 4 := by omega
 rw [k1, k2, k3, k4]
 rcases h1 with a | a | a | a | a | a | a | a <;> rcases h2 with b | b | b | b | b | b | b | b <;> simp only [a, b] <;> simp <;> omega
/-- How often a prime divides is bounded by the size. -/
theorem two_pow_le (p : Int) (hp : 2 ≤ p) : ∀ k : Nat, (2 : Int) ^ k ≤ p ^ k
 | 0 => by simp
 | k + 1 => by
  rw [Int.pow_succ, Int.pow_succ]
  exact Int.mul_le_mul (two_pow_le p hp k) hp (by omega) (by have := Nt.pow_pos' hp k; omega)
theorem lt_two_pow' (k : Nat) : (k : Int) < 2 ^ k := by
 have := @Nat.lt_two_pow_self k
 exact_mod_cast this
theorem vl_small {n p : Int} {m : Nat} (hp : 2 ≤ p) (hn : n ≠ 0) (hb : n.natAbs < 2 ^ m) : Nt.vl n p < m := by
 rcases Nat.lt_or_ge (Nt.vl n p) m with h | h
 · exact h
 · exfalso
   obtain ⟨h1, h2⟩ := Nt.vl_spec hp hn
   have hu : Nt.un n p ≠ 0 := fun e => h2 (e ▸ Int.dvd_zero p)
   have e : n.natAbs = (Nt.un n p).natAbs * (p ^ Nt.vl n p).natAbs := by rw [← Int.natAbs_mul, ← h1]
   have h3 : 1 * (p ^ Nt.vl n p).natAbs ≤ (Nt.un n p).natAbs * (p ^ Nt.vl n p).natAbs := Nat.mul_le_mul_right _ (by omega)
   have h4 := two_pow_le p hp (Nt.vl n p)
   have h5 : (2 : Nat) ^ m ≤ 2 ^ Nt.vl n p := Nat.pow_le_pow_right (by omega) h
   have h6 : (((2 : Nat) ^ Nt.vl n p : Nat) : Int) = (2 : Int) ^ Nt.vl n p := by exact_mod_cast rfl
   omega
theorem un_le {n p : Int} (hp : 2 ≤ p) (hn : n ≠ 0) : (Nt.un n p).natAbs ≤ n.natAbs := by
 obtain ⟨h1, h2⟩ := Nt.vl_spec hp hn
 have e : n.natAbs = (Nt.un n p).natAbs * (p ^ Nt.vl n p).natAbs := by rw [← Int.natAbs_mul, ← h1]
 have h3 := Nt.pow_pos' hp (Nt.vl n p)
 have := Nat.mul_le_mul_left (Nt.un n p).natAbs (show 1 ≤ (p ^ Nt.vl n p).natAbs by omega)
 omega
theorem par_sign {e : Int} {n : Nat} (h : e % 2 = (n : Int) % 2) : (if e % 2 = 0 then (1 : Int) else -1) = Nt.pw (-1) n := by
 rw [pw_if, h]
 rcases Nat.mod_two_eq_zero_or_one n with h | h
 · rw [if_pos (by omega), if_neg (by omega)]
 · rw [if_neg (by omega), if_pos h]
theorem leg_neg {p : Int} (hp : Nt.Pr p) (h2 : p ≠ 2) (n : Nat) : Nt.pw (Nt.leg (-1) p) n = Nt.pw (-1) (n * Nt.hf p) := by
 rw [Nt.leg_neg_one hp h2, pw_if, pw_if, Nat.mul_mod]
 rcases Nat.mod_two_eq_zero_or_one n with h | h <;> rcases Nat.mod_two_eq_zero_or_one (Nt.hf p) with h' | h' <;> rw [h, h'] <;> simp
theorem impl_power_l (x : Int) (hx : -5000 ≤ x ∧ x ≤ 5000) (n : Nat) (hn : n ≤ 4) : ∀ (d i : Nat), i + d = n → Ev (fun k => impl_power.l0 k x (x ^ i) (n : Int) (i : Int)) (x ^ n)
 | 0, i, h => by
  refine Ev.succ ?_
  simp only [impl_power.l0]
  refine Ev.neg (by omega) (Ev.ret ?_)
  rw [show i = n by omega]
 | d + 1, i, h => by
  refine Ev.succ ?_
  simp only [impl_power.l0]
  refine Ev.pos (by omega) ?_
  have hb : -625000000000000 ≤ x ^ i ∧ x ^ i ≤ 625000000000000 := by
   have h1 : (x ^ i).natAbs ≤ 5000 ^ 4 := by
    rw [Int.natAbs_pow]
    exact Nat.le_trans (Nat.pow_le_pow_left (show x.natAbs ≤ 5000 by omega) i) (Nat.pow_le_pow_right (by omega) (by omega))
   omega
  have hb2 : -3125000000000000000 ≤ x ^ i * x ∧ x ^ i * x ≤ 3125000000000000000 := by
   have h1 : (x ^ i * x).natAbs ≤ 625000000000000 * 5000 := by
    rw [Int.natAbs_mul]
    exact Nat.mul_le_mul (by omega) (by omega)
   omega
  rw [w64 (x := x ^ i * x) (by omega) (by omega), w64 (by omega) (by omega), cast_succ, ← Int.pow_succ]
  exact impl_power_l x hx n hn d (i + 1) (by omega)
theorem impl_power_ev {x e : Int} (hx : -5000 ≤ x ∧ x ≤ 5000) (n : Nat) (he : e = n) (hn : n ≤ 4) : Ev (fun k => impl_power.f k x e) (x ^ n) := by
 subst he
 unfold impl_power.f
 simpa using impl_power_l x hx n hn n 0 (by omega)
theorem impl_power_par {x e : Int} (hx : -5000 ≤ x ∧ x ≤ 5000) (n : Nat) (he : e = ((n % 2 : Nat) : Int)) : Ev (fun k => impl_power.f k x e) (Nt.pw x n) := by
 refine Ev.to (impl_power_ev hx (n % 2) he (by omega)) ?_
 rw [pw_if]
 rcases Nat.mod_two_eq_zero_or_one n with h | h <;> rw [h] <;> simp [Int.pow_succ]
theorem impl_power_l5 (x : Int) (hx : -5000 ≤ x ∧ x ≤ 5000) (n : Nat) (hn : n ≤ 5) : ∀ (d i : Nat), i + d = n → Ev (fun k => impl_power.l0 k x (x ^ i) (n : Int) (i : Int)) (x ^ n)
 | 0, i, h => by
  refine Ev.succ ?_
  simp only [impl_power.l0]
  refine Ev.neg (by omega) (Ev.ret ?_)
  rw [show i = n by omega]
 | d + 1, i, h => by
  refine Ev.succ ?_
  simp only [impl_power.l0]
  refine Ev.pos (by omega) ?_
  have hb : -625000000000000 ≤ x ^ i ∧ x ^ i ≤ 625000000000000 := by
   have h1 : (x ^ i).natAbs ≤ 5000 ^ 4 := by
    rw [Int.natAbs_pow]
    exact Nat.le_trans (Nat.pow_le_pow_left (show x.natAbs ≤ 5000 by omega) i) (Nat.pow_le_pow_right (by omega) (by omega))
   omega
  have hb2 : -3125000000000000000 ≤ x ^ i * x ∧ x ^ i * x ≤ 3125000000000000000 := by
   have h1 : (x ^ i * x).natAbs ≤ 625000000000000 * 5000 := by
    rw [Int.natAbs_mul]
    exact Nat.mul_le_mul (by omega) (by omega)
   omega
  rw [w64 (x := x ^ i * x) (by omega) (by omega), w64 (by omega) (by omega), cast_succ, ← Int.pow_succ]
  exact impl_power_l5 x hx n hn d (i + 1) (by omega)
theorem impl_power_ev5 {x e : Int} (hx : -5000 ≤ x ∧ x ≤ 5000) (n : Nat) (he : e = n) (hn : n ≤ 5) : Ev (fun k => impl_power.f k x e) (x ^ n) := by
 subst he
 unfold impl_power.f
 simpa using impl_power_l5 x hx n hn n 0 (by omega)
theorem impl_rest_eq {a m : Int} (hm : 0 < m) (hm2 : m ≤ 1000000) : impl_rest.f a m = some (a % m) := by
 unfold impl_rest.f
 have := Nt.rest_bd (a := a) hm
 rw [if_neg (by omega), w64 (by omega) (by omega), Nt.rest_eq hm]
theorem impl_residue_l {p u : Int} (hp : Nt.Pr p) (h2 : p ≠ 2) (hp5 : p ≤ 5000) (hu : ¬ p ∣ u) : ∀ (d : Nat) (x : Int), 1 ≤ x → x ≤ p → (p - x).toNat ≤ d → (∀ y, 1 ≤ y → y < x → y * y % p ≠ u % p) →
 Ev (fun k => impl_residue.l0 k p (u % p) x) (Nt.leg u p) := by
 have hp1 := hp.1
 intro d
 induction d with
 | zero =>
  intro x h1 h3 hd hy
  refine Ev.succ ?_
  simp only [impl_residue.l0]
  rw [tdiv_ediv (by omega), w64 (by omega) (by omega)]
  refine Ev.neg (by omega) (Ev.ret ?_)
  refine ((Nt.leg_pm hu).resolve_left fun h => ?_).symm
  obtain ⟨y, y1, y2, y3⟩ := (Nt.leg_search hp h2 hu).1 h
  exact hy y y1 (by omega) y3
 | succ d ih =>
  intro x h1 h3 hd hy
  have hs := small_sq (m := x) (by omega) (by omega)
  refine Ev.succ ?_
  simp only [impl_residue.l0]
  rw [tdiv_ediv (a := p) (by omega), w64 (x := p / 2) (by omega) (by omega)]
  by_cases hle : x ≤ p / 2
  · refine Ev.pos hle (Ev.neg (by omega) ?_)
    rw [w64 (x := x * x) (by omega) (by omega), tmod_emod (by omega)]
    by_cases he : x * x % p = u % p
    · refine Ev.pos he (Ev.ret ?_)
      exact ((Nt.leg_search hp h2 hu).2 ⟨x, h1, hle, he⟩).symm
    · refine Ev.neg he ?_
      rw [w64 (by omega) (by omega)]
      refine ih (x + 1) (by omega) (by omega) (by omega) (fun y y1 y2 => ?_)
      by_cases e : y = x
      · rw [e]; exact he
      · exact hy y y1 (by omega)
  · refine Ev.neg hle (Ev.ret ?_)
    refine ((Nt.leg_pm hu).resolve_left fun h => ?_).symm
    obtain ⟨y, y1, y2, y3⟩ := (Nt.leg_search hp h2 hu).1 h
    exact hy y y1 (by omega) y3
theorem impl_residue_ev {p u : Int} (hp : Nt.Pr p) (h2 : p ≠ 2) (hp5 : p ≤ 5000) : Ev (fun k => impl_residue.f k u p) (Nt.leg u p) := by
 unfold impl_residue.f
 rw [impl_rest_eq hp.pos (by omega)]
 refine Ev.sbind ?_
 by_cases h : p ∣ u
 · refine Ev.pos (Int.emod_eq_zero_of_dvd h) (Ev.ret ?_)
   exact (Nt.leg_zero h).symm
 · refine Ev.neg (fun e => h (Int.dvd_of_emod_eq_zero e)) ?_
   exact impl_residue_l hp h2 hp5 h _ 1 (by omega) (by have := hp.1; omega) (Nat.le_refl _) (fun y h1 h2 => by omega)
theorem pw_bd {x : Int} (hx : -1 ≤ x ∧ x ≤ 1) (n : Nat) : -1 ≤ Nt.pw x n ∧ Nt.pw x n ≤ 1 := by rw [pw_if]; split <;> omega
theorem tri_mul {x y : Int} (hx : -1 ≤ x ∧ x ≤ 1) (hy : -1 ≤ y ∧ y ≤ 1) : -1 ≤ x * y ∧ x * y ≤ 1 := by
 rcases (by omega : x = -1 ∨ x = 0 ∨ x = 1) with h | h | h <;> rw [h] <;> omega
theorem impl_symbol_ev {a b p : Int} (hp : Nt.Pl p) (hp5 : p ≤ 5000) (ha : a ≠ 0) (hb : b ≠ 0) (ha2 : a.natAbs ≤ 1000000000000) (hb2 : b.natAbs ≤ 1000000000000) :
 Ev (fun k => impl_symbol.f k a b p) (Nt.hil a b p) := by
 unfold impl_symbol.f
 rcases hp with rfl | hp
 · refine Ev.pos rfl ?_
   unfold Nt.hil
   rw [if_pos rfl]
   refine Ev.by_ite (fun h1 => Ev.by_ite (fun h2 => Ev.ret (by rw [if_pos ⟨h1, h2⟩])) (fun h2 => Ev.ret (by rw [if_neg (fun h => h2 h.2)]))) (fun h1 => Ev.ret (by rw [if_neg (fun h => h1 h.1)]))
 · have hp1 := hp.1
   refine Ev.neg (by omega) (Ev.bind (impl_split_ev hp1 ha ha2) (Ev.bind (impl_split_ev hp1 hb hb2) ?_))
   dsimp only
   have i1 := vl_small (m := 40) hp1 ha (by omega)
   have j1 := vl_small (m := 40) hp1 hb (by omega)
   obtain ⟨a1, a2⟩ := Nt.vl_spec hp1 ha
   obtain ⟨b1, b2⟩ := Nt.vl_spec hp1 hb
   by_cases h2 : p = 2
   · subst h2
     have ou := Nt.odd_of a2
     have ov := Nt.odd_of b2
     refine Ev.pos rfl ?_
     rw [impl_rest_eq (by omega) (by omega), impl_rest_eq (by omega) (by omega)]
     refine Ev.sbind (Ev.sbind ?_)
     have hex := exp8 (i := Nt.vl a 2) (j := Nt.vl b 2) ou ov
     rw [Nt.hil_two]
     unfold Nt.hil2
     generalize Nt.vl a 2 = i at *
     generalize Nt.vl b 2 = j at *
     generalize Nt.un a 2 = u at *
     generalize Nt.un b 2 = v at *
     have u8 : u % 8 = 1 ∨ u % 8 = 3 ∨ u % 8 = 5 ∨ u % 8 = 7 := isq8 ou
     have v8 : v % 8 = 1 ∨ v % 8 = 3 ∨ v % 8 = 5 ∨ v % 8 = 7 := isq8 ov
     have su : 0 ≤ u % 8 * (u % 8) - 1 ∧ u % 8 * (u % 8) - 1 ≤ 48 := by rcases u8 with h | h | h | h <;> rw [h] <;> omega
     have sv : 0 ≤ v % 8 * (v % 8) - 1 ∧ v % 8 * (v % 8) - 1 ≤ 48 := by rcases v8 with h | h | h | h <;> rw [h] <;> omega
     have siv : 0 ≤ (i : Int) * (v % 8 * (v % 8) - 1) ∧ (i : Int) * (v % 8 * (v % 8) - 1) ≤ 40 * 48 := ⟨Int.mul_nonneg (by omega) sv.1, Int.mul_le_mul (by omega) sv.2 sv.1 (by omega)⟩
     have sju : 0 ≤ (j : Int) * (u % 8 * (u % 8) - 1) ∧ (j : Int) * (u % 8 * (u % 8) - 1) ≤ 40 * 48 := ⟨Int.mul_nonneg (by omega) su.1, Int.mul_le_mul (by omega) su.2 su.1 (by omega)⟩
     have hu2 : 0 ≤ (u % 8 - 1) / 2 ∧ (u % 8 - 1) / 2 ≤ 3 := by omega
     have hv2 : 0 ≤ (v % 8 - 1) / 2 ∧ (v % 8 - 1) / 2 ≤ 3 := by omega
     have suv : 0 ≤ (u % 8 - 1) / 2 * ((v % 8 - 1) / 2) ∧ (u % 8 - 1) / 2 * ((v % 8 - 1) / 2) ≤ 3 * 3 := ⟨Int.mul_nonneg hu2.1 hv2.1, Int.mul_le_mul hu2.2 hv2.2 hv2.1 (by omega)⟩
     have q1 : wrap64 (u % 8 * (u % 8)) = u % 8 * (u % 8) := w64 (by omega) (by omega)
     have q2 : wrap64 (v % 8 * (v % 8)) = v % 8 * (v % 8) := w64 (by omega) (by omega)
     have q3 : wrap64 (u % 8 - 1) = u % 8 - 1 := w64 (by omega) (by omega)
     have q4 : wrap64 (v % 8 - 1) = v % 8 - 1 := w64 (by omega) (by omega)
     rw [q1, q2, q3, q4, w64 (x := u % 8 * (u % 8) - 1) (by omega) (by omega), w64 (x := v % 8 * (v % 8) - 1) (by omega) (by omega),
      w64 (x := (i : Int) * (v % 8 * (v % 8) - 1)) (by omega) (by omega), w64 (x := (j : Int) * (u % 8 * (u % 8) - 1)) (by omega) (by omega),
      tdiv_ediv siv.1, tdiv_ediv sju.1, tdiv_ediv (a := u % 8 - 1) (by omega), tdiv_ediv (a := v % 8 - 1) (by omega)]
     generalize (i : Int) * (v % 8 * (v % 8) - 1) = A at *
     generalize (j : Int) * (u % 8 * (u % 8) - 1) = B at *
     rw [w64 (x := (u % 8 - 1) / 2) (by omega) (by omega), w64 (x := (v % 8 - 1) / 2) (by omega) (by omega)]
     generalize (u % 8 - 1) / 2 * ((v % 8 - 1) / 2) = C at *
     rw [w64 (x := A / 8) (by omega) (by omega), w64 (x := B / 8) (by omega) (by omega), w64 (x := C) (by omega) (by omega), w64 (x := C + A / 8) (by omega) (by omega), w64 (x := C + A / 8 + B / 8) (by omega) (by omega), tmod_emod (by omega)]
     exact Ev.bind (impl_power_par (by omega) _ (by rw [hex]; omega)) (Ev.now _)
   · have h3 := Nt.odd_ge hp h2
     have ho := Nt.odd_odd hp h2
     refine Ev.neg h2 ?_
     unfold Nt.hil
     rw [if_neg (by omega), if_neg h2]
     unfold Nt.hilp
     rw [leg_neg hp h2]
     have lu := Nt.leg_range (Nt.un a p) p
     have lv := Nt.leg_range (Nt.un b p) p
     have hij : 0 ≤ (Nt.vl a p : Int) * (Nt.vl b p : Int) ∧ (Nt.vl a p : Int) * (Nt.vl b p : Int) ≤ 40 * 40 := ⟨Int.mul_nonneg (by omega) (by omega), Int.mul_le_mul (by omega) (by omega) (by omega) (by omega)⟩
     have hijp : 0 ≤ (Nt.vl a p : Int) * (Nt.vl b p : Int) * (p - 1) ∧ (Nt.vl a p : Int) * (Nt.vl b p : Int) * (p - 1) ≤ 1600 * 5000 := ⟨Int.mul_nonneg hij.1 (by omega), Int.mul_le_mul (by omega) (by omega) (by omega) (by omega)⟩
     have ee : (Nt.vl a p : Int) * (Nt.vl b p : Int) * (p - 1) / 2 = ((Nt.vl a p * Nt.vl b p * Nt.hf p : Nat) : Int) := by
      have : p - 1 = 2 * (Nt.hf p : Int) := by unfold Nt.hf; omega
      rw [this]
      push_cast
      rw [show (Nt.vl a p : Int) * (Nt.vl b p : Int) * (2 * (Nt.hf p : Int)) = 2 * ((Nt.vl a p : Int) * (Nt.vl b p : Int) * (Nt.hf p : Int)) by grind]
      omega
     rw [w64 (x := (Nt.vl a p : Int) * (Nt.vl b p : Int)) (by omega) (by omega), w64 (x := p - 1) (by omega) (by omega), w64 (x := (Nt.vl a p : Int) * (Nt.vl b p : Int) * (p - 1)) (by omega) (by omega), tdiv_ediv hijp.1, ee, w64 (by omega) (by omega)]
     refine Ev.bind (impl_power_par (by omega) (Nt.vl a p * Nt.vl b p * Nt.hf p) (by rw [tmod_emod (by omega)]; omega)) ?_
     refine Ev.bind (impl_residue_ev hp h2 hp5) (Ev.bind (impl_power_par (by omega) (Nt.vl b p) (by rw [tmod_emod (by omega)]; omega)) ?_)
     refine Ev.bind (impl_residue_ev hp h2 hp5) (Ev.bind (impl_power_par (by omega) (Nt.vl a p) (by rw [tmod_emod (by omega)]; omega)) ?_)
     have x1 := pw_bd (x := -1) (by omega) (Nt.vl a p * Nt.vl b p * Nt.hf p)
     have x2 := pw_bd lu (Nt.vl b p)
     have x3 := pw_bd lv (Nt.vl a p)
     have x4 := tri_mul x1 x2
     have x5 := tri_mul x4 x3
     rw [w64 (x := Nt.pw (-1) _ * Nt.pw _ _) (by omega) (by omega), w64 (by omega) (by omega)]
     exact Ev.now _
theorem impl_invariant_l1 {xs : List Int} {p : Int} (h : fv xs = true) (hp : Nt.Pl p) (hp5 : p ≤ 5000) (i : Nat) (hi : i < xs.length) (res : Int)
 (hnext : Ev (fun k => impl_invariant.l0 k xs p (Nt.inv p (xs.take (i + 1))) xs (xs.length : Int) ((i + 1 : Nat) : Int)) res) :
 ∀ (d j : Nat) (e : Int), j + d = i → e = Nt.inv p (xs.take i) * Nt.hil (rd xs (i : Int)) (Nt.prod (xs.take j)) p →
  Ev (fun k => impl_invariant.l1 k xs p e (rd xs (i : Int)) xs (xs.length : Int) (i : Int) (xs.take i) ((xs.take i).length : Int) (j : Int)) res := by
 have hl := fv_len h
 have hn := fv_nz h
 have ht : rd xs (i : Int) ∈ xs := rd_mem hi
 have htn := hn _ ht
 have htb := fv_bd h _ ht
 have hlen : (xs.take i).length = i := by simp; omega
 intro d
 induction d with
 | zero =>
  intro j e hj he
  refine Ev.succ ?_
  simp only [impl_invariant.l1]
  rw [w64 (x := (i : Int) + 1) (by omega) (by omega), cast_succ]
  refine Ev.neg (by omega) ?_
  have : e = Nt.inv p (xs.take (i + 1)) := by
   rw [he, take_snoc hi, Nt.inv_snoc hp (nz_take hn i) htn, Nt.hil_comm, show j = i by omega]
  rw [this]
  exact hnext
 | succ d ih =>
  intro j e hj he
  have hjl : j < xs.length := by omega
  have hb := rd_mem hjl
  have hbn := hn _ hb
  have hbb := fv_bd h _ hb
  have hpn := Nt.prod_nz (nz_take hn j)
  have pe : e = 1 ∨ e = -1 := by rw [he]; exact pm_mul (Nt.inv_pm hp (nz_take hn i)) (Nt.hil_pm hp htn hpn)
  have pp := pm_mul pe (Nt.hil_pm hp htn hbn)
  refine Ev.succ ?_
  simp only [impl_invariant.l1]
  rw [rd_take (xs := xs) (show j < i by omega), w64 (x := (j : Int) + 1) (by omega) (by omega), cast_succ]
  refine Ev.pos (by omega) (Ev.pos (by omega) (Ev.pos (by omega) (Ev.bind (impl_symbol_ev hp hp5 htn hbn (by omega) (by omega)) ?_)))
  rw [w64 (by omega) (by omega)]
  refine ih (j + 1) _ (by omega) ?_
  rw [he, take_snoc hjl, prod_snoc, Nt.hil_mul_right hp htn hpn hbn, Int.mul_assoc]
theorem impl_invariant_l0 {xs : List Int} {p : Int} (h : fv xs = true) (hp : Nt.Pl p) (hp5 : p ≤ 5000) : ∀ (d i : Nat), i + d = xs.length →
 Ev (fun k => impl_invariant.l0 k xs p (Nt.inv p (xs.take i)) xs (xs.length : Int) (i : Int)) (Nt.inv p xs) := by
 have hl := fv_len h
 have hn := fv_nz h
 intro d
 induction d with
 | zero =>
  intro i hi
  refine Ev.succ ?_
  simp only [impl_invariant.l0]
  exact Ev.neg (by omega) (Ev.ret (by rw [show i = xs.length by omega, List.take_length]))
 | succ d ih =>
  intro i hi
  refine Ev.succ ?_
  simp only [impl_invariant.l0, Int.toNat_natCast]
  refine Ev.pos (by omega) (Ev.pos (by omega) (Ev.pos (by omega) (Ev.pos (by omega) ?_)))
  refine impl_invariant_l1 h hp hp5 i (by omega) _ (ih (i + 1) (by omega)) i 0 _ (by omega) ?_
  rw [List.take_zero, show Nt.prod [] = 1 from rfl, Nt.hil_one_right hp (hn _ (rd_mem (by omega))), Int.mul_one]
theorem impl_invariant_ev {xs : List Int} {p : Int} (h : fv xs = true) (hp : Nt.Pl p) (hp5 : p ≤ 5000) : Ev (fun k => impl_invariant.f k xs p) (Nt.inv p xs) := by
 unfold impl_invariant.f
 exact impl_invariant_l0 h hp hp5 xs.length 0 (by omega)
theorem impl_localSquare_ev {a p : Int} (hp : Nt.Pl p) (hp5 : p ≤ 5000) (ha : a ≠ 0) (ha2 : a.natAbs ≤ 1000000000000) : Ev (fun k => impl_localSquare.f k a p) (Nt.lsq a p) := by
 unfold impl_localSquare.f Nt.lsq
 by_cases h0 : p = 0
 · rw [if_pos h0]
   exact Ev.pos h0 (Ev.now _)
 · have hp := hp.resolve_left h0
   rw [if_neg h0]
   refine Ev.neg h0 (Ev.bind (impl_split_ev hp.1 ha ha2) ?_)
   dsimp only
   rw [tmod_emod (by omega)]
   by_cases hv : Nt.vl a p % 2 = 0
   · rw [if_pos hv]
     refine Ev.pos (by omega) ?_
     by_cases h2 : p = 2
     · subst h2
       rw [if_pos rfl, impl_rest_eq (by omega) (by omega)]
       exact Ev.pos rfl (Ev.sbind (Ev.now _))
     · rw [if_neg h2]
       exact Ev.neg h2 (Ev.bind (impl_residue_ev hp h2 hp5) (Ev.now _))
   · rw [if_neg hv]
     exact Ev.neg (by omega) (Ev.now _)
theorem impl_lessTerms_l (xs : List Int) (hx : Md xs) : ∀ (r : List Int) (i n : Nat), n ≤ i → xs.drop i = r → Ev (fun k => impl_lessTerms.l0 k (n : Int) xs (xs.length : Int) (i : Int)) ((n + less r : Nat) : Int)
 | [], i, n, hn, h => by
  have := drop_nil h
  refine Ev.succ ?_
  simp only [impl_lessTerms.l0]
  exact Ev.neg (by omega) (Ev.ret (by simp [less]))
 | t :: r, i, n, hn, h => by
  obtain ⟨h1, h2, h3⟩ := drop_cons h
  have hl := hx.1
  refine Ev.succ ?_
  simp only [impl_lessTerms.l0]
  rw [h2]
  refine Ev.pos (by omega) (Ev.pos (by omega) (Ev.pos (by omega) ?_))
  rw [w64 (x := (i : Int) + 1) (by omega) (by omega), w64 (x := (n : Int) + 1) (by omega) (by omega), cast_succ, cast_succ]
  by_cases h0 : t < 0
  · refine Ev.pos h0 (Ev.to (impl_lessTerms_l xs hx r (i + 1) (n + 1) (by omega) h3) ?_)
    simp only [less, if_pos h0]; omega
  · refine Ev.neg h0 (Ev.to (impl_lessTerms_l xs hx r (i + 1) n (by omega) h3) ?_)
    simp only [less, if_neg h0]
theorem impl_lessTerms_ev {xs : List Int} (hx : Md xs) : Ev (fun k => impl_lessTerms.f k xs) ((less xs : Nat) : Int) := by
 unfold impl_lessTerms.f
 refine Ev.to (impl_lessTerms_l xs hx xs 0 0 (Nat.le_refl _) rfl) ?_
 simp
theorem impl_vanishes_ev {f : List Int} {p : Int} (h : fv f = true) (hp : Nt.Pl p) (hp5 : p ≤ 5000) : Ev (fun k => impl_vanishes.f k f p) (Nt.van p f) := by
 obtain ⟨b1, b2⟩ := prod_bd h
 have hl := fv_len h
 unfold impl_vanishes.f
 refine Ev.bind (impl_product_ev h) ?_
 rw [w64 (by omega) (by omega)]
 by_cases c : p = 0
 · refine Ev.pos c (Ev.bind (impl_lessTerms_ev (Md.of_fv h)) ?_)
   have e : Nt.van p f = decide (0 < Nt.ng f ∧ Nt.ng f < f.length) := by unfold Nt.van; rw [if_pos c]
   rw [e, less_ng]
   by_cases c1 : ((Nt.ng f : Nat) : Int) > 0
   · exact Ev.pos c1 (Ev.ret (by rw [decide_eq_decide]; omega))
   · exact Ev.neg c1 (Ev.ret (by symm; rw [decide_eq_false_iff_not]; omega))
 · refine Ev.neg c ?_
   unfold Nt.van
   rw [if_neg c]
   by_cases c2 : f.length = 2
   · rw [if_pos c2]
     exact Ev.pos (by omega) (Ev.bind (impl_localSquare_ev hp hp5 (by omega) (by omega)) (Ev.now _))
   · rw [if_neg c2]
     refine Ev.neg (by omega) ?_
     by_cases c3 : f.length = 3
     · rw [if_pos c3]
       exact Ev.pos (by omega) (Ev.bind (impl_invariant_ev h hp hp5) (Ev.bind (impl_symbol_ev hp hp5 (by omega) (by omega) (by omega) (by omega)) (Ev.now _)))
     · rw [if_neg c3]
       refine Ev.neg (by omega) ?_
       by_cases c4 : f.length = 4
       · rw [if_pos c4]
         refine Ev.pos (by omega) (Ev.bind (impl_localSquare_ev hp hp5 b1 (by omega)) ?_)
         by_cases c5 : Nt.lsq (Nt.prod f) p = true
         · exact Ev.pos c5 (Ev.bind (impl_invariant_ev h hp hp5) (Ev.bind (impl_symbol_ev hp hp5 (by omega) (by omega) (by omega) (by omega)) (Ev.ret (by rw [c5]; rfl))))
         · refine Ev.neg c5 (Ev.ret ?_)
           have : Nt.lsq (Nt.prod f) p = false := by simpa using c5
           rw [this]; rfl
       · rw [if_neg c4]
         exact Ev.neg (by omega) (Ev.now _)
theorem impl_FormBad_l {f S : List Int} (h : fv f = true) (hb : ∀ p ∈ S, Nt.Pl p ∧ 0 ≤ p ∧ p ≤ 30) (hl : S.length ≤ 12) :
 ∀ (r o : List Int) (i : Nat), S.drop i = r → o.length ≤ i → Ev (fun k => impl_FormBad.l0 k f o S (S.length : Int) (i : Int)) (o ++ fbad f r)
 | [], o, i, h1, ho => by
  have := drop_nil h1
  refine Ev.succ ?_
  simp only [impl_FormBad.l0]
  exact Ev.neg (by omega) (Ev.ret (by simp [fbad]))
 | p :: r, o, i, h1, ho => by
  obtain ⟨v1, v2, v3⟩ := drop_cons h1
  obtain ⟨q1, q2, q3⟩ := hb p (v2 ▸ rd_mem v1)
  refine Ev.succ ?_
  simp only [impl_FormBad.l0]
  rw [v2, w64 (by omega) (by omega), cast_succ]
  refine Ev.pos (by omega) (Ev.pos (by omega) (Ev.pos (by omega) (Ev.bind (impl_vanishes_ev h q1 (by omega)) ?_)))
  by_cases c : Nt.van p f = true
  · refine Ev.pos c (Ev.to (impl_FormBad_l h hb hl r o (i + 1) v3 (by omega)) ?_)
    simp [fbad, c]
  · refine Ev.neg c (Ev.pos (by omega) (Ev.to (impl_FormBad_l h hb hl r (o ++ [p]) (i + 1) v3 (by simp; omega)) ?_))
    simp [fbad, c]
theorem impl_FormBad_ev {f S : List Int} (h : fv f = true) (hS : IsPlaces (QT f) S) (hb : ∀ p ∈ S, Nt.Pl p ∧ 0 ≤ p ∧ p ≤ 30) (hl : S.length ≤ 12) : Ev (fun k => impl_FormBad.f k f) (fbad f S) := by
 unfold impl_FormBad.f
 refine Ev.bind (impl_FormPlaces_ev h hS) ?_
 exact Ev.to (impl_FormBad_l h hb hl S [] 0 rfl (by simp)) (by simp)
theorem impl_FormBad_no {f : List Int} (h : ¬ fv f = true) (hf : Md f) : Ev (fun k => impl_FormBad.f k f) [] := by
 unfold impl_FormBad.f
 refine Ev.bind (impl_FormPlaces_no h hf) (Ev.succ ?_)
 simp only [impl_FormBad.l0]
 exact Ev.neg (by simp) (Ev.now _)
/-- Does a vector fit? -/
def okV (m : Int) (x : Int) : Bool := decide (-m ≤ x ∧ x ≤ m)
def vOk (f v : List Int) (m : Int) : Bool := v.all (okV m) && decide (v.length = f.length)
theorem vOk_iff {f v : List Int} {m : Int} : vOk f v m = true ↔ (∀ x ∈ v, -m ≤ x ∧ x ≤ m) ∧ v.length = f.length := by
 unfold vOk okV; simp
/-- The sum of terms and two vectors. -/
def pr3 : List Int → List Int → List Int → Int
 | t :: f, x :: v, y :: w => t * x * y + pr3 f v w
 | _, _, _ => 0
theorem abs_mul3 {t x y m n : Int} (ht : t.natAbs ≤ m.toNat) (hx : x.natAbs ≤ n.toNat) (hy : y.natAbs ≤ n.toNat) : (t * x * y).natAbs ≤ m.toNat * n.toNat * n.toNat := by
 rw [Int.natAbs_mul, Int.natAbs_mul]
 exact Nat.mul_le_mul (Nat.mul_le_mul ht hx) hy
/-- What the walk may lean on: terms and vectors are small. -/
def Sml (f v w : List Int) : Prop := f.length ≤ 4 ∧ v.length = f.length ∧ w.length = f.length ∧ (∀ t ∈ f, -31 ≤ t ∧ t ≤ 31) ∧ (∀ x ∈ v, -1000000 ≤ x ∧ x ≤ 1000000) ∧ (∀ x ∈ w, -1000000 ≤ x ∧ x ≤ 1000000)
theorem Sml.of {f v w : List Int} (hf : fv f = true) {m : Int} (hm : m ≤ 1000000) (hv : vOk f v m = true) (hw : vOk f w m = true) : Sml f v w := by
 obtain ⟨f1, f2, f3⟩ := fv_iff.1 hf
 obtain ⟨v1, v2⟩ := vOk_iff.1 hv
 obtain ⟨w1, w2⟩ := vOk_iff.1 hw
 exact ⟨f3, v2, w2, fun t ht => by have := f1 t ht; omega, fun t ht => by have := v1 t ht; omega, fun t ht => by have := w1 t ht; omega⟩
theorem mul3_bd {t x y : Int} (ht : -31 ≤ t ∧ t ≤ 31) (hx : -1000000 ≤ x ∧ x ≤ 1000000) (hy : -1000000 ≤ y ∧ y ≤ 1000000) : (-31000000 ≤ t * x ∧ t * x ≤ 31000000) ∧ (-31000000000000 ≤ t * x * y ∧ t * x * y ≤ 31000000000000) := by
 have h1 : (t * x).natAbs ≤ 31 * 1000000 := by rw [Int.natAbs_mul]; exact Nat.mul_le_mul (by omega) (by omega)
 have h2 : (t * x * y).natAbs ≤ 31 * 1000000 * 1000000 := by rw [Int.natAbs_mul]; exact Nat.mul_le_mul h1 (by omega)
 omega
theorem impl_pair_l (f v w : List Int) (hs : Sml f v w) : ∀ (r rv rw : List Int) (i : Nat) (n : Int), f.drop i = r → v.drop i = rv → w.drop i = rw → -31000000000000 * (i : Int) ≤ n → n ≤ 31000000000000 * (i : Int) →
 Ev (fun k => impl_pair.l0 k v w n f (f.length : Int) (i : Int)) (n + pr3 r rv rw)
 | [], rv, rw', i, n, h, h', h'', _, _ => by
  have := drop_nil h
  refine Ev.succ ?_
  simp only [impl_pair.l0]
  exact Ev.neg (by omega) (Ev.ret (by simp [pr3]))
 | t :: r, [], _, i, n, h, h', h'', _, _ => by
  obtain ⟨h1, _, _⟩ := drop_cons h
  have := drop_nil h'
  have := hs.2.1
  omega
 | t :: r, _ :: _, [], i, n, h, h', h'', _, _ => by
  obtain ⟨h1, _, _⟩ := drop_cons h
  have := drop_nil h''
  have := hs.2.2.1
  omega
 | t :: r, x :: rv, y :: rw', i, n, h, h', h'', hn1, hn2 => by
  obtain ⟨h1, h2, h3⟩ := drop_cons h
  obtain ⟨v1, v2, v3⟩ := drop_cons h'
  obtain ⟨w1, w2, w3⟩ := drop_cons h''
  obtain ⟨s1, s2, s3, s4, s5, s6⟩ := hs
  obtain ⟨⟨b1, b2⟩, b3, b4⟩ := mul3_bd (s4 t (h2 ▸ rd_mem h1)) (s5 x (v2 ▸ rd_mem v1)) (s6 y (w2 ▸ rd_mem w1))
  refine Ev.succ ?_
  simp only [impl_pair.l0]
  rw [h2, v2, w2]
  refine Ev.pos (by omega) (Ev.pos (by omega) (Ev.pos (by omega) (Ev.pos (by omega) (Ev.pos (by omega) ?_))))
  rw [w64 (x := (i : Int) + 1) (by omega) (by omega), w64 (x := t * x) (by omega) (by omega), w64 (x := t * x * y) (by omega) (by omega), w64 (x := n + t * x * y) (by omega) (by omega), cast_succ]
  refine Ev.to (impl_pair_l f v w ⟨s1, s2, s3, s4, s5, s6⟩ r rv rw' (i + 1) (n + t * x * y) h3 v3 w3 (by omega) (by omega)) ?_
  simp only [pr3]; omega
theorem impl_pair_ev {f v w : List Int} (hs : Sml f v w) : Ev (fun k => impl_pair.f k f v w) (pr3 f v w) := by
 unfold impl_pair.f
 exact Ev.to (impl_pair_l f v w hs f v w 0 0 rfl rfl rfl (by omega) (by omega)) (by omega)
theorem pr3_bd : ∀ {f v w : List Int}, Sml f v w → -31000000000000 * (f.length : Int) ≤ pr3 f v w ∧ pr3 f v w ≤ 31000000000000 * (f.length : Int)
 | [], v, w, _ => by simp [pr3]
 | t :: f, [], w, h => by have := h.2.1; simp at this
 | t :: f, x :: v, [], h => by have := h.2.2.1; simp at this
 | t :: f, x :: v, y :: w, ⟨s1, s2, s3, s4, s5, s6⟩ => by
  have ih := pr3_bd (f := f) (v := v) (w := w) ⟨by simp at s1; omega, by simpa using s2, by simpa using s3, fun t h => s4 t (by simp [h]), fun t h => s5 t (by simp [h]), fun t h => s6 t (by simp [h])⟩
  have := (mul3_bd (s4 t (by simp)) (s5 x (by simp)) (s6 y (by simp))).2
  simp only [pr3, List.length_cons]
  omega
theorem beq_dec (a b : Nat) : ((a : Int) == (b : Int)) = decide (a = b) := by
 by_cases h : a = b
 · subst h; simp
 · simp only [h, decide_false, beq_eq_false_iff_ne, ne_eq]; omega
theorem impl_vectorOk_l (f v : List Int) (m : Int) (hm : 0 ≤ m) (hm2 : m ≤ 1000000) (hl : v.length ≤ 1000000) : ∀ (r : List Int) (i : Nat), v.drop i = r → Ev (fun k => impl_vectorOk.l0 k f v m v (v.length : Int) (i : Int)) (r.all (okV m) && decide (v.length = f.length))
 | [], i, h => by
  have := drop_nil h
  refine Ev.succ ?_
  simp only [impl_vectorOk.l0]
  refine Ev.neg (by omega) (Ev.ret ?_)
  rw [beq_dec]; simp
 | t :: r, i, h => by
  obtain ⟨h1, h2, h3⟩ := drop_cons h
  refine Ev.succ ?_
  simp only [impl_vectorOk.l0]
  rw [h2, w64 (x := -m) (by omega) (by omega)]
  refine Ev.pos (by omega) (Ev.pos (by omega) (Ev.pos (by omega) ?_))
  by_cases c : -m ≤ t ∧ t ≤ m
  · refine Ev.neg (by omega) (Ev.neg (by omega) ?_)
    rw [w64 (by omega) (by omega), cast_succ]
    refine Ev.to (impl_vectorOk_l f v m hm hm2 hl r (i + 1) h3) ?_
    have : okV m t = true := by unfold okV; simpa using c
    simp [this]
  · have : okV m t = false := by unfold okV; simpa using c
    by_cases c1 : t < -m
    · exact Ev.pos c1 (Ev.ret (by simp [this]))
    · exact Ev.neg c1 (Ev.pos (by omega) (Ev.ret (by simp [this])))
theorem impl_vectorOk_ev {f v : List Int} {m : Int} (hm : 0 ≤ m) (hm2 : m ≤ 1000000) (hl : v.length ≤ 1000000) : Ev (fun k => impl_vectorOk.f k f v m) (vOk f v m) := by
 unfold impl_vectorOk.f
 exact impl_vectorOk_l f v m hm hm2 hl v 0 rfl
/-- A form, and a zero of it. -/
def zis (f v : List Int) : Bool := fv f && vOk f v 1000000 && decide (gl v ≠ 0) && decide (pr3 f v v = 0)
theorem zis_iff {f v : List Int} : zis f v = true ↔ fv f = true ∧ vOk f v 1000000 = true ∧ gl v ≠ 0 ∧ pr3 f v v = 0 := by
 unfold zis
 simp only [Bool.and_eq_true, decide_eq_true_eq, and_assoc]
theorem zis_eq {f v : List Int} {b : Bool} (h : b = true ↔ fv f = true ∧ vOk f v 1000000 = true ∧ gl v ≠ 0 ∧ pr3 f v v = 0) : b = zis f v := by
 rw [Bool.eq_iff_iff, h, zis_iff]
theorem impl_ZeroIs_ev {f v : List Int} (hf : Md f) (hv : Mid v) : Ev (fun k => impl_ZeroIs.f k f v) (zis f v) := by
 have no : ¬ (fv f = true ∧ vOk f v 1000000 = true) → Ev (fun k => impl_ZeroIs.j0 k f v true) (zis f v) := by
  intro h
  refine Ev.succ ?_
  simp only [impl_ZeroIs.j0]
  refine Ev.pos (by simp) (Ev.ret (zis_eq ?_))
  constructor
  · intro e; cases e
  · rintro ⟨h1, h2, _⟩; exact absurd ⟨h1, h2⟩ h
 unfold impl_ZeroIs.f
 refine Ev.bind (impl_FormValid_ev hf) ?_
 by_cases h1 : fv f = true
 · refine Ev.pos h1 (Ev.bind (impl_vectorOk_ev (by omega) (by omega) hv.1) ?_)
   by_cases h2 : vOk f v 1000000 = true
   · rw [h2]
     refine Ev.succ ?_
     simp only [impl_ZeroIs.j0]
     refine Ev.neg (by simp) (Ev.bind (impl_gcd_ev hv) ?_)
     by_cases h3 : gl v = 0
     · refine Ev.pos (by omega) (Ev.ret (zis_eq ?_))
       constructor
       · intro e; cases e
       · rintro ⟨_, _, h, _⟩; exact absurd h3 h
     · refine Ev.neg (by omega) (Ev.bind (impl_pair_ev (Sml.of h1 (by omega) h2 h2)) (Ev.ret (zis_eq ?_)))
       simp [h1, h2, h3]
   · rw [show vOk f v 1000000 = false by simpa using h2]
     exact no (fun h => h2 h.2)
 · exact Ev.neg h1 (no (fun h => h1 h.1))
/-- Is it a number? -/
def isN (a : Int) : Bool := decide (-5000 ≤ a ∧ a ≤ 5000)
theorem isN_iff {a : Int} : isN a = true ↔ -5000 ≤ a ∧ a ≤ 5000 := by unfold isN; simp
theorem impl_isNumber_eq (a : Int) : impl_isNumber.f a = some (isN a) := by
 unfold impl_isNumber.f isN
 split
 · congr 1; simp only [decide_eq_decide]; omega
 · congr 1; simp; omega
/-- What CoreOf tells. -/
noncomputable def coreO (a : Int) : Int × Int × Bool := if a ≠ 0 ∧ isN a = true then (Nt.cor a, Nt.rt a, true) else (0, 0, false)
theorem impl_CoreOf_c {a : Int} : Ev (fun k => impl_CoreOf.f k a) (coreO a) := by
 unfold impl_CoreOf.f coreO
 by_cases h0 : a = 0
 · rw [if_neg (fun e => e.1 h0)]
   exact Ev.pos h0 (Ev.now _)
 · rw [impl_isNumber_eq]
   refine Ev.neg h0 (Ev.sbind ?_)
   by_cases hN : isN a = true
   · have := isN_iff.1 hN
     rw [if_pos ⟨h0, hN⟩]
     exact Ev.pos hN (Ev.bind (impl_coreOf_cor h0 (by omega)) (Ev.now _))
   · rw [if_neg (fun e => hN e.2)]
     exact Ev.neg hN (Ev.now _)
theorem coreO_of {a : Int} (h0 : a ≠ 0) (hN : isN a = true) : coreO a = (Nt.cor a, Nt.rt a, true) := by unfold coreO; rw [if_pos ⟨h0, hN⟩]
theorem coreO_no {a : Int} (h : ¬ (a ≠ 0 ∧ isN a = true)) : coreO a = (0, 0, false) := by unfold coreO; rw [if_neg h]
theorem laws_sameInts_l (xs : List Int) (hl : xs.length ≤ 1000000) : ∀ (r : List Int) (i : Nat), xs.drop i = r → Ev (fun k => laws_sameInts.l0 k xs xs (i : Int)) true
 | [], i, h => by
  have := drop_nil h
  refine Ev.succ ?_
  simp only [laws_sameInts.l0]
  exact Ev.neg (by omega) (Ev.now _)
 | t :: r, i, h => by
  obtain ⟨h1, h2, h3⟩ := drop_cons h
  refine Ev.succ ?_
  simp only [laws_sameInts.l0]
  rw [w64 (by omega) (by omega), cast_succ]
  exact Ev.pos (by omega) (Ev.pos (by omega) (Ev.pos (by omega) (Ev.pos (by simp) (laws_sameInts_l xs hl r (i + 1) h3))))
theorem laws_sameInts_ev {xs : List Int} (hl : xs.length ≤ 1000000) : Ev (fun k => laws_sameInts.f k xs xs) true := by
 unfold laws_sameInts.f
 exact Ev.pos rfl (laws_sameInts_l xs hl xs 0 rfl)
theorem mx_abs (t : Int) : mx t (-t) = (t.natAbs : Int) := by unfold mx; split <;> omega
theorem laws_sizeOf_eq {t : Int} (h1 : -9000000000000000000 ≤ t) (h2 : t ≤ 9000000000000000000) : laws_sizeOf.f t = some (t.natAbs : Int) := by
 unfold laws_sizeOf.f
 rw [w64 (by omega) (by omega), mx_abs]
theorem draw_normal {l : List Int} (hw : ∀ x ∈ l, (Lit.int .u8 x).wf = true) : ∃ f, Md f ∧ Ev (fun n => spec_DrawZeroNormal.f n l) f := by
 obtain ⟨b, hb, ho⟩ := spec_l6Open_ev hw
 obtain ⟨r0, a1, a2, e0⟩ := pick_ev hb (n := 16) (p := 0) (by omega) (by omega) (by omega)
 unfold spec_DrawZeroNormal.f
 rw [ho]
 by_cases c : r0 = 0
 · obtain ⟨f, q, h1, h2, _, _, h5⟩ := spec_l91Form_ev hb (n := 4) (p := 0 + 1) (by omega) (by omega) (by omega) (by omega)
   exact ⟨f, h1.md (by omega), Ev.sbind (Ev.bind e0 (Ev.pos c (Ev.bind h5 (Ev.now _))))⟩
 · obtain ⟨f, q, h1, _, _, _, h3⟩ := spec_l92Form_ev hb (n := 3) (p := 0 + 1) (by omega) (by omega) (by omega) (by omega)
   exact ⟨f, h1.md, Ev.sbind (Ev.bind e0 (Ev.neg c (Ev.bind h3 (Ev.now _))))⟩
theorem impl_GcdOf_c {a b : Int} : ∃ g, Ev (fun k => impl_GcdOf.f k a b) g ∧ (g = -1 ∨ g = ((Nat.gcd a.natAbs b.natAbs : Nat) : Int)) := by
 unfold impl_GcdOf.f
 rw [impl_isNumber_eq, impl_isNumber_eq]
 by_cases h1 : isN a = true
 · by_cases h2 : isN b = true
   · have b1 := isN_iff.1 h1
     have b2 := isN_iff.1 h2
     have mid : Mid [a, b] := ⟨by simp, fun x hx => by
      simp only [List.mem_cons, List.not_mem_nil, or_false] at hx
      rcases hx with rfl | rfl <;> omega⟩
     refine ⟨_, Ev.sbind (Ev.pos h1 (Ev.sbind (Ev.pos h2 (Ev.bind (impl_gcd_ev mid) (Ev.now _))))), .inr ?_⟩
     simp [gl, gf]
   · exact ⟨-1, Ev.sbind (Ev.pos h1 (Ev.sbind (Ev.neg h2 (Ev.now _)))), .inl rfl⟩
 · exact ⟨-1, Ev.sbind (Ev.neg h1 (Ev.now _)), .inl rfl⟩
/-- One round over the normal terms. -/
theorem nl_step {F T M Z : List Int} {A B i : Int} {p : Bool} (hi : 0 ≤ i ∧ i < 3) (hT : T.length = 3) (hM : M.length = 3) (h0 : rd T i ≠ 0) (hs : Nt.Sqf (rd T i)) (hg : Nat.gcd (rd T i).natAbs (rd T (Int.tmod (i + 1) 3)).natAbs ≤ 1) (hm : 1 ≤ rd M i) (h : Ev (fun k => laws_FnNormal.l1 k F T M A B p Z (i + 1)) true) :
 Ev (fun k => laws_FnNormal.l1 k F T M A B p Z i) true := by
 have tm : 0 ≤ Int.tmod (i + 1) 3 ∧ Int.tmod (i + 1) 3 < 3 := ⟨Int.tmod_nonneg _ (by omega), Int.tmod_lt_of_pos _ (by omega)⟩
 obtain ⟨g, e1, e2⟩ := impl_GcdOf_c (a := rd T i) (b := rd T (Int.tmod (i + 1) 3))
 refine Ev.succ ?_
 simp only [laws_FnNormal.l1]
 rw [w64 (by omega) (by omega)]
 refine Ev.pos (by omega) (Ev.pos (by omega) (Ev.pos (by omega) (Ev.bind impl_CoreOf_c ?_)))
 have tail : Ev (fun k => (impl_GcdOf.f k (rd T i) (rd T (Int.tmod (i + 1) 3))).bind fun t => (if t > 1 then (some false) else (if i < (M.length : Int) then (if (rd M i) < 1 then (some false) else (laws_FnNormal.l1 k F T M A B p Z (i + 1))) else (none)))) true := Ev.bind e1 (Ev.neg (by omega) (Ev.pos (by omega) (Ev.neg (by omega) h)))
 obtain ⟨k1, k2⟩ := Nt.cor_eq h0 (Nt.isCore_self hs)
 by_cases hN : isN (rd T i) = true
 · rw [coreO_of h0 hN]
   exact Ev.pos rfl (Ev.pos k1.symm (Ev.pos k2.symm (Ev.pos (by omega) (Ev.pos (by omega) tail))))
 · rw [coreO_no (fun e => hN e.2)]
   exact Ev.neg (by simp) (Ev.pos (by omega) (Ev.pos (by omega) tail))
/-- The law's end. -/
theorem nl_all {x y z a b c m n o S : Int} (hv : fv [x, y, z] = true) (h : Nt.Nm x y z a b c m n o S) (hm : 1 ≤ m ∧ 1 ≤ n ∧ 1 ≤ o) (hle : (a * b * c).natAbs ≤ (x * y * z).natAbs) {p : Bool} {Z : List Int} (hp : p = true ↔ ∃ t u v, Good a b c t u v) (hz : p = true → Mid Z ∧ zis [x, y, z] Z = true) :
 Ev (fun k => laws_FnNormal.l1 k [x, y, z] [a, b, c] [m, n, o] ((a * b * c).natAbs : Int) ((x * y * z).natAbs : Int) p Z 0) true := by
 obtain ⟨_, ⟨ha, hb, hc⟩, _⟩ := h.1
 obtain ⟨sa, sb, sc⟩ := h.3
 obtain ⟨g1, g2, g3⟩ := h.4
 refine nl_step (by omega) rfl rfl ha sa g1 hm.1 (nl_step (by omega) rfl rfl hb sb g3 hm.2.1 (nl_step (by omega) rfl rfl hc sc g2 hm.2.2 (Ev.succ ?_)))
 simp only [laws_FnNormal.l1]
 have hbd := fv_bd hv
 obtain ⟨L, s1, s2, s3, _⟩ := term_places (l := [x, y, z]) (by simp) (fun t ht => ⟨fv_nz hv t ht, hbd t ht⟩)
 have bi := bad_iff h (hbd x (by simp)) (hbd y (by simp)) (hbd z (by simp)) s1
 refine Ev.neg (by omega) (Ev.pos (by omega) (Ev.bind (impl_FormBad_ev hv s1 s3 s2) (Ev.pos ?_ ?_)))
 · rw [beq_iff_eq, Bool.eq_iff_iff, hp, ← bi, beq_iff_eq]
   constructor
   · intro e; rw [e]; rfl
   · intro e; exact List.length_eq_zero_iff.1 (by omega)
 · cases p with
   | false => exact Ev.neg (by simp) (Ev.now _)
   | true =>
    obtain ⟨q1, q2⟩ := hz rfl
    exact Ev.pos rfl (Ev.bind (impl_ZeroIs_ev (Md.of_fv hv) q1) (Ev.ret q2))
theorem nl_app {F T M V Z : List Int} {A B i x : Int} {p : Bool} (h0 : 0 ≤ i) (h1 : i < 3) (hV : V.length = 3) (hM : M.length = 3) (hZ : Z.length ≤ 3) (hx : rd V i * rd M i = x) (hb : x.natAbs ≤ 300) (h : Ev (fun k => laws_FnNormal.l0 k F T M A B V p (Z ++ [x]) (i + 1)) true) : Ev (fun k => laws_FnNormal.l0 k F T M A B V p Z i) true := by
 refine Ev.succ ?_
 simp only [laws_FnNormal.l0]
 rw [hx, w64 (x := x) (by omega) (by omega), w64 (x := i + 1) (by omega) (by omega)]
 exact Ev.pos (by omega) (Ev.pos h0 (Ev.pos (by omega) (Ev.pos (by omega) h)))
theorem nl_found {x y z a b c m n o S t u v : Int} (hv : fv [x, y, z] = true) (h : Nt.Nm x y z a b c m n o S) (hm : 1 ≤ m ∧ 1 ≤ n ∧ 1 ≤ o) (h7 : (a * b * c).natAbs * S.natAbs ≤ 29791) (hle : (a * b * c).natAbs ≤ (x * y * z).natAbs) (g : Good a b c t u v) :
 Ev (fun k => laws_FnNormal.l0 k [x, y, z] [a, b, c] [m, n, o] ((a * b * c).natAbs : Int) ((x * y * z).natAbs : Int) [t, u, v] true [] 0) true := by
 have ex : ∃ t u v, Good a b c t u v := ⟨t, u, v, g⟩
 obtain ⟨tb, ub, vb⟩ := zero_bds h h7 g
 obtain ⟨_, _, _, _, _, gn, ge⟩ := g
 refine nl_app (x := t * m) (by omega) (by omega) rfl rfl (by simp) rfl tb (nl_app (x := u * n) (by omega) (by omega) rfl rfl (by simp) rfl ub (nl_app (x := v * o) (by omega) (by omega) rfl rfl (by simp) rfl vb ?_))
 show Ev (fun k => laws_FnNormal.l0 k _ _ _ _ _ _ _ [t * m, u * n, v * o] 3) true
 refine Ev.succ ?_
 simp only [laws_FnNormal.l0]
 refine Ev.neg (by simp) (nl_all hv h hm hle ⟨fun _ => ex, fun _ => rfl⟩ (fun _ => ?_))
 have mid : ∀ w ∈ [t * m, u * n, v * o], -300 ≤ w ∧ w ≤ 300 := by
  intro w hw
  simp only [List.mem_cons, List.not_mem_nil, or_false] at hw
  rcases hw with rfl | rfl | rfl <;> omega
 refine ⟨⟨by simp, fun w hw => by have := mid w hw; omega⟩, zis_iff.2 ⟨hv, vOk_iff.2 ⟨fun w hw => by have := mid w hw; omega, rfl⟩, ?_, ?_⟩⟩
 · intro e
   have e := gl_zero.1 e
   have m1 := e (t * m) (by simp)
   have m2 := e (u * n) (by simp)
   rcases gn with k | k
   · exact Int.mul_ne_zero k (by omega) m1
   · exact Int.mul_ne_zero k (by omega) m2
 · have := zero_form h ge
   simp only [pr3, Int.add_zero]
   rw [Int.mul_assoc x, Int.mul_assoc y, Int.mul_assoc z, ← Int.add_assoc]
   exact this
theorem abs_w64 {x : Int} {N : Nat} (h : x.natAbs ≤ N) (hN : N ≤ 1000000) : wrap64 x = x ∧ laws_sizeOf.f x = some (x.natAbs : Int) := ⟨w64 (by omega) (by omega), laws_sizeOf_eq (by omega) (by omega)⟩
theorem nl_form {x y z a b c m n o S : Int} (hv : fv [x, y, z] = true) (h : Nt.Nm x y z a b c m n o S) (hm : 1 ≤ m ∧ 1 ≤ n ∧ 1 ≤ o) (h7 : (a * b * c).natAbs * S.natAbs ≤ 29791) (hle : (a * b * c).natAbs ≤ (x * y * z).natAbs) :
 Ev (fun k => laws_FnNormal.j0 k [x, y, z] [a, b, c] [m, n, o] true [a, b, c] [m, n, o] true (!true)) true := by
 obtain ⟨⟨hx, hy, hz⟩, ⟨ha, hb, hc⟩, hS, _⟩ := h.1
 have hbd := fv_bd hv
 have bx := hbd x (by simp)
 have by' := hbd y (by simp)
 have bz := hbd z (by simp)
 have h8 : (a * b * c).natAbs ≤ 29791 := Nat.le_trans (Nat.le_mul_of_pos_right _ (by omega)) h7
 have k1 : (a * b).natAbs ≤ (a * b * c).natAbs := abs_le_mul hc
 have k2 : (x * y).natAbs ≤ 30 * 30 := by rw [Int.natAbs_mul]; exact Nat.mul_le_mul bx by'
 have k3 : (x * y * z).natAbs ≤ 30 * 30 * 30 := by rw [Int.natAbs_mul]; exact Nat.mul_le_mul k2 bz
 have ok := ok3_of h h8
 obtain ⟨b1, b2, b3, _⟩ := ok.bds
 obtain ⟨res, r1, r2⟩ := impl_ZeroSearch_ev (a := a) (b := b) (c := c) b1 b2 b3
 refine Ev.succ ?_
 simp only [laws_FnNormal.j0]
 rw [show rd [a, b, c] 0 = a from rfl, show rd [a, b, c] 1 = b from rfl, show rd [a, b, c] 2 = c from rfl, show rd [x, y, z] 0 = x from rfl, show rd [x, y, z] 1 = y from rfl, show rd [x, y, z] 2 = z from rfl,
  (abs_w64 (Nat.le_trans k1 h8) (by decide)).1, (abs_w64 h8 (by decide)).1, (abs_w64 k2 (by decide)).1, (abs_w64 k3 (by decide)).1, (abs_w64 h8 (by decide)).2, (abs_w64 k3 (by decide)).2]
 refine Ev.neg (by simp) (Ev.pos (by simp) (Ev.pos (by simp) (Ev.pos (by simp) (Ev.sbind (Ev.pos (by simp) (Ev.pos (by simp) (Ev.pos (by simp) (Ev.sbind (Ev.bind r2 ?_)))))))))
 rcases r1 with ⟨_, ⟨t, u, v, e, g, _⟩ | ⟨e, none⟩⟩ | ⟨hno, _⟩
 · subst e
   exact nl_found hv h hm h7 hle g
 · subst e
   refine Ev.succ ?_
   simp only [laws_FnNormal.l0]
   refine Ev.neg (by simp) (nl_all hv h hm hle ⟨fun e => (by cases e), fun ⟨t, u, v, g⟩ => absurd g (none t u v)⟩ (fun e => by cases e))
 · exact absurd ok hno
theorem the : laws_FnNormal.Pure := by
 intro l _ _ hl
 refine Ev.rounds ?_
 unfold laws_FnNormal.f
 by_cases h : (l.length : Int) > 1048576
 · exact Ev.pos h (Ev.now _)
 · obtain ⟨f, hf, hd⟩ := draw_normal hl
   refine Ev.neg h (Ev.bind hd ?_)
   by_cases hv : fv f = true ∧ f.length = 3
   · obtain ⟨x, y, z, rfl⟩ := len3 hv.2
     have hbd := fv_bd hv.1
     have nz := fv_nz hv.1
     obtain ⟨a, b, c, m, n, o, S, e, hN, hm, h7, h8⟩ := nm3_all (nz x (by simp)) (nz y (by simp)) (nz z (by simp)) (hbd x (by simp)) (hbd y (by simp)) (hbd z (by simp))
     have i1 := impl_ZeroNormal_ev hv.1
     have s1 := spec_ZeroNormal_ev hv.1
     rw [e] at i1 s1
     exact Ev.bind i1 (Ev.bind s1 (Ev.neg (by simp) (Ev.bind (laws_sameInts_ev (by simp)) (Ev.pos rfl (Ev.bind (laws_sameInts_ev (by simp)) (Ev.pos rfl (nl_form hv.1 hN hm h7 h8)))))))
   · refine Ev.bind (impl_ZeroNormal_no hf hv) (Ev.bind (spec_ZeroNormal_no hf hv) (Ev.neg (by simp) (Ev.bind (laws_sameInts_ev (by simp)) (Ev.pos rfl (Ev.bind (laws_sameInts_ev (by simp)) (Ev.pos rfl (Ev.succ ?_)))))))
     simp only [laws_FnNormal.j0]
     exact Ev.pos (by simp) (Ev.pos (by simp) (Ev.bind (laws_sameInts_ev (by simp)) (Ev.pos rfl (Ev.bind (laws_sameInts_ev (by simp)) (Ev.now _)))))
end Go.Proofs.Ytdeahlommlgceaa.KFnNormal

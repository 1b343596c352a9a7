/- The core of a number as a function. -/
import Derived.Test.YtdeahlommlgceaaNtK
namespace Go.Proofs.Ytdeahlommlgceaa.Nt

open Classical in
/-- The core of a number. -/
noncomputable def cor (n : Int) : Int := if h : n ≠ 0 then Classical.choose (core_exists h) else 0
open Classical in
/-- The root that goes with the core. -/
noncomputable def rt (n : Int) : Int := if h : n ≠ 0 then Classical.choose (Classical.choose_spec (core_exists h)) else 0
theorem cor_core {n : Int} (hn : n ≠ 0) : IsCore n (cor n) (rt n) := by
  unfold cor rt
  rw [dif_pos hn, dif_pos hn]
  exact Classical.choose_spec (Classical.choose_spec (core_exists hn))
theorem cor_eq {n c r : Int} (hn : n ≠ 0) (h : IsCore n c r) : c = cor n ∧ r = rt n := IsCore.uniq hn h (cor_core hn)
theorem cor_nz {n : Int} (hn : n ≠ 0) : cor n ≠ 0 := (cor_core hn).nz hn
theorem cor_le {n : Int} (hn : n ≠ 0) : (cor n).natAbs ≤ n.natAbs := ((cor_core hn).root_le hn).2
theorem cor_lk {p n : Int} (hp : Pl p) (hn : n ≠ 0) : Lk p n (cor n) := (cor_core hn).lk hp hn
theorem cor_sq {n x : Int} (hn : n ≠ 0) (hx : x ≠ 0) : cor (n * (x * x)) = cor n := by
  obtain ⟨h1, h2, h3⟩ := cor_core hn
  have hN : n * (x * x) ≠ 0 := Int.mul_ne_zero hn (Int.mul_ne_zero hx hx)
  have hxx : x * x = (x.natAbs : Int) * (x.natAbs : Int) := Int.natAbs_mul_self.symm
  refine (cor_eq (r := rt n * (x.natAbs : Int)) hN ⟨?_, ?_, h3⟩).1.symm
  · rw [hxx]
    generalize (x.natAbs : Int) = y
    calc n * (y * y) = cor n * (rt n * rt n) * (y * y) := by rw [← h1]
      _ = cor n * (rt n * y * (rt n * y)) := by simp only [Int.mul_comm, Int.mul_left_comm, Int.mul_assoc]
  · have := Int.mul_le_mul h2 (show (1 : Int) ≤ (x.natAbs : Int) by omega) (by omega) (by omega)
    omega
theorem cor_cor {n : Int} (hn : n ≠ 0) : cor (cor n) = cor n := ((cor_eq (cor_nz hn) (isCore_self (cor_core hn).2.2)).1).symm
theorem rt_cor {n : Int} (hn : n ≠ 0) : rt (cor n) = 1 := ((cor_eq (cor_nz hn) (isCore_self (cor_core hn).2.2)).2).symm
theorem cor_mul {a b : Int} (ha : a ≠ 0) (hb : b ≠ 0) : cor (cor a * b) = cor (a * b) := by
  obtain ⟨h1, h2, h3⟩ := cor_core ha
  have hr : rt a ≠ 0 := by omega
  rw [← cor_sq (x := rt a) (Int.mul_ne_zero (cor_nz ha) hb) hr]
  congr 1
  rw [Int.mul_right_comm, ← h1]
theorem cor_mul_right {a b : Int} (ha : a ≠ 0) (hb : b ≠ 0) : cor (a * cor b) = cor (a * b) := by rw [Int.mul_comm, cor_mul hb ha, Int.mul_comm]
theorem cor_cancel {a b t : Int} (ha : a ≠ 0) (hb : b ≠ 0) (ht : t ≠ 0) : cor (a * t) = cor (b * t) ↔ cor a = cor b := by
  constructor
  · intro h
    have e : ∀ c : Int, c ≠ 0 → cor c = cor (cor (c * t) * t) := fun c hc => by
      rw [cor_mul (Int.mul_ne_zero hc ht) ht, Int.mul_assoc, cor_sq hc ht]
    rw [e a ha, e b hb, h]
  · intro h
    rw [← cor_mul ha ht, ← cor_mul hb ht, h]
/-- Numbers of one core are alike at all places. -/
theorem cor_same {p a b : Int} (hp : Pl p) (ha : a ≠ 0) (hb : b ≠ 0) (h : cor a = cor b) : Lk p a b := by
  have h1 := cor_lk hp ha
  rw [h] at h1
  exact h1.trans hp (cor_lk hp hb).symm
theorem cor_prod : ∀ {l : List Int} (n : Int), n ≠ 0 → Nz l → cor (prod (l.map fun t => cor (t * n))) = if l.length % 2 = 0 then cor (prod l) else cor (n * prod l)
  | [], _, _, _ => rfl
  | t :: l, n, hn, h => by
    obtain ⟨h1, h2⟩ := Nz.cons.1 h
    have ih := cor_prod n hn h2
    have hm : Nz (l.map fun t => cor (t * n)) := fun x hx => by
      obtain ⟨s, hs, rfl⟩ := List.mem_map.1 hx
      exact cor_nz (Int.mul_ne_zero (h2 s hs) hn)
    have htn := Int.mul_ne_zero h1 hn
    have hP := prod_nz h2
    simp only [List.map_cons, prod, List.length_cons]
    rw [cor_mul htn (prod_nz hm), ← cor_mul_right htn (prod_nz hm), ih]
    by_cases c : l.length % 2 = 0
    · rw [if_pos c, if_neg (by omega), cor_mul_right htn hP]
      congr 1
      simp only [Int.mul_left_comm, Int.mul_assoc]
    · rw [if_neg c, if_pos (by omega), cor_mul_right htn (Int.mul_ne_zero hn hP), ← cor_sq (x := n) (Int.mul_ne_zero h1 hP) hn]
      congr 1
      simp only [Int.mul_comm, Int.mul_left_comm, Int.mul_assoc]
/-- A form and the cores of its terms times n. -/
theorem lks_cor {p n : Int} (hp : Pl p) (hn : n ≠ 0) : ∀ {l : List Int}, Nz l → Lks p (l.map (n * ·)) (l.map fun t => cor (t * n))
  | [], _ => .nil
  | t :: l, h => by
    obtain ⟨h1, h2⟩ := Nz.cons.1 h
    refine .cons ?_ (lks_cor hp hn h2)
    show Lk p (n * t) (cor (t * n))
    rw [Int.mul_comm n t]
    exact cor_lk hp (Int.mul_ne_zero h1 hn)
theorem van_times {p n : Int} (hp : Pl p) (hn : n ≠ 0) {l : List Int} (h : Nz l) : van p (l.map fun t => cor (t * n)) = van p l := by
  rw [← (lks_cor hp hn h).van hp, van_scale hp hn h]
end Go.Proofs.Ytdeahlommlgceaa.Nt

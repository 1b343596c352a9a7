/- The core of a number as a function. -/
import Derived.Test.YtkbklmlahnjcmaaNtK
namespace Go.Proofs.Ytkbklmlahnjcmaa.Nt

theorem cor_lk {p n : Int} (hp : Pl p) (hn : n ≠ 0) : Lk p n (cor n) := (cor_core hn).lk hp hn
/-- Numbers of one core are alike at all places. -/
theorem cor_same {p a b : Int} (hp : Pl p) (ha : a ≠ 0) (hb : b ≠ 0) (h : cor a = cor b) : Lk p a b := by
  have h1 := cor_lk hp ha
  rw [h] at h1
  exact h1.trans hp (cor_lk hp hb).symm
theorem cor_prod : ∀ {l : List Int} (n : Int), n ≠ 0 → Nz l → cor (prod (l.map fun t => cor (t * n))) = if l.length % 2 = 0 then cor (prod l) else cor (n * prod l)
  | [], _, _, _ => rfl
  | t :: l, n, hn, h => by
    obtain ⟨h1, h2⟩ := Nz.cons.1 h
    have ih := cor_prod n hn h2
    have hm : Nz (l.map fun t => cor (t * n)) := fun x hx => by
      obtain ⟨s, hs, rfl⟩ := List.mem_map.1 hx
      exact cor_nz (Int.mul_ne_zero (h2 s hs) hn)
    have htn := Int.mul_ne_zero h1 hn
    have hP := prod_nz h2
    simp only [List.map_cons, prod, List.length_cons]
    rw [cor_mul htn (prod_nz hm), ← cor_mul_right htn (prod_nz hm), ih]
    by_cases c : l.length % 2 = 0
    · rw [if_pos c, if_neg (by omega), cor_mul_right htn hP]
      congr 1
      simp only [Int.mul_left_comm, Int.mul_assoc]
    · rw [if_neg c, if_pos (by omega), cor_mul_right htn (Int.mul_ne_zero hn hP), ← cor_sq (x := n) (Int.mul_ne_zero h1 hP) hn]
      congr 1
      simp only [Int.mul_comm, Int.mul_left_comm, Int.mul_assoc]
/-- A form and the cores of its terms times n. -/
theorem lks_cor {p n : Int} (hp : Pl p) (hn : n ≠ 0) : ∀ {l : List Int}, Nz l → Lks p (l.map (n * ·)) (l.map fun t => cor (t * n))
  | [], _ => .nil
  | t :: l, h => by
    obtain ⟨h1, h2⟩ := Nz.cons.1 h
    refine .cons ?_ (lks_cor hp hn h2)
    show Lk p (n * t) (cor (t * n))
    rw [Int.mul_comm n t]
    exact cor_lk hp (Int.mul_ne_zero h1 hn)
theorem van_times {p n : Int} (hp : Pl p) (hn : n ≠ 0) {l : List Int} (h : Nz l) : van p (l.map fun t => cor (t * n)) = van p l := by
  rw [← (lks_cor hp hn h).van hp, van_scale hp hn h]
end Go.Proofs.Ytkbklmlahnjcmaa.Nt

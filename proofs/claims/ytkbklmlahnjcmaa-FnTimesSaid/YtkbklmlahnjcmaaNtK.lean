/- Forms: what vanishes, joined, scaled, and over all places. -/
import Derived.Test.YtkbklmlahnjcmaaNtJ
namespace Go.Proofs.Ytkbklmlahnjcmaa.Nt

theorem pm3 {x y z u : Int} (hx : x = 1 ∨ x = -1) (hy : y = 1 ∨ y = -1) : y * z * (x * y * u) = x * (z * u) := by
  rcases hx with rfl | rfl <;> rcases hy with rfl | rfl <;> simp [Int.neg_mul, Int.mul_neg]
theorem inv_two {p n b c : Int} (hp : Pl p) (hn : n ≠ 0) (hb : b ≠ 0) (hc : c ≠ 0) : inv p [n * b, n * c] = hil n n p * hil n (b * c) p * inv p [b, c] := by
  simp only [inv, prod, Int.mul_one, hil_one_right hp (Int.mul_ne_zero hn hc), hil_one_right hp hc]
  rw [hil_mul hp hn hb (Int.mul_ne_zero hn hc), hil_mul_right hp hn hn hc, hil_mul_right hp hb hn hc, hil_mul_right hp hn hb hc, hil_comm (a := b) (b := n)]
  simp only [Int.mul_left_comm, Int.mul_assoc]
theorem inv_cons (p t : Int) (l : List Int) : inv p (t :: l) = hil t (prod l) p * inv p l := rfl
theorem inv_three {p n t b c : Int} (hp : Pl p) (hn : n ≠ 0) (ht : t ≠ 0) (hb : b ≠ 0) (hc : c ≠ 0) : inv p [n * t, n * b, n * c] = hil n n p * inv p [t, b, c] := by
  have hl : Nz [b, c] := Nz.cons.2 ⟨hb, Nz.cons.2 ⟨hc, Nz.nil⟩⟩
  have h2 := (inv_scale (p := p) hp hn hl).2 (by simp)
  have e : prod [b, c] = b * c := by simp [prod]
  rw [inv_cons p (n * t), inv_cons p t, inv_two hp hn hb hc]
  rw [show prod [n * b, n * c] = prod ([b, c].map (n * ·)) from rfl, h2.hilr hp (Int.mul_ne_zero hn ht), e, hil_mul hp hn ht (Int.mul_ne_zero hb hc)]
  exact pm3 (hil_pm hp hn hn) (hil_pm hp hn (Int.mul_ne_zero hb hc))
theorem pm4 {x y z u v : Int} (hx : x = 1 ∨ x = -1) : x * y * (z * u) * (x * v) = z * y * (u * v) := by
  rcases hx with rfl | rfl <;> simp [Int.mul_neg, Int.mul_comm, Int.mul_left_comm]
theorem inv_four {p n s t b c : Int} (hp : Pl p) (hn : n ≠ 0) (hs : s ≠ 0) (ht : t ≠ 0) (hb : b ≠ 0) (hc : c ≠ 0) : inv p [n * s, n * t, n * b, n * c] = hil n (prod [s, t, b, c]) p * inv p [s, t, b, c] := by
  have hl : Nz [t, b, c] := Nz.cons.2 ⟨ht, Nz.cons.2 ⟨hb, Nz.cons.2 ⟨hc, Nz.nil⟩⟩⟩
  have h1 := (inv_scale (p := p) hp hn hl).1 (by simp)
  rw [inv_cons, inv_cons p s, inv_three hp hn ht hb hc]
  rw [show prod [n * t, n * b, n * c] = prod ([t, b, c].map (n * ·)) from rfl, h1.hilr hp (Int.mul_ne_zero hn hs)]
  rw [hil_mul hp hn hs (Int.mul_ne_zero hn (prod_nz hl)), hil_mul_right hp hn hn (prod_nz hl), hil_mul_right hp hs hn (prod_nz hl)]
  rw [show prod [s, t, b, c] = s * prod [t, b, c] from rfl, hil_mul_right hp hn hs (prod_nz hl), hil_comm (a := s) (b := n)]
  exact pm4 (hil_pm hp hn hn)
theorem ng_scale_pos {n : Int} (hn : 0 < n) : ∀ l : List Int, ng (l.map (n * ·)) = ng l
  | [] => rfl
  | t :: l => by
    have : (n * t < 0) ↔ t < 0 := by
      constructor
      · intro h
        by_cases c : t < 0
        · exact c
        · have := Int.mul_nonneg (show (0 : Int) ≤ n by omega) (show (0 : Int) ≤ t by omega); omega
      · exact fun h => Int.mul_neg_of_pos_of_neg hn h
    simp only [List.map_cons, ng, ng_scale_pos hn l, this]
theorem ng_scale_neg {n : Int} (hn : n < 0) : ∀ {l : List Int}, Nz l → ng (l.map (n * ·)) + ng l = l.length
  | [], _ => rfl
  | t :: l, h => by
    obtain ⟨h1, h2⟩ := Nz.cons.1 h
    have ih := ng_scale_neg hn h2
    have : (n * t < 0) ↔ ¬ t < 0 := by
      constructor
      · intro h
        by_cases c : t < 0
        · have := Int.mul_pos_of_neg_of_neg hn c; omega
        · exact c
      · exact fun h => Int.mul_neg_of_neg_of_pos hn (by omega)
    simp only [List.map_cons, ng, List.length_cons]
    by_cases c : t < 0
    · rw [if_neg (fun e => this.1 e c), if_pos c]; omega
    · rw [if_pos (this.2 c), if_neg c]; omega
/-- Times a number, a form vanishes at the same places. -/
theorem van_scale {p n : Int} (hp : Pl p) (hn : n ≠ 0) {l : List Int} (h : Nz l) : van p (l.map (n * ·)) = van p l := by
  unfold van
  by_cases c : p = 0
  · rw [if_pos c, if_pos c, List.length_map]
    rcases (by omega : n < 0 ∨ 0 < n) with k | k
    · have := ng_scale_neg k h
      rw [decide_eq_decide]; omega
    · rw [ng_scale_pos k]
  · rw [if_neg c, if_neg c, List.length_map]
    by_cases e2 : l.length = 2
    · rw [if_pos e2, if_pos e2]
      exact (lk_neg hp ((inv_scale hp hn h).2 (by omega))).lsq hp
    · rw [if_neg e2, if_neg e2]
      by_cases e3 : l.length = 3
      · rw [if_pos e3, if_pos e3]
        obtain ⟨a, b, d, rfl⟩ : ∃ a b d, l = [a, b, d] := by
          match l, e3 with
          | [a, b, d], _ => exact ⟨a, b, d, rfl⟩
        have ha := h a (by simp)
        have hb := h b (by simp)
        have hd := h d (by simp)
        have h1 := lk_neg hp ((inv_scale (p := p) hp hn h).1 (by simp))
        rw [h1.hilr hp (by omega), show [a, b, d].map (n * ·) = [n * a, n * b, n * d] from rfl, inv_three hp hn ha hb hd]
        have hP := prod_nz h
        rw [show -(n * prod [a, b, d]) = n * -prod [a, b, d] by rw [Int.mul_neg], hil_mul_right hp (by omega) hn (by omega), hil_self hp hn, hil_comm (a := n)]
        have := hil_pm (p := p) (a := -1) (b := n) hp (by omega) hn
        rcases this with e | e <;> rw [e]
        · simp only [Int.one_mul]
        · simp only [Int.neg_mul, Int.one_mul]
          rw [Bool.eq_iff_iff, beq_iff_eq, beq_iff_eq]
          omega
      · rw [if_neg e3, if_neg e3]
        by_cases e4 : l.length = 4
        · rw [if_pos e4, if_pos e4]
          have h1 := (inv_scale (p := p) hp hn h).2 (by omega)
          rw [h1.lsq hp]
          by_cases k : lsq (prod l) p = true
          · obtain ⟨a, b, d, e, rfl⟩ : ∃ a b d e, l = [a, b, d, e] := by
              match l, e4 with
              | [a, b, d, e], _ => exact ⟨a, b, d, e, rfl⟩
            have ha := h a (by simp)
            have hb := h b (by simp)
            have hd := h d (by simp)
            have he := h e (by simp)
            rw [show [a, b, d, e].map (n * ·) = [n * a, n * b, n * d, n * e] from rfl, inv_four hp hn ha hb hd he, hil_comm, hil_lsq hp (prod_nz h) hn k, Int.one_mul]
          · have : lsq (prod l) p = false := by simpa using k
            rw [this]; rfl
        · rw [if_neg e4, if_neg e4]
theorem ng_app : ∀ a b : List Int, ng (a ++ b) = ng a + ng b
  | [], b => by simp [ng]
  | t :: a, b => by
    have := ng_app a b
    simp only [List.cons_append, ng]
    split <;> omega
/-- What vanishes vanishes with one term more. -/
theorem van_snoc {p t : Int} (hp : Pl p) {l : List Int} (h : Nz l) (ht : 0 < t) (hl : l.length ≤ 3) (hv : van p l = true) : van p (l ++ [t]) = true := by
  have ht' : t ≠ 0 := by omega
  have hN := prod_nz h
  have eP : prod (l ++ [t]) = prod l * t := by rw [prod_app]; simp [prod]
  unfold van at hv ⊢
  by_cases c : p = 0
  · rw [if_pos c] at hv ⊢
    rw [ng_app, List.length_append]
    have e1 : ng [t] = 0 := by unfold ng; rw [if_neg (by omega)]; rfl
    simp only [decide_eq_true_eq, e1, List.length_cons, List.length_nil] at hv ⊢
    omega
  · rw [if_neg c] at hv ⊢
    by_cases e2 : l.length = 2
    · rw [if_pos e2] at hv
      rw [if_neg (by simp; omega), if_pos (by simp; omega)]
      obtain ⟨a, b, rfl⟩ : ∃ a b, l = [a, b] := by
        match l, e2 with
        | [a, b], _ => exact ⟨a, b, rfl⟩
      have ha := h a (by simp)
      have hb := h b (by simp)
      rw [beq_iff_eq, inv_snoc hp h ht', eP]
      have hab : Lk p (prod [a, b]) (-1) := by
        have := lk_neg hp ((lk_one (p := p) (a := -prod [a, b]) (by omega)).2 hv)
        simpa using this
      have e1 : inv p [a, b] = 1 := by
        have h1 : Lk p b (-a) := by
          have := (Lk.refl (p := p) hp ha).mul hp hab
          have h3 : a * prod [a, b] = b * (a * a) := by simp only [prod, Int.mul_one]; simp only [Int.mul_comm, Int.mul_left_comm]
          rw [h3] at this
          have := (lk_sq hp hb ha).symm.trans hp this
          simpa using this
        simp only [inv, prod, Int.mul_one, hil_one_right hp hb]
        rw [h1.hilr hp ha, hil_neg hp ha]
      rw [e1, Int.one_mul, hab.hil hp ht']
      have h2 := (lk_neg hp hab).mul hp (Lk.refl (p := p) hp ht')
      rw [Int.neg_mul] at h2
      rw [h2.hilr hp (by omega)]
      simp
    · rw [if_neg e2] at hv
      by_cases e3 : l.length = 3
      · rw [if_pos e3] at hv
        rw [if_neg (by simp; omega), if_neg (by simp; omega), if_pos (by simp; omega), eP]
        by_cases k : lsq (prod l * t) p = true
        · have hk : Lk p t (prod l) := by
            have := (Lk.symm ⟨hN, ht', k⟩)
            exact this
          rw [k, inv_snoc hp h ht', hk.hilr hp hN]
          rw [beq_iff_eq] at hv
          rw [hv, hil_self hp hN, hil_comm (a := prod l), ← hil_mul_right hp (by omega) (by omega) hN]
          have := lk_sq (p := p) (a := -1) (x := prod l) hp (by omega) hN
          rw [show -1 * (prod l * prod l) = -prod l * prod l by rw [Int.neg_mul, Int.neg_mul, Int.one_mul]] at this
          rw [this.hilr hp (by omega)]
          simp
        · have : lsq (prod l * t) p = false := by simpa using k
          rw [this]; rfl
      · rw [if_neg e3, if_neg (by omega)] at hv
        cases hv
end Go.Proofs.Ytkbklmlahnjcmaa.Nt

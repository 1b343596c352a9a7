/- Forms: products and invariants of lists of terms. -/
import Derived.Test.YtkbklmlahnjcmaaNtD
import Derived.Test.YtkbklmlahnjcmaaNtF
import Derived.Test.YtkbklmlahnjcmaaNtI
namespace Go.Proofs.Ytkbklmlahnjcmaa.Nt

/-- The product of the symbols of all pairs. -/
def inv (p : Int) : List Int → Int
  | [] => 1
  | t :: l => hil t (prod l) p * inv p l
/-- No term is 0. -/
def Nz (l : List Int) : Prop := ∀ t ∈ l, t ≠ 0
theorem Nz.nil : Nz [] := fun _ h => by simp at h
theorem Nz.cons {t : Int} {l : List Int} : Nz (t :: l) ↔ t ≠ 0 ∧ Nz l := by unfold Nz; simp
theorem Nz.app {a b : List Int} : Nz (a ++ b) ↔ Nz a ∧ Nz b := by
  unfold Nz
  constructor
  · intro h
    exact ⟨fun t ht => h t (by simp [ht]), fun t ht => h t (by simp [ht])⟩
  · intro h t ht
    rcases List.mem_append.1 ht with h' | h'
    · exact h.1 t h'
    · exact h.2 t h'
theorem prod_nz : ∀ {l : List Int}, Nz l → prod l ≠ 0
  | [], _ => by simp [prod]
  | t :: l, h => Int.mul_ne_zero (Nz.cons.1 h).1 (prod_nz (Nz.cons.1 h).2)
theorem prod_app : ∀ (a b : List Int), prod (a ++ b) = prod a * prod b
  | [], b => by simp [prod]
  | t :: a, b => by simp only [List.cons_append, prod, prod_app a b, Int.mul_assoc]
theorem prod_rev : ∀ l : List Int, prod l.reverse = prod l
  | [] => rfl
  | t :: l => by simp only [List.reverse_cons, prod_app, prod, prod_rev l, Int.mul_one, Int.mul_comm]
theorem inv_pm {p : Int} (hp : Pl p) : ∀ {l : List Int}, Nz l → inv p l = 1 ∨ inv p l = -1
  | [], _ => .inl rfl
  | t :: l, h => by
    obtain ⟨h1, h2⟩ := Nz.cons.1 h
    unfold inv
    rcases hil_pm (p := p) hp h1 (prod_nz h2) with e | e <;> rcases inv_pm hp h2 with f | f <;> rw [e, f] <;> simp
theorem hil_one_right {b p : Int} (hp : Pl p) (hb : b ≠ 0) : hil b 1 p = 1 := by rw [hil_comm, hil_one hp hb]
theorem inv_app {p : Int} (hp : Pl p) : ∀ {a b : List Int}, Nz a → Nz b → inv p (a ++ b) = inv p a * inv p b * hil (prod a) (prod b) p
  | [], b, _, hb => by simp [inv, prod, hil_one hp (prod_nz hb)]
  | t :: a, b, ha, hb => by
    obtain ⟨h1, h2⟩ := Nz.cons.1 ha
    have ih := inv_app hp h2 hb
    simp only [List.cons_append, inv, prod, prod_app, ih]
    rw [hil_mul_right hp h1 (prod_nz h2) (prod_nz hb), hil_mul hp h1 (prod_nz h2) (prod_nz hb)]
    simp only [Int.mul_comm, Int.mul_left_comm, Int.mul_assoc]
theorem inv_one (p t : Int) (hp : Pl p) (ht : t ≠ 0) : inv p [t] = 1 := by simp [inv, prod, hil_one_right hp ht]
theorem inv_snoc {p t : Int} {a : List Int} (hp : Pl p) (ha : Nz a) (ht : t ≠ 0) : inv p (a ++ [t]) = inv p a * hil (prod a) t p := by
  rw [inv_app hp ha (Nz.cons.2 ⟨ht, Nz.nil⟩), inv_one p t hp ht]
  simp [prod]
theorem Nz.rev {l : List Int} (h : Nz l) : Nz l.reverse := fun t ht => h t (by simpa using ht)
theorem inv_rev {p : Int} (hp : Pl p) : ∀ {l : List Int}, Nz l → inv p l.reverse = inv p l
  | [], _ => rfl
  | t :: l, h => by
    obtain ⟨h1, h2⟩ := Nz.cons.1 h
    rw [List.reverse_cons, inv_snoc hp h2.rev h1, inv_rev hp h2, prod_rev]
    show _ = hil t (prod l) p * inv p l
    rw [hil_comm, Int.mul_comm]
/-- Alike up to squares at p. -/
def Lk (p a b : Int) : Prop := a ≠ 0 ∧ b ≠ 0 ∧ lsq (a * b) p = true
theorem Lk.refl {p a : Int} (hp : Pl p) (ha : a ≠ 0) : Lk p a a := ⟨ha, ha, lsq_sq hp ha⟩
theorem Lk.symm {p a b : Int} (h : Lk p a b) : Lk p b a := ⟨h.2.1, h.1, by rw [Int.mul_comm]; exact h.2.2⟩
theorem Lk.hil {p a b c : Int} (hp : Pl p) (h : Lk p a b) (hc : c ≠ 0) : hil a c p = hil b c p := (hil_name hp h.1 h.2.1 hc h.2.2).symm
theorem Lk.hilr {p a b c : Int} (hp : Pl p) (h : Lk p a b) (hc : c ≠ 0) : Nt.hil c a p = Nt.hil c b p := by rw [hil_comm, h.hil hp hc, hil_comm]
theorem Lk.lsq {p a b : Int} (hp : Pl p) (h : Lk p a b) : lsq a p = lsq b p := by
  have h1 := lsq_mul_right hp h.1 (Int.mul_ne_zero h.1 h.2.1) h.2.2
  have h2 := lsq_mul_right (a := b) hp h.2.1 (Int.mul_ne_zero h.1 h.1) (lsq_sq hp h.1)
  rw [← h1, ← h2]
  congr 1
  simp only [Int.mul_comm, Int.mul_left_comm]
theorem Lk.mul {p a b c d : Int} (hp : Pl p) (h : Lk p a b) (h' : Lk p c d) : Lk p (a * c) (b * d) := by
  refine ⟨Int.mul_ne_zero h.1 h'.1, Int.mul_ne_zero h.2.1 h'.2.1, ?_⟩
  have : a * c * (b * d) = a * b * (c * d) := by rw [Int.mul_assoc, Int.mul_assoc, Int.mul_left_comm c b d]
  rw [this, lsq_mul_right hp (Int.mul_ne_zero h.1 h.2.1) (Int.mul_ne_zero h'.1 h'.2.1) h'.2.2]
  exact h.2.2
theorem Lk.trans {p a b c : Int} (hp : Pl p) (h : Lk p a b) (h' : Lk p b c) : Lk p a c := by
  refine ⟨h.1, h'.2.1, ?_⟩
  have hb := h'.1
  rw [← lsq_mul_right (a := a * c) (b := b * b) hp (Int.mul_ne_zero h.1 h'.2.1) (Int.mul_ne_zero hb hb) (lsq_sq hp hb)]
  have : a * c * (b * b) = a * b * (b * c) := by simp only [Int.mul_comm, Int.mul_left_comm]
  rw [this, lsq_mul_right hp (Int.mul_ne_zero h.1 hb) (Int.mul_ne_zero hb h'.2.1) h'.2.2]
  exact h.2.2
theorem lk_one {p a : Int} (ha : a ≠ 0) : Lk p a 1 ↔ lsq a p = true := ⟨fun h => by simpa using h.2.2, fun h => ⟨ha, by omega, by simpa using h⟩⟩
theorem lk_sq {p a x : Int} (hp : Pl p) (ha : a ≠ 0) (hx : x ≠ 0) : Lk p (a * (x * x)) a := by
  refine ⟨Int.mul_ne_zero ha (Int.mul_ne_zero hx hx), ha, ?_⟩
  have : a * (x * x) * a = (a * x) * (a * x) := by simp only [Int.mul_comm, Int.mul_left_comm]
  rw [this]
  exact lsq_sq hp (Int.mul_ne_zero ha hx)
theorem IsCore.lk {n c r p : Int} (hp : Pl p) (hn : n ≠ 0) (h : IsCore n c r) : Lk p n c := by
  have := lk_sq (p := p) (x := r) hp (h.nz hn) (by have := h.2.1; omega)
  rw [← h.1] at this
  exact this
/-- Terms alike give products and invariants alike. -/
inductive Lks (p : Int) : List Int → List Int → Prop
  | nil : Lks p [] []
  | cons {a b : Int} {l m : List Int} : Lk p a b → Lks p l m → Lks p (a :: l) (b :: m)
theorem Lks.nz {p : Int} {l m : List Int} (h : Lks p l m) : Nz l ∧ Nz m := by
  induction h with
  | nil => exact ⟨Nz.nil, Nz.nil⟩
  | cons h _ ih => exact ⟨Nz.cons.2 ⟨h.1, ih.1⟩, Nz.cons.2 ⟨h.2.1, ih.2⟩⟩
theorem Lks.len {p : Int} {l m : List Int} (h : Lks p l m) : l.length = m.length := by
  induction h with
  | nil => rfl
  | cons _ _ ih => simp [ih]
theorem Lks.prod {p : Int} (hp : Pl p) {l m : List Int} (h : Lks p l m) : Lk p (prod l) (prod m) := by
  induction h with
  | nil => exact Lk.refl hp (by simp [Nt.prod])
  | cons h _ ih => exact h.mul hp ih
theorem Lks.inv {p : Int} (hp : Pl p) {l m : List Int} (h : Lks p l m) : inv p l = inv p m := by
  induction h with
  | nil => rfl
  | cons h t ih =>
    unfold Nt.inv
    rw [ih, h.hil hp (t.prod hp).1, (t.prod hp).hilr hp h.2.1]
/-- How many terms are less than 0. -/
def ng : List Int → Nat
  | [] => 0
  | t :: l => if t < 0 then ng l + 1 else ng l
theorem ng_le : ∀ l : List Int, ng l ≤ l.length
  | [] => by simp [ng]
  | t :: l => by have := ng_le l; unfold ng; split <;> simp <;> omega
theorem mul_pos_sign {a b : Int} (ha : a ≠ 0) (hb : b ≠ 0) : 0 < a * b ↔ (a < 0 ↔ b < 0) := by
  rcases (by omega : a < 0 ∨ 0 < a) with h | h <;> rcases (by omega : b < 0 ∨ 0 < b) with k | k
  · have := Int.mul_pos_of_neg_of_neg h k; omega
  · have := Int.mul_neg_of_neg_of_pos h k; omega
  · have := Int.mul_neg_of_pos_of_neg h k; omega
  · have := Int.mul_pos h k; omega
theorem lk_zero {a b : Int} : Lk 0 a b ↔ a ≠ 0 ∧ b ≠ 0 ∧ (a < 0 ↔ b < 0) := by
  unfold Lk Nt.lsq
  simp only [if_true, decide_eq_true_eq]
  constructor
  · rintro ⟨h1, h2, h3⟩
    exact ⟨h1, h2, (mul_pos_sign h1 h2).1 h3⟩
  · rintro ⟨h1, h2, h3⟩
    exact ⟨h1, h2, (mul_pos_sign h1 h2).2 h3⟩
theorem Lks.ng {l m : List Int} (h : Lks 0 l m) : ng l = ng m := by
  induction h with
  | nil => rfl
  | @cons a b _ _ h _ ih =>
    have := (lk_zero.1 h).2.2
    unfold Nt.ng
    rw [ih]
    by_cases c : a < 0
    · rw [if_pos c, if_pos (this.1 c)]
    · rw [if_neg c, if_neg (fun e => c (this.2 e))]
/-- Does a form of 1 to 4 terms vanish at p? -/
def van (p : Int) (l : List Int) : Bool :=
  if p = 0 then decide (0 < ng l ∧ ng l < l.length)
  else if l.length = 2 then lsq (-prod l) p
  else if l.length = 3 then inv p l == hil (-1) (-prod l) p
  else if l.length = 4 then !lsq (prod l) p || inv p l == hil (-1) (-1) p
  else false
theorem lk_neg {p a b : Int} (hp : Pl p) (h : Lk p a b) : Lk p (-a) (-b) := by
  have := (Lk.refl (p := p) (a := -1) hp (by omega)).mul hp h
  simpa using this
theorem Lks.van {p : Int} (hp : Pl p) {l m : List Int} (h : Lks p l m) : van p l = van p m := by
  have h1 := h.len
  have h3 := h.inv hp
  have h4 := h.prod hp
  unfold Nt.van
  by_cases c : p = 0
  · subst c
    rw [if_pos rfl, if_pos rfl, h.ng, h1]
  · rw [if_neg c, if_neg c, h1, h3, (lk_neg hp h4).lsq hp, (lk_neg hp h4).hilr hp (by omega), h4.lsq hp]
/-- The prime 2, the place 0 and the primes of terms apart, nothing happens. -/
theorem prod_unit {p : Int} (hp : Pr p) : ∀ {l : List Int}, (∀ t ∈ l, ¬ p ∣ t) → ¬ p ∣ prod l
  | [], _ => hp.not_dvd_one
  | t :: l, h => fun e => (hp.dvd_mul e).elim (h t (by simp)) (prod_unit hp (fun s hs => h s (by simp [hs])))
theorem inv_unit {p : Int} (hp : Pr p) (h2 : p ≠ 2) : ∀ {l : List Int}, (∀ t ∈ l, ¬ p ∣ t) → inv p l = 1
  | [], _ => rfl
  | t :: l, h => by
    have hl : ∀ s ∈ l, ¬ p ∣ s := fun s hs => h s (by simp [hs])
    unfold inv
    rw [hil_unit hp h2 (h t (by simp)) (prod_unit hp hl), inv_unit hp h2 hl]
    rfl
/-- A form times a number. -/
theorem inv_scale {p n : Int} (hp : Pl p) (hn : n ≠ 0) : ∀ {l : List Int}, Nz l → (l.length % 2 = 1 → Lk p (prod (l.map (n * ·))) (n * prod l)) ∧ (l.length % 2 = 0 → Lk p (prod (l.map (n * ·))) (prod l))
  | [], _ => ⟨fun h => by simp at h, fun _ => Lk.refl hp (by simp [prod])⟩
  | t :: l, h => by
    obtain ⟨h1, h2⟩ := Nz.cons.1 h
    obtain ⟨i1, i2⟩ := inv_scale hp hn h2
    have hnt := Lk.refl (p := p) hp (Int.mul_ne_zero hn h1)
    refine ⟨fun e => ?_, fun e => ?_⟩
    · have := hnt.mul hp (i2 (by simp at e; omega))
      simpa only [List.map_cons, prod, Int.mul_assoc] using this
    · have := hnt.mul hp (i1 (by simp at e; omega))
      refine (show Lk p (prod ((t :: l).map (n * ·))) (t * prod l * (n * n)) from ?_).trans hp (lk_sq hp (prod_nz h) hn)
      have e2 : t * prod l * (n * n) = n * t * (n * prod l) := by
        simp only [Int.mul_comm, Int.mul_left_comm, Int.mul_assoc]
      rw [e2]
      exact this
end Go.Proofs.Ytkbklmlahnjcmaa.Nt

/- Forms of three terms with zeros up to a high power of 2 or of 3 vanish there. -/
import Derived.Test.YtdeahlommlgceaaNtH
import Derived.Test.YtdeahlommlgceaaNtK
namespace Go.Proofs.Ytdeahlommlgceaa.Nt

/-- Three terms, by the symbol of the form divided by its last term. -/
theorem van3_of {p a b c : Int} (hp : Pr p) (ha : a ≠ 0) (hb : b ≠ 0) (hc : c ≠ 0) (h : hil (-(a * c)) (-(b * c)) p = 1) : van p [a, b, c] = true := by
  have hq : Pl p := .inr hp
  have h1 : (-1 : Int) ≠ 0 := by omega
  have hbc := Int.mul_ne_zero hb hc
  have hac := Int.mul_ne_zero ha hc
  have e1 : -(a * c) = (-1) * (a * c) := by omega
  have e2 : -(b * c) = (-1) * (b * c) := by omega
  have hX : (-1) * (b * c) ≠ 0 := Int.mul_ne_zero h1 hbc
  rw [e1, e2, hil_mul hq h1 hac hX, hil_mul hq ha hc hX, hil_mul_right hq h1 h1 hbc, hil_mul_right hq ha h1 hbc, hil_mul_right hq hc h1 hbc, hil_mul_right hq h1 hb hc, hil_mul_right hq ha hb hc, hil_mul_right hq hc hb hc, hil_self hq hc, hil_comm (a := a) (b := -1), hil_comm (a := c) (b := -1), hil_comm (a := c) (b := b)] at h
  have hp0 : p ≠ 0 := by have := hp.1; omega
  unfold van
  rw [if_neg hp0, if_neg (by simp), if_pos (by simp)]
  have e3 : -prod [a, b, c] = (-1) * (a * (b * c)) := by simp [prod]
  have e4 : inv p [a, b, c] = hil a b p * hil a c p * hil b c p := by
    simp only [inv, prod, Int.mul_one]
    rw [hil_mul_right hq ha hb hc, hil_one_right hq hc]
    simp [Int.mul_assoc]
  rw [e3, e4, hil_mul_right hq h1 h1 (Int.mul_ne_zero ha hbc), hil_mul_right hq h1 ha hbc, hil_mul_right hq h1 hb hc, beq_iff_eq]
  have A := hil_pm hq ha hb
  have B := hil_pm hq ha hc
  have C := hil_pm hq hb hc
  have D := hil_pm hq h1 ha
  have E := hil_pm hq h1 hb
  have F := hil_pm hq h1 hc
  have G := hil_pm hq h1 h1
  have P : ∀ {x y : Int}, (x = 1 ∨ x = -1) → (y = 1 ∨ y = -1) → (x * y = 1 ∨ x * y = -1) := by
    intro x y hx hy
    rcases hx with rfl | rfl <;> rcases hy with rfl | rfl <;> decide
  have PP := P (P A B) C
  have QQ := P G (P D (P E F))
  have FF := pm_sq F
  generalize hil a b p = A' at *
  generalize hil a c p = B' at *
  generalize hil b c p = C' at *
  generalize hil (-1) a p = D' at *
  generalize hil (-1) b p = E' at *
  generalize hil (-1) c p = F' at *
  generalize hil (-1) (-1) p = G' at *
  have key : (A' * B' * C') * (G' * (D' * (E' * F'))) * (F' * F') = 1 := by rw [← h]; grind
  rw [FF, Int.mul_one] at key
  rcases PP with e | e <;> rcases QQ with e' | e' <;> rw [e, e'] at key ⊢ <;> simp at key

/-- Zeros up to M. -/
def S3 (a b c p M : Int) : Prop := ∃ x y z : Int, ¬ (p ∣ x ∧ p ∣ y ∧ p ∣ z) ∧ M ∣ a * x * x + b * y * y + c * z * z
/-- The two high powers. -/
def HM (p M : Int) : Prop := (p = 3 ∧ M = 27) ∨ (p = 2 ∧ M = 32)
theorem pr3' : Pr 3 := ⟨by omega, fun m h1 h2 => by
  have := Int.le_of_dvd (by omega) h2
  rcases (by omega : m = 2 ∨ m = 3) with rfl | rfl
  · omega
  · rfl⟩
theorem HM.pr {p M : Int} (h : HM p M) : Pr p := by
  rcases h with ⟨rfl, _⟩ | ⟨rfl, _⟩
  · exact pr3'
  · exact pr2
theorem HM.dvd {p M : Int} (h : HM p M) : 0 < M ∧ p ∣ M := by
  rcases h with ⟨rfl, rfl⟩ | ⟨rfl, rfl⟩ <;> exact ⟨by omega, by omega⟩
theorem HM.hil {p M A B : Int} (h : HM p M) (ha : ¬ p * p ∣ A) (hb : ¬ p * p ∣ B) (e : Ex A B p M) : hil A B p = 1 := by
  rcases h with ⟨rfl, rfl⟩ | ⟨rfl, rfl⟩
  · exact high3 (by simpa using ha) (by simpa using hb) e
  · exact high2 (by simpa using ha) (by simpa using hb) e
theorem sq_unit {p a c : Int} (hp : Pr p) (hc : ¬ p ∣ c) (ha : ¬ p * p ∣ a) : ¬ p * p ∣ -(a * c) := by
  intro h
  have h := Int.dvd_neg.1 h
  have h1 : p ∣ a * c := Int.dvd_trans ⟨p, rfl⟩ h
  obtain ⟨d, rfl⟩ := (hp.dvd_mul h1).resolve_right hc
  obtain ⟨e, he⟩ := h
  have hp0 : p ≠ 0 := by have := hp.1; omega
  have h2 : d * c = p * e := by
    apply Int.eq_of_mul_eq_mul_left hp0
    rw [← Int.mul_assoc, he, Int.mul_assoc]
  obtain ⟨f, rfl⟩ := (hp.dvd_mul (⟨e, h2⟩ : p ∣ d * c)).resolve_right hc
  exact ha ⟨f, by rw [Int.mul_assoc]⟩
theorem s3_unit {a b c p M : Int} (hm : HM p M) (ha : ¬ p * p ∣ a) (hb : ¬ p * p ∣ b) (hc : ¬ p ∣ c) (h : S3 a b c p M) : van p [a, b, c] = true := by
  have hp := hm.pr
  have nz : ∀ {t : Int}, ¬ p * p ∣ t → t ≠ 0 := fun h e => h (e ▸ ⟨0, by simp⟩)
  have cz : c ≠ 0 := fun e => hc (e ▸ ⟨0, by simp⟩)
  obtain ⟨x, y, z, h1, d, h2⟩ := h
  refine van3_of hp (nz ha) (nz hb) cz (hm.hil (sq_unit hp hc ha) (sq_unit hp hc hb) (Ex.of (x := x) (y := y) (z := c * z) hm.dvd.1 hm.dvd.2 ?_ ⟨c * d, ?_⟩))
  · rintro ⟨k1, k2, k3⟩
    exact h1 ⟨k1, k2, (hp.dvd_mul k3).resolve_left hc⟩
  · have : M * (c * d) = c * (M * d) := by rw [Int.mul_left_comm]
    rw [this, ← h2]
    grind
theorem van_mem {p a b c a' b' c' : Int} (hp : Pr p) (e1 : a * (b * c) = a' * (b' * c')) (e3 : hil a b p * hil a c p * hil b c p = hil a' b' p * hil a' c' p * hil b' c' p) (ha : a ≠ 0) (hb : b ≠ 0) (hc : c ≠ 0) (ha' : a' ≠ 0) (hb' : b' ≠ 0) (hc' : c' ≠ 0) : van p [a, b, c] = van p [a', b', c'] := by
  have hp0 : p ≠ 0 := by have := hp.1; omega
  have hq : Pl p := .inr hp
  have E : ∀ {a b c : Int}, a ≠ 0 → b ≠ 0 → c ≠ 0 → inv p [a, b, c] = hil a b p * hil a c p * hil b c p := by
    intro a b c ha hb hc
    simp only [inv, prod, Int.mul_one]
    rw [hil_mul_right hq ha hb hc, hil_one_right hq hc]
    simp [Int.mul_assoc]
  have V : ∀ {a b c : Int}, van p [a, b, c] = (inv p [a, b, c] == hil (-1) (-prod [a, b, c]) p) := by
    intro a b c
    unfold van
    rw [if_neg hp0, if_neg (by simp), if_pos (by simp)]
  rw [V, V, E ha hb hc, E ha' hb' hc', e3]
  simp only [prod, Int.mul_one]
  rw [e1]
/-- The last term and the one before it change places. -/
theorem van_perm {p a b c : Int} (hp : Pr p) (ha : a ≠ 0) (hb : b ≠ 0) (hc : c ≠ 0) : van p [a, b, c] = van p [a, c, b] :=
  van_mem hp (by rw [Int.mul_comm b c]) (by rw [hil_comm (a := b) (b := c), Int.mul_comm (hil a b p)]) ha hb hc ha hc hb
/-- The first and the last change places. -/
theorem van_ends {p a b c : Int} (hp : Pr p) (ha : a ≠ 0) (hb : b ≠ 0) (hc : c ≠ 0) : van p [a, b, c] = van p [c, b, a] :=
  van_mem hp (by grind) (by rw [hil_comm (a := c) (b := b), hil_comm (a := c) (b := a), hil_comm (a := b) (b := a)]; grind) ha hb hc hc hb ha
theorem S3.perm {a b c p M : Int} (h : S3 a b c p M) : S3 a c b p M := by
  obtain ⟨x, y, z, h1, d, h2⟩ := h
  exact ⟨x, z, y, fun k => h1 ⟨k.1, k.2.2, k.2.1⟩, d, by rw [← h2]; grind⟩
theorem S3.ends {a b c p M : Int} (h : S3 a b c p M) : S3 c b a p M := by
  obtain ⟨x, y, z, h1, d, h2⟩ := h
  exact ⟨z, y, x, fun k => h1 ⟨k.2.2, k.2.1, k.1⟩, d, by rw [← h2]; grind⟩
theorem nz_of_sq {p t : Int} (h : ¬ p * p ∣ t) : t ≠ 0 := fun e => h (e ▸ ⟨0, by simp⟩)
/-- Units alone. -/
theorem odd_parts {x : Int} : x * x % 4 = 0 ∧ x % 2 = 0 ∨ x * x % 4 = 1 ∧ x % 2 = 1 := by
  rcases (by omega : x % 4 = 0 ∨ x % 4 = 1 ∨ x % 4 = 2 ∨ x % 4 = 3) with h | h | h | h <;> rw [Int.mul_emod, h] <;> omega
theorem hil_odd {u v : Int} (hu : u % 2 = 1) (hv : v % 2 = 1) (h : u % 4 = 1 ∨ v % 4 = 1) : hil u v 2 = 1 := by
  have du : ¬ (2 : Int) ∣ u := by omega
  have dv : ¬ (2 : Int) ∣ v := by omega
  obtain ⟨a1, a2⟩ := vl_unit (n := u) (p := 2) (by omega) (by omega) du
  obtain ⟨b1, b2⟩ := vl_unit (n := v) (p := 2) (by omega) (by omega) dv
  rw [hil_two, a1, a2, b1, b2]
  unfold hil2 e4
  rcases h with h | h
  · rw [if_neg (show ¬ u % 4 = 3 by omega)]; simp [pw]
  · rw [if_neg (show ¬ v % 4 = 3 by omega)]; simp [pw]
theorem units2 {a b c x y z : Int} (ha : a % 2 = 1) (hb : b % 2 = 1) (hc : c % 2 = 1) (hn : ¬ ((2 : Int) ∣ x ∧ (2 : Int) ∣ y ∧ (2 : Int) ∣ z)) (h : (4 : Int) ∣ a * x * x + b * y * y + c * z * z) : van 2 [a, b, c] = true := by
  have A : ∀ {t x : Int}, t * x * x % 4 = (t % 4) * (x * x % 4) % 4 := by intro t x; rw [Int.mul_assoc, Int.mul_emod]
  have h4 : (a * x * x % 4 + b * y * y % 4 + c * z * z % 4) % 4 = 0 := by omega
  rw [A, A, A] at h4
  have B : ∀ {s t : Int}, -(s * t) % 4 = (-((s % 4) * (t % 4))) % 4 := by
    intro s t
    have : s * t % 4 = (s % 4) * (t % 4) % 4 := Int.mul_emod _ _ _
    omega
  have C : ∀ {s t : Int}, s % 2 = 1 → t % 2 = 1 → -(s * t) % 2 = 1 := by
    intro s t hs ht
    have : s * t % 2 = (s % 2) * (t % 2) % 2 := Int.mul_emod _ _ _
    rw [hs, ht] at this
    omega
  refine van3_of pr2 (by omega) (by omega) (by omega) (hil_odd (C ha hc) (C hb hc) ?_)
  rw [B (s := a) (t := c), B (s := b) (t := c)]
  have fa : a % 4 = 1 ∨ a % 4 = 3 := by omega
  have fb : b % 4 = 1 ∨ b % 4 = 3 := by omega
  have fc : c % 4 = 1 ∨ c % 4 = 3 := by omega
  have ox := odd_parts (x := x)
  have oy := odd_parts (x := y)
  have oz := odd_parts (x := z)
  rcases fa with fa | fa <;> rcases fb with fb | fb <;> rcases fc with fc | fc <;> rw [fa, fb, fc] at h4 <;> rw [fa, fb, fc] <;> omega
/-- Zeros of three terms up to the high power: the form vanishes. -/
theorem s3_high {a b c p M : Int} (hm : HM p M) (ha : ¬ p * p ∣ a) (hb : ¬ p * p ∣ b) (hc : ¬ p * p ∣ c) (h : S3 a b c p M) : van p [a, b, c] = true := by
  have hp := hm.pr
  have az := nz_of_sq ha
  have bz := nz_of_sq hb
  have cz := nz_of_sq hc
  by_cases dc : p ∣ c
  · by_cases db : p ∣ b
    · by_cases da : p ∣ a
      · obtain ⟨a', rfl⟩ := da
        obtain ⟨b', rfl⟩ := db
        obtain ⟨c', rfl⟩ := dc
        have hp0 : p ≠ 0 := by have := hp.1; omega
        have un : ∀ {t : Int}, ¬ p * p ∣ p * t → ¬ p ∣ t := by
          rintro t h ⟨d, rfl⟩
          exact h ⟨d, by rw [Int.mul_assoc]⟩
        have ua := un ha
        have ub := un hb
        have uc := un hc
        have nz : Nz [a', b', c'] := by
          intro t ht
          simp only [List.mem_cons, List.not_mem_nil, or_false] at ht
          rcases ht with rfl | rfl | rfl
          · exact fun e => az (by rw [e]; simp)
          · exact fun e => bz (by rw [e]; simp)
          · exact fun e => cz (by rw [e]; simp)
        have sc := van_scale (p := p) (n := p) (.inr hp) hp0 nz
        simp only [List.map_cons, List.map_nil] at sc
        rw [sc]
        rcases hm with ⟨rfl, rfl⟩ | ⟨rfl, rfl⟩
        · refine van3_of hp (nz a' (by simp)) (nz b' (by simp)) (nz c' (by simp)) (hil_unit hp (by omega) ?_ ?_)
          · intro e; exact (hp.dvd_mul (Int.dvd_neg.1 e)).elim ua uc
          · intro e; exact (hp.dvd_mul (Int.dvd_neg.1 e)).elim ub uc
        · obtain ⟨x, y, z, h1, d, h2⟩ := h
          refine units2 (x := x) (y := y) (z := z) (by omega) (by omega) (by omega) h1 ⟨4 * d, ?_⟩
          have : 2 * (a' * x * x + b' * y * y + c' * z * z) = 32 * d := by rw [← h2]; grind
          omega
      · rw [van_ends hp az bz cz]
        exact s3_unit hm hc hb da h.ends
    · rw [van_perm hp az bz cz]
      exact s3_unit hm ha hc db h.perm
  · exact s3_unit hm ha hb dc h
theorem van3_eq {p a b c : Int} (hp : Pr p) (ha : a ≠ 0) (hb : b ≠ 0) (hc : c ≠ 0) (h : van p [a, b, c] = true) : hil a b p * hil a c p * hil b c p = hil (-1) (-1) p * (hil (-1) a p * (hil (-1) b p * hil (-1) c p)) := by
  have hp0 : p ≠ 0 := by have := hp.1; omega
  have hq : Pl p := .inr hp
  have h1 : (-1 : Int) ≠ 0 := by omega
  unfold van at h
  rw [if_neg hp0, if_neg (by simp), if_pos (by simp), beq_iff_eq] at h
  have e3 : -prod [a, b, c] = (-1) * (a * (b * c)) := by simp [prod]
  have e4 : inv p [a, b, c] = hil a b p * hil a c p * hil b c p := by
    simp only [inv, prod, Int.mul_one]
    rw [hil_mul_right hq ha hb hc, hil_one_right hq hc]
    simp [Int.mul_assoc]
  rw [e3, e4, hil_mul_right hq h1 h1 (Int.mul_ne_zero ha (Int.mul_ne_zero hb hc)), hil_mul_right hq h1 ha (Int.mul_ne_zero hb hc), hil_mul_right hq h1 hb hc] at h
  exact h
theorem names_sq {p M : Int} (hm : HM p M) : ∀ n ∈ names p, ¬ p * p ∣ n := by
  rcases hm with ⟨rfl, _⟩ | ⟨rfl, _⟩ <;> decide
/-- Zeros of two terms up to the high power: the form vanishes. -/
theorem s2_high {a b p M x y : Int} (hm : HM p M) (ha : ¬ p * p ∣ a) (hb : ¬ p * p ∣ b) (hn : ¬ (p ∣ x ∧ p ∣ y)) (h : M ∣ a * x * x + b * y * y) : van p [a, b] = true := by
  have hp := hm.pr
  have hq : Pl p := .inr hp
  have az := nz_of_sq ha
  have bz := nz_of_sq hb
  have h1 : (-1 : Int) ≠ 0 := by omega
  have abz := Int.mul_ne_zero az bz
  have V : ∀ {c : Int}, ¬ p * p ∣ c → hil ((-1) * (a * b)) c p = hil a b p * (hil (-1) (-1) p * (hil (-1) a p * hil (-1) b p)) := by
    intro c hc
    have cz := nz_of_sq hc
    have e := van3_eq hp az bz cz (s3_high hm ha hb hc ⟨x, y, 0, fun k => hn ⟨k.1, k.2.1⟩, by simpa using h⟩)
    rw [hil_mul hq h1 abz cz, hil_mul hq az bz cz]
    have A := pm_sq (hil_pm hq az bz)
    have F := pm_sq (hil_pm hq h1 cz)
    generalize hil a b p = A' at *
    generalize hil a c p = B' at *
    generalize hil b c p = C' at *
    generalize hil (-1) a p = D' at *
    generalize hil (-1) b p = E' at *
    generalize hil (-1) c p = F' at *
    generalize hil (-1) (-1) p = G' at *
    have s1 : F' * (B' * C') = A' * F' * (A' * B' * C') := by
      have : A' * F' * (A' * B' * C') = (A' * A') * (F' * (B' * C')) := by grind
      rw [this, A, Int.one_mul]
    rw [s1, e]
    have : A' * F' * (G' * (D' * (E' * F'))) = (F' * F') * (A' * (G' * (D' * E'))) := by grind
    rw [this, F, Int.one_mul]
  have one : ¬ p * p ∣ (1 : Int) := fun e => hp.not_dvd_one (Int.dvd_trans ⟨p, rfl⟩ e)
  have hz : (-1) * (a * b) ≠ 0 := Int.mul_ne_zero h1 abz
  have hp0 : p ≠ 0 := by have := hp.1; omega
  unfold van
  rw [if_neg hp0, if_pos (by simp), show -prod [a, b] = (-1) * (a * b) by simp [prod]]
  refine Classical.byContradiction fun hl => ?_
  obtain ⟨n, n1, n2⟩ := find_name hq hz (by simpa using hl)
  have e1 := V (names_sq hm n n1)
  have e2 := V one
  rw [hil_one_right hq hz] at e2
  rw [n2, ← e2] at e1
  omega
theorem s1_high {a p M x : Int} (hm : HM p M) (ha : ¬ p * p ∣ a) (hn : ¬ p ∣ x) : ¬ M ∣ a * x * x := by
  intro h
  have hp := hm.pr
  have hM : p * p ∣ M := by rcases hm with ⟨rfl, rfl⟩ | ⟨rfl, rfl⟩ <;> omega
  have : ¬ p ∣ x * x := fun e => (hp.dvd_mul e).elim hn hn
  exact sq_unit hp this ha (Int.dvd_neg.2 (by rw [← Int.mul_assoc]; exact Int.dvd_trans hM h))
end Go.Proofs.Ytdeahlommlgceaa.Nt

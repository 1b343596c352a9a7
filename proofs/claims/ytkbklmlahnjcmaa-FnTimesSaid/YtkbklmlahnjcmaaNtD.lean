/- The product of the symbols at all places is 1, for numbers whose primes are small. -/
import Derived.Test.YtkbklmlahnjcmaaNtC
namespace Go.Proofs.Ytkbklmlahnjcmaa.Nt

/-- Tried by all. -/
def prB (p : Nat) : Bool := decide (2 ≤ p) && (List.range p).all fun m => decide (m < 2) || p % m != 0
theorem pr_of_prB {p : Nat} (h : prB p = true) : Pr p := by
  unfold prB at h
  simp only [Bool.and_eq_true, decide_eq_true_eq, List.all_eq_true, List.mem_range, Bool.or_eq_true, bne_iff_ne, ne_eq] at h
  refine ⟨by omega, fun m h1 h2 => ?_⟩
  have hle := Int.le_of_dvd (by omega) h2
  rcases Int.lt_or_le m p with h3 | h3
  · exfalso
    obtain ⟨k, rfl⟩ : ∃ k : Nat, m = k := ⟨m.toNat, by omega⟩
    rcases h.2 k (by omega) with h4 | h4
    · omega
    · exact h4 (Nat.mod_eq_zero_of_dvd (Int.natCast_dvd_natCast.1 h2))
  · omega

def pls : List Int := [2, 3, 5, 7, 11, 13, 17, 19, 23, 29, 31, 37, 41, 43, 47, 53, 59, 61, 67, 71, 73, 79, 83, 89, 97, 101, 103, 107, 109, 113]
theorem pls_pr : ∀ p ∈ pls, Pr p := by
  have h : pls.all (fun p => decide (0 ≤ p) && prB p.toNat) = true := by decide +kernel
  intro p hp
  have := List.all_eq_true.1 h p hp
  simp only [Bool.and_eq_true, decide_eq_true_eq] at this
  have h2 := pr_of_prB this.2
  rwa [Int.toNat_of_nonneg this.1] at h2

/-- The product of the symbols at a list of places. -/
def pr (a b : Int) (L : List Int) : Int := prod (L.map (hil a b))

theorem pr_mul {a b c : Int} (ha : a ≠ 0) (hb : b ≠ 0) (hc : c ≠ 0) : ∀ {L : List Int}, (∀ p ∈ L, Pl p) → pr (a * b) c L = pr a c L * pr b c L
  | [], _ => rfl
  | p :: L, h => by
    have ih := pr_mul ha hb hc (L := L) (fun q hq => h q (by simp [hq]))
    unfold pr at ih ⊢
    simp only [List.map_cons, prod]
    rw [ih, hil_mul (h p (by simp)) ha hb hc]
    grind
theorem pr_comm {a b : Int} {L : List Int} : pr a b L = pr b a L := by
  unfold pr; congr 1; exact List.map_congr_left fun p _ => hil_comm

def all : List Int := 0 :: pls
theorem all_pl : ∀ p ∈ all, Pl p := by
  intro p hp
  rcases List.mem_cons.1 hp with rfl | h
  · exact .inl rfl
  · exact .inr (pls_pr p h)
def gens : List Int := -1 :: pls
set_option maxRecDepth 100000 in
theorem gens_one : ∀ a ∈ gens, ∀ b ∈ gens, pr a b all = 1 := by
  have h : gens.all (fun a => gens.all fun b => pr a b all == 1) = true := by decide +kernel
  intro a ha b hb
  exact eq_of_beq (List.all_eq_true.1 (List.all_eq_true.1 h a ha) b hb)

/-- Its primes are small. -/
def Sm (n : Int) : Prop := n ≠ 0 ∧ ∀ p, Pr p → p ∣ n → p ∈ pls

theorem gens_nz : ∀ a ∈ gens, a ≠ 0 := by decide

theorem pr_one_one {b : Int} {L : List Int} (hL : ∀ p ∈ L, Pl p) (hb : b ≠ 0) : pr 1 b L = 1 := by
  have h := pr_mul (a := 1) (b := 1) (c := b) (by omega) (by omega) hb hL
  rw [Int.one_mul] at h
  unfold pr at *
  induction L with
  | nil => rfl
  | cons p L ih =>
    simp only [List.map_cons, prod] at h ⊢
    rw [hil_one (hL p (by simp)) hb] at h ⊢
    have ih' := ih (fun q hq => hL q (by simp [hq]))
    rw [Int.one_mul]
    exact ih' (by simpa using h)

theorem sm_induct {P : Int → Prop} (h1 : P 1) (hg : ∀ g ∈ gens, ∀ a, a ≠ 0 → P a → P (a * g)) : ∀ (m : Nat) (n : Int), n.natAbs = m → Sm n → P n := by
  intro m
  induction m using Nat.strongRecOn with
  | ind m ih =>
    intro n hn hs
    by_cases hm : 2 ≤ m
    · obtain ⟨p, hp, c, hc⟩ := prime_factor m n hn hm
      have hp2 := hp.1
      have hc0 : c ≠ 0 := by intro e; subst e; simp at hc; exact hs.1 hc
      have hlt : c.natAbs < m := by
        rw [← hn, hc, Int.natAbs_mul]
        have h1 : 2 ≤ p.natAbs := by omega
        have := Nat.mul_le_mul_right c.natAbs h1
        omega
      have := ih c.natAbs hlt c rfl ⟨hc0, fun q hq hd => hs.2 q hq (Int.dvd_trans hd ⟨p, by rw [hc, Int.mul_comm]⟩)⟩
      rw [hc, Int.mul_comm]
      exact hg p (by simp [gens, hs.2 p hp ⟨c, hc⟩]) c hc0 this
    · have h0 := hs.1
      rcases (by omega : n = 1 ∨ n = -1) with rfl | rfl
      · exact h1
      · have := hg (-1) (by simp [gens]) 1 (by omega) h1
        simpa using this

/-- The product formula. -/
theorem all_one {a b : Int} (ha : Sm a) (hb : Sm b) : pr a b all = 1 := by
  refine sm_induct (P := fun a => pr a b all = 1) (pr_one_one all_pl hb.1) ?_ _ a rfl ha
  intro g hg a ha h
  rw [pr_mul ha (gens_nz g hg) hb.1 all_pl, h, Int.one_mul, pr_comm]
  refine sm_induct (P := fun b => pr b g all = 1) (pr_one_one all_pl (gens_nz g hg)) ?_ _ b rfl hb
  intro k hk c hc h
  rw [pr_mul hc (gens_nz k hk) (gens_nz g hg) all_pl, h, Int.one_mul]
  exact gens_one k hk g hg

/-- Where nothing divides, the symbol is 1. -/
theorem hil_unit {a b p : Int} (hp : Pr p) (h2 : p ≠ 2) (ha : ¬ p ∣ a) (hb : ¬ p ∣ b) : hil a b p = 1 := by
  have ha0 : a ≠ 0 := fun e => ha (e ▸ Int.dvd_zero p)
  have hb0 : b ≠ 0 := fun e => hb (e ▸ Int.dvd_zero p)
  unfold hil
  rw [if_neg (by have := hp.1; omega), if_neg h2, (vl_unit hp.1 ha0 ha).1, (vl_unit hp.1 hb0 hb).1]
  rfl

theorem prod_sub {f : Int → Int} : ∀ (L M : List Int), L.Nodup → M.Nodup → (∀ p ∈ L, p ∈ M) → (∀ p ∈ M, p ∉ L → f p = 1) → prod (M.map f) = prod (L.map f)
  | [], M, _, _, _, h => by
    induction M with
    | nil => rfl
    | cons p M ih =>
      simp only [List.map_cons, prod]
      rw [h p (by simp) (by simp), Int.one_mul]
      rename_i _ h2 _
      exact ih (List.nodup_cons.1 h2).2 (by simp) (fun q hq _ => h q (by simp [hq]) (by simp))
  | x :: L, M, hL, hM, hs, h => by
    have hx : x ∈ M := hs x (by simp)
    have hn := List.nodup_cons.1 hL
    have e : prod (M.map f) = f x * prod ((M.erase x).map f) := by
      clear h hs hL hn
      induction M with
      | nil => simp at hx
      | cons y M ih =>
        by_cases e : y = x
        · subst e; simp [prod]
        · rw [List.erase_cons_tail (by simpa using e)]
          simp only [List.map_cons, prod]
          rw [ih (List.nodup_cons.1 hM).2 (by simpa [Ne.symm e] using hx)]
          grind
    rw [e]
    simp only [List.map_cons, prod]
    congr 1
    refine prod_sub L (M.erase x) hn.2 (hM.erase x) (fun p hp => (hM.mem_erase_iff).2 ⟨fun e => hn.1 (e ▸ hp), hs p (by simp [hp])⟩) (fun p hp hq => ?_)
    obtain ⟨h1, h2⟩ := (hM.mem_erase_iff).1 hp
    exact h p h2 (by simp [h1, hq])

theorem nodup_all : all.Nodup := by decide +kernel

/-- The product over all places that count. -/
theorem pr_places {a b : Int} {L : List Int} (ha : Sm a) (hb : Sm b) (hL : L.Nodup) (h0 : ∀ p ∈ L, p = 0 ∨ p = 2 ∨ (Pr p ∧ (p ∣ a ∨ p ∣ b))) (h1 : 0 ∈ L) (h2 : 2 ∈ L) (h3 : ∀ p, Pr p → p ≠ 2 → p ∣ a ∨ p ∣ b → p ∈ L) : pr a b L = 1 := by
  rw [← all_one ha hb]
  unfold pr
  refine (prod_sub L all hL nodup_all ?_ ?_).symm
  · intro p hp
    rcases h0 p hp with rfl | rfl | ⟨h, h'⟩
    · simp [all]
    · simp [all, pls]
    · rcases h' with h' | h'
      · exact List.mem_cons_of_mem _ (ha.2 p h h')
      · exact List.mem_cons_of_mem _ (hb.2 p h h')
  · intro p hp hn
    rcases List.mem_cons.1 hp with rfl | hp
    · exact absurd h1 hn
    · have hpr := pls_pr p hp
      have hp2 : p ≠ 2 := fun e => hn (e ▸ h2)
      exact hil_unit hpr hp2 (fun h => hn (h3 p hpr hp2 (.inl h))) (fun h => hn (h3 p hpr hp2 (.inr h)))

/-- How many are -1. -/
theorem prod_count : ∀ {L : List Int}, (∀ x ∈ L, x = 1 ∨ x = -1) → prod L = if (L.filter (· == -1)).length % 2 = 0 then 1 else -1
  | [], _ => rfl
  | x :: L, h => by
    have ih := prod_count (L := L) (fun y hy => h y (by simp [hy]))
    simp only [prod]
    rw [ih]
    rcases h x (by simp) with rfl | rfl
    · simp
    · simp only [List.filter_cons, beq_self_eq_true, if_true, List.length_cons]
      split <;> split <;> first | rfl | omega

end Go.Proofs.Ytkbklmlahnjcmaa.Nt

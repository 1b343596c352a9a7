/- Names of classes: one for each number, and half of them, or all, have the symbol 1 with a number. -/
import Derived.Test.YtkbklmlahnjcmaaNtE
namespace Go.Proofs.Ytkbklmlahnjcmaa.Nt

theorem two_names : ∀ i ∈ [0, 1], ∀ u ∈ [(1 : Int), 3, 5, 7], ∃ n ∈ [(1 : Int), 3, 5, 7, 2, 6, 10, 14], (i + vl n 2) % 2 = 0 ∧ u * un n 2 % 8 = 1 := by decide +kernel

/-- Each number has a name. -/
theorem has_name {a p : Int} (hp : Pl p) (ha : a ≠ 0) : ∃ n ∈ names p, lsq (a * n) p = true := by
  unfold names
  split
  · rename_i h0
    subst h0
    rcases Int.lt_or_gt_of_ne ha with h | h
    · exact ⟨-1, by simp, by unfold lsq; rw [if_pos rfl]; simp; omega⟩
    · exact ⟨1, by simp, by unfold lsq; rw [if_pos rfl]; simp; omega⟩
  · rename_i h0
    have hp := hp.resolve_left h0
    split
    · rename_i h2
      subst h2
      have oa := odd_of (vl_spec (p := 2) (by omega) ha).2
      obtain ⟨n, hn, h1, h2⟩ := two_names (vl a 2 % 2) (by rcases Nat.mod_two_eq_zero_or_one (vl a 2) with h | h <;> rw [h] <;> simp) (un a 2 % 8) (odd_mem oa)
      have hn0 : n ≠ 0 := by
        intro e; subst e; simp at hn
      obtain ⟨m1, m2⟩ := vl_mul pr2 ha hn0
      refine ⟨n, hn, ?_⟩
      unfold lsq
      rw [if_neg (by omega), m1, m2, if_pos (by omega), if_pos rfl]
      have : un a 2 * un n 2 % 8 = 1 := by
        rw [Int.mul_emod, Int.emod_emod] at h2
        rw [Int.mul_emod, h2]
      rw [this]; rfl
    · rename_i h2
      obtain ⟨n1, n2, n3, _⟩ := nr_spec hp h2
      have hp1 := hp.1
      have hnn : ¬ p ∣ nr p := not_dvd_small (by omega) n2
      have hn0 : nr p ≠ 0 := by omega
      obtain ⟨a1, a2⟩ := vl_spec hp.1 ha
      have ep : vl p p = 1 ∧ un p p = 1 := vl_eq hp.1 (by omega) hp.not_dvd_one (by simp [Int.pow_succ])
      have eu := vl_unit hp.1 hn0 hnn
      have key : ∀ n : Int, n ≠ 0 → (vl a p + vl n p) % 2 = 0 → leg (un a p) p * leg (un n p) p = 1 → lsq (a * n) p = true := by
        intro n hn h3 h4
        obtain ⟨m1, m2⟩ := vl_mul hp ha hn
        unfold lsq
        rw [if_neg h0, m1, m2, if_pos h3, if_neg h2, leg_mul hp h2, h4]; rfl
      rcases Nat.mod_two_eq_zero_or_one (vl a p) with hv | hv <;> rcases leg_pm a2 with hl | hl
      · exact ⟨1, by simp, key 1 (by omega) (by rw [(vl_unit hp.1 (by omega) hp.not_dvd_one).1]; omega) (by rw [(vl_unit hp.1 (by omega) hp.not_dvd_one).2, hl, leg_one hp]; rfl)⟩
      · exact ⟨nr p, by simp, key _ hn0 (by rw [eu.1]; omega) (by rw [eu.2, hl, n3]; rfl)⟩
      · exact ⟨p, by simp, key p (by omega) (by rw [ep.1]; omega) (by rw [ep.2, hl, leg_one hp]; rfl)⟩
      · obtain ⟨m1, m2⟩ := vl_mul hp (show p ≠ 0 by omega) hn0
        refine ⟨p * nr p, by simp, key _ (Int.mul_ne_zero (by omega) hn0) (by rw [m1, ep.1, eu.1]; omega) ?_⟩
        rw [m2, ep.2, eu.2, Int.one_mul, hl, n3]; rfl

/-- The symbol goes by the names. -/
theorem hil_name {a x b p : Int} (hp : Pl p) (ha : a ≠ 0) (hx : x ≠ 0) (hb : b ≠ 0) (h : lsq (a * x) p = true) : hil x b p = hil a b p := by
  have h1 := hil_lsq hp (Int.mul_ne_zero ha hx) hb h
  rw [hil_mul hp ha hx hb] at h1
  rcases hil_pm hp ha hb with e | e <;> rcases hil_pm hp hx hb with f | f <;> rw [e, f] at h1 ⊢ <;> simp at h1

/-- How many of a list have the symbol 1. -/
def cnt (a p : Int) : List Int → Nat
  | [] => 0
  | n :: l => if hil a n p = 1 then cnt a p l + 1 else cnt a p l

theorem cnt_all {a p : Int} : ∀ {l : List Int}, (∀ n ∈ l, hil a n p = 1) → cnt a p l = l.length
  | [], _ => rfl
  | n :: l, h => by
    unfold cnt
    rw [if_pos (h n (by simp)), cnt_all (fun m hm => h m (by simp [hm]))]; rfl

def cnt2 (i : Nat) (u : Int) : List Int → Nat
  | [] => 0
  | n :: l => if hil2 i (vl n 2) u (un n 2) = 1 then cnt2 i u l + 1 else cnt2 i u l
theorem two_half : ∀ i ∈ [0, 1], ∀ u ∈ [(1 : Int), 3, 5, 7], ¬ (i = 0 ∧ u = 1) → cnt2 i u [1, 3, 5, 7, 2, 6, 10, 14] = 4 := by decide +kernel
theorem cnt_two {a : Int} : ∀ l : List Int, cnt a 2 l = cnt2 (vl a 2 % 2) (un a 2 % 8) l
  | [] => rfl
  | n :: l => by
    unfold cnt cnt2
    rw [cnt_two l, hil_two, hil2_mod (i' := vl a 2 % 2) (j' := vl n 2) (u' := un a 2 % 8) (v' := un n 2) (by omega) rfl (by omega) rfl]

/-- Half of the classes, or all. -/
theorem cnt_half {a p : Int} (hp : Pl p) (ha : a ≠ 0) (h : lsq a p = false) : 2 * cnt a p (names p) = (names p).length := by
  have hf := find_name hp ha h
  have hp' := hp
  unfold names at *
  split at hf
  · rename_i h0
    subst h0
    rw [if_pos rfl]
    have hneg : ¬ 0 < a := by unfold lsq at h; rw [if_pos rfl] at h; simpa using h
    have e1 : hil a 1 0 = 1 := by unfold hil; rw [if_pos rfl, if_neg (by omega)]
    have e2 : hil a (-1) 0 = -1 := by unfold hil; rw [if_pos rfl, if_pos (by omega)]
    simp [cnt, e1, e2]
  · rename_i h0
    rw [if_neg h0]
    have hp := hp.resolve_left h0
    split at hf
    · rename_i h2
      subst h2
      rw [if_pos rfl, cnt_two]
      have oa := odd_of (vl_spec (p := 2) (by omega) ha).2
      rw [two_half _ (by rcases Nat.mod_two_eq_zero_or_one (vl a 2) with h | h <;> rw [h] <;> simp) _ (odd_mem oa)]
      · rfl
      · rintro ⟨h1, h2⟩
        unfold lsq at h
        rw [if_neg (by omega), if_pos h1, if_pos rfl] at h
        simp [h2] at h
    · rename_i h2
      rw [if_neg h2]
      obtain ⟨n1, n2, n3, _⟩ := nr_spec hp h2
      have hp1 := hp.1
      have e1 : hil a 1 p = 1 := by rw [hil_comm]; exact hil_one hp' ha
      have e4 : hil a (p * nr p) p = hil a p p * hil a (nr p) p := hil_mul_right hp' ha (by omega) (by omega)
      have x := hil_pm hp' ha (show p ≠ 0 by omega)
      have y := hil_pm hp' ha (show nr p ≠ 0 by omega)
      obtain ⟨n, hn, he⟩ := hf
      simp only [List.mem_cons, List.not_mem_nil, or_false] at hn
      simp only [cnt, e1, e4]
      rcases x with x | x <;> rcases y with y | y <;> simp [x, y]
      rcases hn with rfl | rfl | rfl | rfl
      · rw [e1] at he; omega
      · rw [y] at he; omega
      · rw [x] at he; omega
      · rw [e4, x, y] at he; omega

end Go.Proofs.Ytkbklmlahnjcmaa.Nt

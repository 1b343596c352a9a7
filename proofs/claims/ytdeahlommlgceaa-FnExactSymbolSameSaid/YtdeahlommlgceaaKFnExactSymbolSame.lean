/- What the printed functions of the law FnExactSymbolSame compute, and why the law holds of it; for all arguments that its statement speaks of. -/
import Derived.Test.YtdeahlommlgceaaH
import Derived.Test.YtdeahlommlgceaaPFnExactSymbolSamex4
import Derived.Test.YtdeahlommlgceaaNtG
import Derived.Test.YtdeahlommlgceaaNtA
import Derived.Test.YtdeahlommlgceaaNtC
import Derived.Test.YtdeahlommlgceaaNtE
set_option linter.unusedVariables false
set_option linter.unusedSimpArgs false
namespace Go.Proofs.Ytdeahlommlgceaa.KFnExactSymbolSame
open Go.RowKit Go.Proofs.YtdeahlommlgceaaW.PrintWords Go.Proofs.YtdeahlommlgceaaW.PrintLast Go.Proofs.YtdeahlommlgceaaW.PrintMore Go.Proofs.Ytdeahlommlgceaa.PFnExactSymbolSame Go.Proofs.Ytdeahlommlgceaa.K
open Go.Proofs.Ytdeahlommlgceaa

/-- 0, 2 and the odd primes of some kind, ascending. -/
def IsPlaces (Q : Int → Prop) (l : List Int) : Prop := l.Pairwise (· < ·) ∧ ∀ p, p ∈ l ↔ p = 0 ∨ p = 2 ∨ (Nt.Pr p ∧ Q p)
theorem IsPlaces.uniq {Q R : Int → Prop} {l m : List Int} (hl : IsPlaces Q l) (hm : IsPlaces R m) (h : ∀ p, Nt.Pr p → p ≠ 2 → (Q p ↔ R p)) : l = m := by
  refine Nt.asc_ext hl.1 hm.1 (fun x => ?_)
  rw [hl.2, hm.2]
  by_cases h2 : x = 2
  · simp [h2]
  · constructor
    · rintro (h' | h' | ⟨a, b⟩)
      · exact .inl h'
      · exact .inr (.inl h')
      · exact .inr (.inr ⟨a, (h x a h2).1 b⟩)
    · rintro (h' | h' | ⟨a, b⟩)
      · exact .inl h'
      · exact .inr (.inl h')
      · exact .inr (.inr ⟨a, (h x a h2).2 b⟩)
theorem IsPlaces.pl {Q : Int → Prop} {l : List Int} (h : IsPlaces Q l) : ∀ p ∈ l, Nt.Pl p := by
  intro p hp
  rcases (h.2 p).1 hp with rfl | rfl | h'
  · exact .inl rfl
  · exact .inr Nt.pr2
  · exact .inr h'.1
theorem asc_nodup {l : List Int} (h : l.Pairwise (· < ·)) : l.Nodup := h.imp (fun h => by omega)

theorem tmod_emod {a m : Int} (h : 0 ≤ a) : Int.tmod a m = a % m := Int.tmod_eq_emod_of_nonneg h
theorem tdiv_ediv {a m : Int} (h : 0 ≤ a) : Int.tdiv a m = a / m := Int.tdiv_eq_ediv_of_nonneg h
theorem small_mul2 {a b : Int} (ha : 0 ≤ a) (ha' : a ≤ 5000) (hb : 0 ≤ b) (hb' : b ≤ 5000) : 0 ≤ a * b ∧ a * b ≤ 25000000 := by
  have h1 : a * b ≤ 5000 * 5000 := Int.mul_le_mul (by omega) (by omega) hb (by omega)
  have h2 := Int.mul_nonneg ha hb
  omega
/-- A name is no larger than this. -/
theorem names_small {p : Int} (hp : Nt.Pl p) (hp5 : p ≤ 5000) : ∀ n ∈ Nt.names p, n ≠ 0 ∧ n.natAbs ≤ 25000000 := by
  intro n hn
  refine ⟨Nt.names_nz hp n hn, ?_⟩
  unfold Nt.names at hn
  split at hn
  · simp at hn; omega
  · split at hn
    · simp at hn; omega
    · rename_i h0 h2
      have hp := hp.resolve_left h0
      obtain ⟨n1, n2, n3, n4⟩ := Nt.nr_spec hp h2
      have hm := small_mul2 (a := p) (b := Nt.nr p) (by omega) (by omega) (by omega) (by omega)
      simp only [List.mem_cons, List.not_mem_nil, or_false] at hn
      rcases hn with rfl | rfl | rfl | rfl <;> omega
theorem sq_le {m p : Int} (h0 : 2 ≤ m) (h : m * m ≤ p) : m < p := by
  have : m * 2 ≤ m * m := Int.mul_le_mul_of_nonneg_left h0 (by omega)
  omega
theorem small_sq {m : Int} (h0 : 0 ≤ m) (h : m ≤ 100000) : 0 ≤ m * m ∧ m * m ≤ 10000000000 := by
  have h1 : m * m ≤ m * 100000 := Int.mul_le_mul_of_nonneg_left h h0
  have h2 := Int.mul_nonneg h0 h0
  omega


theorem div_facts {n p : Int} (hp : 2 ≤ p) (hn : n ≠ 0) (h : Int.tmod n p = 0) : Int.tdiv n p ≠ 0 ∧ (Int.tdiv n p).natAbs < n.natAbs ∧ Nt.vl n p = Nt.vl (Int.tdiv n p) p + 1 ∧ Nt.un n p = Nt.un (Int.tdiv n p) p := by
  obtain ⟨c, rfl⟩ := Nt.tmod_zero_iff.1 h
  rw [Int.mul_tdiv_cancel_left _ (by omega)]
  have hc : c ≠ 0 := by intro e; subst e; simp at hn
  refine ⟨hc, ?_, ?_⟩
  · rw [Int.natAbs_mul]
    have h1 : 2 ≤ p.natAbs := by omega
    have := Nat.mul_le_mul_right c.natAbs h1
    have : 0 < c.natAbs := by omega
    omega
  · obtain ⟨h1, h2⟩ := Nt.vl_spec hp hc
    refine Nt.vl_eq hp hn h2 ?_
    rw [Int.pow_succ]
    generalize p ^ Nt.vl c p = X at *
    generalize Nt.un c p = U at *
    rw [h1]; grind
theorem div_none {n p : Int} (hp : 2 ≤ p) (hn : n ≠ 0) (h : ¬ Int.tmod n p = 0) : Nt.vl n p = 0 ∧ Nt.un n p = n :=
  Nt.vl_unit hp hn (fun hd => h (Nt.tmod_zero_iff.2 hd))
theorem vl_le_abs {n p : Int} (hp : 2 ≤ p) : ∀ (d : Nat) (n : Int), n ≠ 0 → n.natAbs ≤ d → Nt.vl n p ≤ n.natAbs
  | 0, n, hn, h => by omega
  | d + 1, n, hn, h => by
    by_cases ht : Int.tmod n p = 0
    · obtain ⟨h1, h2, h3, _⟩ := div_facts hp hn ht
      have := vl_le_abs (n := n) hp d (Int.tdiv n p) h1 (by omega)
      omega
    · rw [(div_none hp hn ht).1]; omega

theorem impl_split_l {p : Int} (hp : 2 ≤ p) : ∀ (d : Nat) (n : Int) (v : Nat), n ≠ 0 → n.natAbs ≤ d → d ≤ 1000000000000 → v + n.natAbs ≤ 1000000000000 →
    Ev (fun k => impl_split.l0 k n p (v : Int)) (((v + Nt.vl n p : Nat) : Int), Nt.un n p) := by
  intro d
  induction d with
  | zero => intro n v hn h; omega
  | succ d ih =>
    intro n v hn h hd hv
    refine Ev.succ ?_
    simp only [impl_split.l0]
    refine Ev.neg (by omega) ?_
    by_cases ht : Int.tmod n p = 0
    · obtain ⟨h1, h2, h3, h4⟩ := div_facts hp hn ht
      refine Ev.pos ht ?_
      rw [w64 (x := Int.tdiv n p) (by omega) (by omega), w64 (by omega) (by omega), cast_succ]
      refine Ev.to (ih (Int.tdiv n p) (v + 1) h1 (by omega) (by omega) (by omega)) ?_
      rw [h3, h4]; congr 2; omega
    · refine Ev.neg ht (Ev.ret ?_)
      obtain ⟨h1, h2⟩ := div_none hp hn ht
      rw [h1, h2]; rfl
theorem impl_split_ev {n p : Int} (hp : 2 ≤ p) (hn : n ≠ 0) (hb : n.natAbs ≤ 1000000000000) : Ev (fun k => impl_split.f k n p) ((Nt.vl n p : Int), Nt.un n p) := by
  have := impl_split_l hp _ n 0 hn (Nat.le_refl _) hb (by omega)
  unfold impl_split.f
  simpa using this

theorem sq_small {p : Int} (h0 : 0 ≤ p) (h : p ≤ 1000001) : 0 ≤ p * p ∧ p * p ≤ 1000002000001 := by
  have h1 : p * p ≤ 1000001 * 1000001 := Int.mul_le_mul h h (by omega) (by omega)
  have h2 := Int.mul_nonneg h0 h0
  omega
theorem sq_lt {p n : Int} (h : p * p ≤ n) (hn : n ≤ 1000000000000) (h0 : 0 ≤ p) : p ≤ 1000000 := by
  rcases Int.lt_or_le 1000000 p with h' | h'
  · have : 1000001 * 1000001 ≤ p * p := Int.mul_le_mul (by omega) (by omega) (by omega) (by omega)
    omega
  · exact h'
theorem impl_primesOf_l {N : Int} (hN : N ≤ 1000000000000) : ∀ (d : Nat) (n p : Int) (out : List Int), (1000001 - p).toNat ≤ d → 2 ≤ p → p ≤ 1000001 → (out.length : Int) ≤ p → Nt.St N n p out →
    ∃ L, Nt.IsPL N L ∧ Ev (fun k => impl_primesOf.l0 k n out p) L := by
  intro d
  induction d with
  | zero =>
    intro n p out hd h2 h3 ho hS
    have hs := sq_small (p := p) (by omega) h3
    have hle : n < p * p := by
      have e : p = 1000001 := by omega
      subst e
      have := hS.2.1
      omega
    refine ⟨_, hS.last h2 hle, Ev.succ ?_⟩
    simp only [impl_primesOf.l0]
    rw [w64 (by omega) (by omega)]
    refine Ev.neg (by omega) ?_
    by_cases hn : n > 1
    · exact Ev.pos hn (Ev.pos (by omega) (Ev.ret (if_pos hn).symm))
    · exact Ev.neg hn (Ev.ret (if_neg hn).symm)
  | succ d ih =>
    intro n p out hd h2 h3 ho hS
    have hs := sq_small (p := p) (by omega) h3
    by_cases hle : p * p ≤ n
    · have hp6 := sq_lt hle (by have := hS.2.1; omega) (by omega)
      by_cases hdv : p ∣ n
      · obtain ⟨L, h4, h5⟩ := ih (Nt.un n p) (p + 1) (out ++ [p]) (by omega) (by omega) (by omega) (by simp; omega) (hS.step h2 hdv)
        refine ⟨L, h4, Ev.succ ?_⟩
        simp only [impl_primesOf.l0]
        have := hS.1
        have := hS.2.1
        rw [w64 (x := p * p) (by omega) (by omega), w64 (x := p + 1) (by omega) (by omega)]
        exact Ev.pos hle (Ev.neg (by omega) (Ev.pos (Nt.tmod_zero_iff.2 hdv) (Ev.pos (by omega) (Ev.bind (impl_split_ev h2 (by omega) (by omega)) h5))))
      · obtain ⟨L, h4, h5⟩ := ih n (p + 1) out (by omega) (by omega) (by omega) (by omega) (hS.skip hdv)
        refine ⟨L, h4, Ev.succ ?_⟩
        simp only [impl_primesOf.l0]
        rw [w64 (x := p * p) (by omega) (by omega), w64 (x := p + 1) (by omega) (by omega)]
        exact Ev.pos hle (Ev.neg (by omega) (Ev.neg (fun h => hdv (Nt.tmod_zero_iff.1 h)) h5))
    · refine ⟨_, hS.last h2 (by omega), Ev.succ ?_⟩
      simp only [impl_primesOf.l0]
      rw [w64 (by omega) (by omega)]
      refine Ev.neg (by omega) ?_
      by_cases hn : n > 1
      · exact Ev.pos hn (Ev.pos (by omega) (Ev.ret (if_pos hn).symm))
      · exact Ev.neg hn (Ev.ret (if_neg hn).symm)
theorem pl_abs {n : Int} {L : List Int} (h : Nt.IsPL (n.natAbs : Int) L) : Nt.IsPL n L := ⟨h.1, fun p => by rw [h.2, Int.dvd_natAbs]⟩
theorem mx_abs' (t : Int) : mx t (-t) = (t.natAbs : Int) := by unfold mx; split <;> omega
theorem impl_primesOf_ev {n : Int} (hn : n ≠ 0) (hn2 : n.natAbs ≤ 1000000000000) : ∃ L, Nt.IsPL n L ∧ Ev (fun k => impl_primesOf.f k n) L := by
  obtain ⟨L, h1, h2⟩ := impl_primesOf_l (N := (n.natAbs : Int)) (by omega) _ (n.natAbs : Int) 2 [] (Nat.le_refl _) (by omega) (by omega) (by simp) (Nt.St.start (by omega))
  refine ⟨L, pl_abs h1, ?_⟩
  unfold impl_primesOf.f impl_size.f
  rw [w64 (by omega) (by omega), mx_abs']
  exact Ev.sbind h2

/-- What a sort is to give. -/
def Srt (xs ys : List Int) : Prop := ys.Pairwise (· ≤ ·) ∧ ys.Perm xs
/-- A row of numbers, sorted. -/
theorem slices_Sort_ev {xs : List Int} (h0 : 0 < xs.length) (h1 : xs.length ≤ 1000000) : ∃ ys, Ev (fun k => slices_Sort_int_int.f k xs) ys ∧ Srt xs ys := by
  refine ⟨Go.Proofs.Ytdeahlommlgceaa.Srt.srt xs, ?_, ?_, ?_⟩
  · unfold slices_Sort_int_int.f
    exact Ev.pos ⟨h0, by omega⟩ (Ev.now _)
  · unfold Go.Proofs.Ytdeahlommlgceaa.Srt.srt
    have := List.pairwise_mergeSort (le := fun x y : Int => decide (x ≤ y)) (fun a b c h1 h2 => by simp at *; omega) (fun a b => by simp; omega) xs
    exact this.imp (fun h => by simpa using h)
  · unfold Go.Proofs.Ytdeahlommlgceaa.Srt.srt
    exact List.mergeSort_perm _ _

theorem slices_Contains_l (xs : List Int) (v : Int) (hl : xs.length ≤ 10000000) : ∀ (r : List Int) (i : Nat), xs.drop i = r → ∃ j : Int, (0 ≤ j ↔ v ∈ r) ∧ Ev (fun k => slices_Index_int_int.l0 k xs v (xs.length : Int) (i : Int)) j
  | [], i, h => by
    have := drop_nil h
    refine ⟨-1, by simp, Ev.succ ?_⟩
    simp only [slices_Index_int_int.l0]
    exact Ev.neg (by omega) (Ev.now _)
  | t :: r, i, h => by
    obtain ⟨h1, h2, h3⟩ := drop_cons h
    by_cases c : v = t
    · refine ⟨(i : Int), by simp [c], Ev.succ ?_⟩
      simp only [slices_Index_int_int.l0]
      rw [h2]
      exact Ev.pos (by omega) (Ev.pos (by omega) (Ev.pos (by omega) (Ev.pos c (Ev.now _))))
    · obtain ⟨j, j1, j2⟩ := slices_Contains_l xs v hl r (i + 1) h3
      refine ⟨j, by rw [j1]; simp [c], Ev.succ ?_⟩
      simp only [slices_Index_int_int.l0]
      rw [h2, w64 (by omega) (by omega), cast_succ]
      exact Ev.pos (by omega) (Ev.pos (by omega) (Ev.pos (by omega) (Ev.neg c j2)))
theorem slices_Contains_any {xs : List Int} {v : Int} (hl : xs.length ≤ 10000000) : Ev (fun k => slices_Contains_int_int.f k xs v) (decide (v ∈ xs)) := by
  obtain ⟨j, h1, h2⟩ := slices_Contains_l xs v hl xs 0 rfl
  unfold slices_Contains_int_int.f slices_Index_int_int.f
  refine Ev.bind h2 (Ev.ret ?_)
  simp only [decide_eq_decide, ge_iff_le]
  exact h1
/-- What has been found so far. -/
def Got (Q : Int → Prop) (o : List Int) : Prop := o.Nodup ∧ ∀ p, p ∈ o ↔ p = 0 ∨ p = 2 ∨ (Nt.Pr p ∧ Q p)
theorem placesOf_l1 (L : List Int) (hL : L.length ≤ 100) (P : List Int) (hP : P.length ≤ 1000000) (i : Nat) (hi : i < L.length) (n : Int) (Q : Int → Prop) (S : List Int)
    (hnext : ∀ o, Got (fun p => Q p ∨ p ∣ n) o → Ev (fun k => impl_placesOf.l0 k o L (L.length : Int) ((i + 1 : Nat) : Int)) S) :
    ∀ (r : List Int) (j : Nat) (o : List Int), P.drop j = r → j ≤ P.length → o.length ≤ 2000000 + j → o.Nodup → (∀ p, (p ∈ o ∨ p ∈ r) ↔ p = 0 ∨ p = 2 ∨ (Nt.Pr p ∧ (Q p ∨ p ∣ n))) →
      Ev (fun k => impl_placesOf.l1 k o L (L.length : Int) (i : Int) P (P.length : Int) (j : Int)) S
  | [], j, o, h, hj, ho, hd, hm => by
    have := drop_nil h
    refine Ev.succ ?_
    simp only [impl_placesOf.l1]
    rw [w64 (x := (i : Int) + 1) (by omega) (by omega), cast_succ]
    exact Ev.neg (by omega) (hnext o ⟨hd, fun p => by rw [← hm p]; simp⟩)
  | t :: r, j, o, h, hj, ho, hd, hm => by
    obtain ⟨h1, h2, h3⟩ := drop_cons h
    refine Ev.succ ?_
    simp only [impl_placesOf.l1]
    rw [h2, w64 (x := (j : Int) + 1) (by omega) (by omega), cast_succ]
    refine Ev.pos (by omega) (Ev.pos (by omega) (Ev.pos (by omega) (Ev.bind (slices_Contains_any (by omega)) ?_)))
    by_cases c : t ∈ o
    · refine Ev.pos (by simpa using c) ?_
      refine placesOf_l1 L hL P hP i hi n Q S hnext r (j + 1) o h3 (by omega) (by omega) hd (fun p => ?_)
      rw [← hm p]
      constructor
      · rintro (h | h)
        · exact .inl h
        · exact .inr (by simp [h])
      · rintro (h | h)
        · exact .inl h
        · rcases List.mem_cons.1 h with rfl | h
          · exact .inl c
          · exact .inr h
    · refine Ev.neg (by simpa using c) (Ev.pos (by omega) ?_)
      refine placesOf_l1 L hL P hP i hi n Q S hnext r (j + 1) (o ++ [t]) h3 (by omega) (by simp; omega) ?_ (fun p => ?_)
      · rw [List.nodup_append]
        exact ⟨hd, by simp, fun a ha b hb => by rw [List.mem_singleton.1 hb]; exact fun e => c (e ▸ ha)⟩
      · rw [← hm p]
        simp only [List.mem_append, List.mem_cons, List.not_mem_nil, or_false]
        constructor
        · rintro ((h | h) | h)
          · exact .inl h
          · exact .inr (.inl h)
          · exact .inr (.inr h)
        · rintro (h | h | h)
          · exact .inl (.inl h)
          · exact .inl (.inr h)
          · exact .inr h
theorem pl_length {n : Int} {L : List Int} (h : Nt.IsPL n L) (hn : n ≠ 0) (hn2 : n.natAbs ≤ 1000000000000) : L.length ≤ 1000000 := by
  have hd := Nt.prod_dvd (l := L) (n := n) (asc_nodup h.1) (fun p hp => (h.2 p).1 hp)
  have hle := Int.le_of_dvd (show 0 < ((n.natAbs : Nat) : Int) by omega) (Int.dvd_natAbs.2 hd)
  have : ∀ l : List Int, (∀ p ∈ l, Nt.Pr p) → (l.length : Int) < 2 ^ l.length ∧ (2 : Int) ^ l.length ≤ Nt.prod l := by
    intro l hp
    induction l with
    | nil => simp [Nt.prod]
    | cons p l ih =>
      obtain ⟨a, b⟩ := ih (fun q hq => hp q (by simp [hq]))
      have h2 := (hp p (by simp)).1
      have : 2 * 2 ^ l.length ≤ p * Nt.prod l := Int.mul_le_mul h2 b (by omega) (by omega)
      simp only [List.length_cons, Int.pow_succ, Nt.prod]
      omega
  obtain ⟨a, b⟩ := this L (fun p hp => ((h.2 p).1 hp).1)
  rcases Nat.lt_or_ge 40 L.length with h4 | h4
  · exfalso
    have : (2 : Int) ^ 41 ≤ 2 ^ L.length := by
      have := Nat.pow_le_pow_right (show 0 < 2 by omega) (show 41 ≤ L.length by omega)
      exact_mod_cast this
    omega
  · omega
theorem got_ex : ∀ (r : List Int), (∀ n ∈ r, n ≠ 0 ∧ n.natAbs ≤ 1000000000000) → ∃ o, Got (fun p => ∃ n ∈ r, p ∣ n) o
  | [], _ => ⟨[0, 2], by decide, fun p => by simp⟩
  | n :: r, h => by
    obtain ⟨o, h1, h2⟩ := got_ex r (fun m hm => h m (by simp [hm]))
    obtain ⟨n1, n2⟩ := h n (by simp)
    obtain ⟨P, p1, _⟩ := impl_primesOf_ev n1 n2
    refine ⟨o ++ P.filter (fun p => decide (p ∉ o)), ?_, fun p => ?_⟩
    · rw [List.nodup_append]
      refine ⟨h1, (asc_nodup p1.1).filter _, fun a ha b hb => ?_⟩
      have := (List.mem_filter.1 hb).2
      intro e; subst e
      simp at this
      exact this ha
    · simp only [List.mem_append, List.mem_filter, decide_eq_true_eq, List.mem_cons, exists_eq_or_imp]
      rw [p1.2]
      by_cases hpo : p ∈ o
      · simp only [hpo, not_true_eq_false, and_false, or_false, true_iff]
        rcases (h2 p).1 hpo with h | h | ⟨h, h'⟩
        · exact .inl h
        · exact .inr (.inl h)
        · exact .inr (.inr ⟨h, .inr h'⟩)
      · simp only [hpo, not_false_eq_true, and_true, false_or]
        have hno := fun h => hpo ((h2 p).2 h)
        constructor
        · rintro ⟨h, h'⟩; exact .inr (.inr ⟨h, .inl h'⟩)
        · rintro (h | h | ⟨h, h' | h'⟩)
          · exact absurd (.inl h) hno
          · exact absurd (.inr (.inl h)) hno
          · exact ⟨h, h'⟩
          · exact absurd (.inr (.inr ⟨h, h'⟩)) hno
theorem got_le {Q R : Int → Prop} {o o' : List Int} (h : Got Q o) (h' : Got R o') (hQ : ∀ p, Q p → R p) : o.length ≤ o'.length :=
  Nt.length_le_of_sub h.1 (fun x hx => by
    rw [h'.2]
    rcases (h.2 x).1 hx with h1 | h1 | ⟨h1, h2⟩
    · exact .inl h1
    · exact .inr (.inl h1)
    · exact .inr (.inr ⟨h1, hQ x h2⟩))
theorem placesOf_l0 (L : List Int) (hL : L.length ≤ 100) (hn : ∀ n ∈ L, n ≠ 0 ∧ n.natAbs ≤ 1000000000000) (hcount : ∀ o, Got (fun p => ∃ n ∈ L, p ∣ n) o → o.length ≤ 100) :
    ∀ (r : List Int) (i : Nat) (o : List Int) (Q : Int → Prop), L.drop i = r → Got Q o → (∀ p, (Q p ∨ ∃ n ∈ r, p ∣ n) ↔ ∃ n ∈ L, p ∣ n) →
      ∃ S, IsPlaces (fun p => ∃ n ∈ L, p ∣ n) S ∧ Ev (fun k => impl_placesOf.l0 k o L (L.length : Int) (i : Int)) S
  | [], i, o, Q, h, hG, hQ => by
    have := drop_nil h
    have hG' : Got (fun p => ∃ n ∈ L, p ∣ n) o := ⟨hG.1, fun p => by
      show p ∈ o ↔ p = 0 ∨ p = 2 ∨ (Nt.Pr p ∧ ∃ n ∈ L, p ∣ n)
      rw [hG.2, ← hQ p]; simp⟩
    have h0 : 0 < o.length := List.length_pos_of_mem ((hG'.2 0).2 (.inl rfl))
    obtain ⟨S, s1, s2, s3⟩ := slices_Sort_ev h0 (by have := hcount o hG'; omega)
    refine ⟨S, ⟨?_, fun p => by rw [s3.mem_iff]; exact hG'.2 p⟩, Ev.succ ?_⟩
    · have hn := (s3.nodup_iff).2 hG.1
      exact (List.pairwise_and_iff.2 ⟨s2, hn⟩).imp (fun ⟨h1, h2⟩ => by omega)
    · simp only [impl_placesOf.l0]
      exact Ev.neg (by omega) (Ev.bind s1 (Ev.now _))
  | n :: r, i, o, Q, h, hG, hQ => by
    obtain ⟨h1, h2, h3⟩ := drop_cons h
    obtain ⟨n1, n2⟩ := hn n (h2 ▸ rd_mem h1)
    obtain ⟨P, p1, p2⟩ := impl_primesOf_ev n1 n2
    have key : ∀ o', Got (fun p => Q p ∨ p ∣ n) o' → ∃ S, IsPlaces (fun p => ∃ n ∈ L, p ∣ n) S ∧ Ev (fun k => impl_placesOf.l0 k o' L (L.length : Int) ((i + 1 : Nat) : Int)) S := fun o' hG' =>
      placesOf_l0 L hL hn hcount r (i + 1) o' _ h3 hG' (fun p => by
        rw [← hQ p]
        simp only [List.mem_cons, exists_eq_or_imp, or_assoc])
    -- all ways give one answer: it is told by its members
    obtain ⟨F, hF⟩ := got_ex L hn
    have hF12 := hcount F hF
    have hex : ∃ S, IsPlaces (fun p => ∃ n ∈ L, p ∣ n) S ∧ ∀ o', Got (fun p => Q p ∨ p ∣ n) o' → Ev (fun k => impl_placesOf.l0 k o' L (L.length : Int) ((i + 1 : Nat) : Int)) S := by
      have g0 : Got (fun p => Q p ∨ p ∣ n) (o ++ P.filter (fun p => decide (p ∉ o))) := by
        refine ⟨?_, fun p => ?_⟩
        · rw [List.nodup_append]
          refine ⟨hG.1, (asc_nodup p1.1).filter _, fun a ha b hb => ?_⟩
          have := (List.mem_filter.1 hb).2
          intro e; subst e
          simp at this
          exact this ha
        · simp only [List.mem_append, List.mem_filter, decide_eq_true_eq]
          rw [p1.2]
          by_cases hpo : p ∈ o
          · simp only [hpo, not_true_eq_false, and_false, or_false, true_iff]
            rcases (hG.2 p).1 hpo with h | h | ⟨h, h'⟩
            · exact .inl h
            · exact .inr (.inl h)
            · exact .inr (.inr ⟨h, .inl h'⟩)
          · simp only [hpo, not_false_eq_true, and_true, false_or]
            have hno := fun h => hpo ((hG.2 p).2 h)
            constructor
            · rintro ⟨h, h'⟩; exact .inr (.inr ⟨h, .inr h'⟩)
            · rintro (h | h | ⟨h, h' | h'⟩)
              · exact absurd (.inl h) hno
              · exact absurd (.inr (.inl h)) hno
              · exact absurd (.inr (.inr ⟨h, h'⟩)) hno
              · exact ⟨h, h'⟩
      obtain ⟨S, s1, _⟩ := key _ g0
      refine ⟨S, s1, fun o' hG' => ?_⟩
      obtain ⟨S', s1', s2'⟩ := key o' hG'
      have := s1.uniq s1' (fun p _ _ => Iff.rfl)
      rw [this]; exact s2'
    obtain ⟨S, s1, s2⟩ := hex
    have hoL : o.length ≤ 100 := by
      have := got_le hG hF (fun p hp => (hQ p).1 (.inl hp))
      omega
    refine ⟨S, s1, Ev.succ ?_⟩
    simp only [impl_placesOf.l0]
    rw [h2]
    refine Ev.pos (by omega) (Ev.pos (by omega) (Ev.pos (by omega) (Ev.bind p2 ?_)))
    refine placesOf_l1 L hL P (pl_length p1 n1 n2) i h1 n Q S s2 P 0 o rfl (by omega) (by omega) hG.1 (fun p => ?_)
    rw [p1.2, hG.2]
    constructor
    · rintro ((h | h | ⟨h, h'⟩) | ⟨h, h'⟩)
      · exact .inl h
      · exact .inr (.inl h)
      · exact .inr (.inr ⟨h, .inl h'⟩)
      · exact .inr (.inr ⟨h, .inr h'⟩)
    · rintro (h | h | ⟨h, h' | h'⟩)
      · exact .inl (.inl h)
      · exact .inl (.inr (.inl h))
      · exact .inl (.inr (.inr ⟨h, h'⟩))
      · exact .inr ⟨h, h'⟩
/-- The places of some numbers. -/
theorem impl_placesOf_ev100 {L : List Int} (hL : L.length ≤ 100) (hn : ∀ n ∈ L, n ≠ 0 ∧ n.natAbs ≤ 1000000000000) (hcount : ∀ o, Got (fun p => ∃ n ∈ L, p ∣ n) o → o.length ≤ 100) :
    ∃ S, IsPlaces (fun p => ∃ n ∈ L, p ∣ n) S ∧ Ev (fun k => impl_placesOf.f k L) S := by
  unfold impl_placesOf.f
  exact placesOf_l0 L hL hn hcount L 0 [0, 2] (fun _ => False) rfl ⟨by decide, fun p => by simp⟩ (fun p => by simp)
theorem impl_placesOf_ev {L : List Int} (hL : L.length ≤ 100) (hn : ∀ n ∈ L, n ≠ 0 ∧ n.natAbs ≤ 1000000000000) (hcount : ∀ o, Got (fun p => ∃ n ∈ L, p ∣ n) o → o.length ≤ 12) :
    ∃ S, IsPlaces (fun p => ∃ n ∈ L, p ∣ n) S ∧ Ev (fun k => impl_placesOf.f k L) S :=
  impl_placesOf_ev100 hL hn (fun o h => by have := hcount o h; omega)

theorem isq8 {u : Int} (h : u % 2 = 1) : u % 8 = 1 ∨ u % 8 = 3 ∨ u % 8 = 5 ∨ u % 8 = 7 := by omega
theorem pw_if (e : Int) (k : Nat) : Nt.pw e k = if k % 2 = 1 then e else 1 := rfl
/-- The exponent at 2: of rests by 8. -/
theorem exp8 {i j : Nat} {u v : Int} (hu : u % 2 = 1) (hv : v % 2 = 1) :
    (((u % 8 - 1) / 2 * ((v % 8 - 1) / 2) + i * ((v % 8) * (v % 8) - 1) / 8 + j * ((u % 8) * (u % 8) - 1) / 8) % 2) = ((Nt.e4 u * Nt.e4 v + i * Nt.e8 v + j * Nt.e8 u : Nat) : Int) % 2 := by
  unfold Nt.e4 Nt.e8
  have k3 : u % 4 = u % 8 % 4 := by omega
  have k4 : v % 4 = v % 8 % 4 := by omega
  rw [k3, k4]
  rcases isq8 hu with a | a | a | a <;> rcases isq8 hv with b | b | b | b <;> simp only [a, b] <;> simp <;> omega
theorem exp16 {i j : Nat} {u v : Int} (hu : u % 2 = 1) (hv : v % 2 = 1) :
    (((u % 16 - 1) / 2 * ((v % 16 - 1) / 2) + i * (((v % 16) * (v % 16) - 1) / 8) + j * (((u % 16) * (u % 16) - 1) / 8)) % 2) = ((Nt.e4 u * Nt.e4 v + i * Nt.e8 v + j * Nt.e8 u : Nat) : Int) % 2 := by
  unfold Nt.e4 Nt.e8
  have h1 : u % 16 = 1 ∨ u % 16 = 3 ∨ u % 16 = 5 ∨ u % 16 = 7 ∨ u % 16 = 9 ∨ u % 16 = 11 ∨ u % 16 = 13 ∨ u % 16 = 15 := by omega
  have h2 : v % 16 = 1 ∨ v % 16 = 3 ∨ v % 16 = 5 ∨ v % 16 = 7 ∨ v % 16 = 9 ∨ v % 16 = 11 ∨ v % 16 = 13 ∨ v % 16 = 15 := by omega
  have k1 : u % 8 = u % 16 % 8 := by omega
  have k2 : v % 8 = v % 16 % 8 := by omega
  have k3 : u % 4 = u % 16 % 4 := by omega
  have k4 : v % 4 = v % 16 % 4 := by omega
  rw [k1, k2, k3, k4]
  rcases h1 with a | a | a | a | a | a | a | a <;> rcases h2 with b | b | b | b | b | b | b | b <;> simp only [a, b] <;> simp <;> omega
/-- How often a prime divides is bounded by the size. -/
theorem two_pow_le (p : Int) (hp : 2 ≤ p) : ∀ k : Nat, (2 : Int) ^ k ≤ p ^ k
  | 0 => by simp
  | k + 1 => by
    rw [Int.pow_succ, Int.pow_succ]
    exact Int.mul_le_mul (two_pow_le p hp k) hp (by omega) (by have := Nt.pow_pos' hp k; omega)
theorem lt_two_pow' (k : Nat) : (k : Int) < 2 ^ k := by
  have := @Nat.lt_two_pow_self k
  exact_mod_cast this
theorem vl_small {n p : Int} {m : Nat} (hp : 2 ≤ p) (hn : n ≠ 0) (hb : n.natAbs < 2 ^ m) : Nt.vl n p < m := by
  rcases Nat.lt_or_ge (Nt.vl n p) m with h | h
  · exact h
  · exfalso
    obtain ⟨h1, h2⟩ := Nt.vl_spec hp hn
    have hu : Nt.un n p ≠ 0 := fun e => h2 (e ▸ Int.dvd_zero p)
    have e : n.natAbs = (Nt.un n p).natAbs * (p ^ Nt.vl n p).natAbs := by rw [← Int.natAbs_mul, ← h1]
    have h3 : 1 * (p ^ Nt.vl n p).natAbs ≤ (Nt.un n p).natAbs * (p ^ Nt.vl n p).natAbs := Nat.mul_le_mul_right _ (by omega)
    have h4 := two_pow_le p hp (Nt.vl n p)
    have h5 : (2 : Nat) ^ m ≤ 2 ^ Nt.vl n p := Nat.pow_le_pow_right (by omega) h
    have h6 : (((2 : Nat) ^ Nt.vl n p : Nat) : Int) = (2 : Int) ^ Nt.vl n p := by exact_mod_cast rfl
    omega
theorem un_le {n p : Int} (hp : 2 ≤ p) (hn : n ≠ 0) : (Nt.un n p).natAbs ≤ n.natAbs := by
  obtain ⟨h1, h2⟩ := Nt.vl_spec hp hn
  have e : n.natAbs = (Nt.un n p).natAbs * (p ^ Nt.vl n p).natAbs := by rw [← Int.natAbs_mul, ← h1]
  have h3 := Nt.pow_pos' hp (Nt.vl n p)
  have := Nat.mul_le_mul_left (Nt.un n p).natAbs (show 1 ≤ (p ^ Nt.vl n p).natAbs by omega)
  omega
theorem par_sign {e : Int} {n : Nat} (h : e % 2 = (n : Int) % 2) : (if e % 2 = 0 then (1 : Int) else -1) = Nt.pw (-1) n := by
  rw [pw_if, h]
  rcases Nat.mod_two_eq_zero_or_one n with h | h
  · rw [if_pos (by omega), if_neg (by omega)]
  · rw [if_neg (by omega), if_pos h]
theorem leg_neg {p : Int} (hp : Nt.Pr p) (h2 : p ≠ 2) (n : Nat) : Nt.pw (Nt.leg (-1) p) n = Nt.pw (-1) (n * Nt.hf p) := by
  rw [Nt.leg_neg_one hp h2, pw_if, pw_if, Nat.mul_mod]
  rcases Nat.mod_two_eq_zero_or_one n with h | h <;> rcases Nat.mod_two_eq_zero_or_one (Nt.hf p) with h' | h' <;> rw [h, h'] <;> simp

theorem impl_power_l (x : Int) (hx : -5000 ≤ x ∧ x ≤ 5000) (n : Nat) (hn : n ≤ 4) : ∀ (d i : Nat), i + d = n → Ev (fun k => impl_power.l0 k x (x ^ i) (n : Int) (i : Int)) (x ^ n)
  | 0, i, h => by
    refine Ev.succ ?_
    simp only [impl_power.l0]
    refine Ev.neg (by omega) (Ev.ret ?_)
    rw [show i = n by omega]
  | d + 1, i, h => by
    refine Ev.succ ?_
    simp only [impl_power.l0]
    refine Ev.pos (by omega) ?_
    have hb : -625000000000000 ≤ x ^ i ∧ x ^ i ≤ 625000000000000 := by
      have h1 : (x ^ i).natAbs ≤ 5000 ^ 4 := by
        rw [Int.natAbs_pow]
        exact Nat.le_trans (Nat.pow_le_pow_left (show x.natAbs ≤ 5000 by omega) i) (Nat.pow_le_pow_right (by omega) (by omega))
      omega
    have hb2 : -3125000000000000000 ≤ x ^ i * x ∧ x ^ i * x ≤ 3125000000000000000 := by
      have h1 : (x ^ i * x).natAbs ≤ 625000000000000 * 5000 := by
        rw [Int.natAbs_mul]
        exact Nat.mul_le_mul (by omega) (by omega)
      omega
    rw [w64 (x := x ^ i * x) (by omega) (by omega), w64 (by omega) (by omega), cast_succ, ← Int.pow_succ]
    exact impl_power_l x hx n hn d (i + 1) (by omega)
theorem impl_power_ev {x e : Int} (hx : -5000 ≤ x ∧ x ≤ 5000) (n : Nat) (he : e = n) (hn : n ≤ 4) : Ev (fun k => impl_power.f k x e) (x ^ n) := by
  subst he
  unfold impl_power.f
  simpa using impl_power_l x hx n hn n 0 (by omega)
theorem impl_power_par {x e : Int} (hx : -5000 ≤ x ∧ x ≤ 5000) (n : Nat) (he : e = ((n % 2 : Nat) : Int)) : Ev (fun k => impl_power.f k x e) (Nt.pw x n) := by
  refine Ev.to (impl_power_ev hx (n % 2) he (by omega)) ?_
  rw [pw_if]
  rcases Nat.mod_two_eq_zero_or_one n with h | h <;> rw [h] <;> simp [Int.pow_succ]
theorem impl_power_l5 (x : Int) (hx : -5000 ≤ x ∧ x ≤ 5000) (n : Nat) (hn : n ≤ 5) : ∀ (d i : Nat), i + d = n → Ev (fun k => impl_power.l0 k x (x ^ i) (n : Int) (i : Int)) (x ^ n)
  | 0, i, h => by
    refine Ev.succ ?_
    simp only [impl_power.l0]
    refine Ev.neg (by omega) (Ev.ret ?_)
    rw [show i = n by omega]
  | d + 1, i, h => by
    refine Ev.succ ?_
    simp only [impl_power.l0]
    refine Ev.pos (by omega) ?_
    have hb : -625000000000000 ≤ x ^ i ∧ x ^ i ≤ 625000000000000 := by
      have h1 : (x ^ i).natAbs ≤ 5000 ^ 4 := by
        rw [Int.natAbs_pow]
        exact Nat.le_trans (Nat.pow_le_pow_left (show x.natAbs ≤ 5000 by omega) i) (Nat.pow_le_pow_right (by omega) (by omega))
      omega
    have hb2 : -3125000000000000000 ≤ x ^ i * x ∧ x ^ i * x ≤ 3125000000000000000 := by
      have h1 : (x ^ i * x).natAbs ≤ 625000000000000 * 5000 := by
        rw [Int.natAbs_mul]
        exact Nat.mul_le_mul (by omega) (by omega)
      omega
    rw [w64 (x := x ^ i * x) (by omega) (by omega), w64 (by omega) (by omega), cast_succ, ← Int.pow_succ]
    exact impl_power_l5 x hx n hn d (i + 1) (by omega)
theorem impl_power_ev5 {x e : Int} (hx : -5000 ≤ x ∧ x ≤ 5000) (n : Nat) (he : e = n) (hn : n ≤ 5) : Ev (fun k => impl_power.f k x e) (x ^ n) := by
  subst he
  unfold impl_power.f
  simpa using impl_power_l5 x hx n hn n 0 (by omega)

theorem impl_rest_eq {a m : Int} (hm : 0 < m) (hm2 : m ≤ 1000000) : impl_rest.f a m = some (a % m) := by
  unfold impl_rest.f
  have := Nt.rest_bd (a := a) hm
  rw [if_neg (by omega), w64 (by omega) (by omega), Nt.rest_eq hm]

theorem impl_residue_l {p u : Int} (hp : Nt.Pr p) (h2 : p ≠ 2) (hp5 : p ≤ 5000) (hu : ¬ p ∣ u) : ∀ (d : Nat) (x : Int), 1 ≤ x → x ≤ p → (p - x).toNat ≤ d → (∀ y, 1 ≤ y → y < x → y * y % p ≠ u % p) →
    Ev (fun k => impl_residue.l0 k p (u % p) x) (Nt.leg u p) := by
  have hp1 := hp.1
  intro d
  induction d with
  | zero =>
    intro x h1 h3 hd hy
    refine Ev.succ ?_
    simp only [impl_residue.l0]
    rw [tdiv_ediv (by omega), w64 (by omega) (by omega)]
    refine Ev.neg (by omega) (Ev.ret ?_)
    refine ((Nt.leg_pm hu).resolve_left fun h => ?_).symm
    obtain ⟨y, y1, y2, y3⟩ := (Nt.leg_search hp h2 hu).1 h
    exact hy y y1 (by omega) y3
  | succ d ih =>
    intro x h1 h3 hd hy
    have hs := small_sq (m := x) (by omega) (by omega)
    refine Ev.succ ?_
    simp only [impl_residue.l0]
    rw [tdiv_ediv (a := p) (by omega), w64 (x := p / 2) (by omega) (by omega)]
    by_cases hle : x ≤ p / 2
    · refine Ev.pos hle (Ev.neg (by omega) ?_)
      rw [w64 (x := x * x) (by omega) (by omega), tmod_emod (by omega)]
      by_cases he : x * x % p = u % p
      · refine Ev.pos he (Ev.ret ?_)
        exact ((Nt.leg_search hp h2 hu).2 ⟨x, h1, hle, he⟩).symm
      · refine Ev.neg he ?_
        rw [w64 (by omega) (by omega)]
        refine ih (x + 1) (by omega) (by omega) (by omega) (fun y y1 y2 => ?_)
        by_cases e : y = x
        · rw [e]; exact he
        · exact hy y y1 (by omega)
    · refine Ev.neg hle (Ev.ret ?_)
      refine ((Nt.leg_pm hu).resolve_left fun h => ?_).symm
      obtain ⟨y, y1, y2, y3⟩ := (Nt.leg_search hp h2 hu).1 h
      exact hy y y1 (by omega) y3

theorem impl_residue_ev {p u : Int} (hp : Nt.Pr p) (h2 : p ≠ 2) (hp5 : p ≤ 5000) : Ev (fun k => impl_residue.f k u p) (Nt.leg u p) := by
  unfold impl_residue.f
  rw [impl_rest_eq hp.pos (by omega)]
  refine Ev.sbind ?_
  by_cases h : p ∣ u
  · refine Ev.pos (Int.emod_eq_zero_of_dvd h) (Ev.ret ?_)
    exact (Nt.leg_zero h).symm
  · refine Ev.neg (fun e => h (Int.dvd_of_emod_eq_zero e)) ?_
    exact impl_residue_l hp h2 hp5 h _ 1 (by omega) (by have := hp.1; omega) (Nat.le_refl _) (fun y h1 h2 => by omega)

theorem pw_bd {x : Int} (hx : -1 ≤ x ∧ x ≤ 1) (n : Nat) : -1 ≤ Nt.pw x n ∧ Nt.pw x n ≤ 1 := by rw [pw_if]; split <;> omega
theorem tri_mul {x y : Int} (hx : -1 ≤ x ∧ x ≤ 1) (hy : -1 ≤ y ∧ y ≤ 1) : -1 ≤ x * y ∧ x * y ≤ 1 := by
  rcases (by omega : x = -1 ∨ x = 0 ∨ x = 1) with h | h | h <;> rw [h] <;> omega

theorem impl_symbol_ev {a b p : Int} (hp : Nt.Pl p) (hp5 : p ≤ 5000) (ha : a ≠ 0) (hb : b ≠ 0) (ha2 : a.natAbs ≤ 1000000000000) (hb2 : b.natAbs ≤ 1000000000000) :
    Ev (fun k => impl_symbol.f k a b p) (Nt.hil a b p) := by
  unfold impl_symbol.f
  rcases hp with rfl | hp
  · refine Ev.pos rfl ?_
    unfold Nt.hil
    rw [if_pos rfl]
    refine Ev.by_ite (fun h1 => Ev.by_ite (fun h2 => Ev.ret (by rw [if_pos ⟨h1, h2⟩])) (fun h2 => Ev.ret (by rw [if_neg (fun h => h2 h.2)]))) (fun h1 => Ev.ret (by rw [if_neg (fun h => h1 h.1)]))
  · have hp1 := hp.1
    refine Ev.neg (by omega) (Ev.bind (impl_split_ev hp1 ha ha2) (Ev.bind (impl_split_ev hp1 hb hb2) ?_))
    dsimp only
    have i1 := vl_small (m := 40) hp1 ha (by omega)
    have j1 := vl_small (m := 40) hp1 hb (by omega)
    obtain ⟨a1, a2⟩ := Nt.vl_spec hp1 ha
    obtain ⟨b1, b2⟩ := Nt.vl_spec hp1 hb
    by_cases h2 : p = 2
    · subst h2
      have ou := Nt.odd_of a2
      have ov := Nt.odd_of b2
      refine Ev.pos rfl ?_
      rw [impl_rest_eq (by omega) (by omega), impl_rest_eq (by omega) (by omega)]
      refine Ev.sbind (Ev.sbind ?_)
      have hex := exp8 (i := Nt.vl a 2) (j := Nt.vl b 2) ou ov
      rw [Nt.hil_two]
      unfold Nt.hil2
      generalize Nt.vl a 2 = i at *
      generalize Nt.vl b 2 = j at *
      generalize Nt.un a 2 = u at *
      generalize Nt.un b 2 = v at *
      have u8 : u % 8 = 1 ∨ u % 8 = 3 ∨ u % 8 = 5 ∨ u % 8 = 7 := isq8 ou
      have v8 : v % 8 = 1 ∨ v % 8 = 3 ∨ v % 8 = 5 ∨ v % 8 = 7 := isq8 ov
      have su : 0 ≤ u % 8 * (u % 8) - 1 ∧ u % 8 * (u % 8) - 1 ≤ 48 := by rcases u8 with h | h | h | h <;> rw [h] <;> omega
      have sv : 0 ≤ v % 8 * (v % 8) - 1 ∧ v % 8 * (v % 8) - 1 ≤ 48 := by rcases v8 with h | h | h | h <;> rw [h] <;> omega
      have siv : 0 ≤ (i : Int) * (v % 8 * (v % 8) - 1) ∧ (i : Int) * (v % 8 * (v % 8) - 1) ≤ 40 * 48 := ⟨Int.mul_nonneg (by omega) sv.1, Int.mul_le_mul (by omega) sv.2 sv.1 (by omega)⟩
      have sju : 0 ≤ (j : Int) * (u % 8 * (u % 8) - 1) ∧ (j : Int) * (u % 8 * (u % 8) - 1) ≤ 40 * 48 := ⟨Int.mul_nonneg (by omega) su.1, Int.mul_le_mul (by omega) su.2 su.1 (by omega)⟩
      have hu2 : 0 ≤ (u % 8 - 1) / 2 ∧ (u % 8 - 1) / 2 ≤ 3 := by omega
      have hv2 : 0 ≤ (v % 8 - 1) / 2 ∧ (v % 8 - 1) / 2 ≤ 3 := by omega
      have suv : 0 ≤ (u % 8 - 1) / 2 * ((v % 8 - 1) / 2) ∧ (u % 8 - 1) / 2 * ((v % 8 - 1) / 2) ≤ 3 * 3 := ⟨Int.mul_nonneg hu2.1 hv2.1, Int.mul_le_mul hu2.2 hv2.2 hv2.1 (by omega)⟩
      have q1 : wrap64 (u % 8 * (u % 8)) = u % 8 * (u % 8) := w64 (by omega) (by omega)
      have q2 : wrap64 (v % 8 * (v % 8)) = v % 8 * (v % 8) := w64 (by omega) (by omega)
      have q3 : wrap64 (u % 8 - 1) = u % 8 - 1 := w64 (by omega) (by omega)
      have q4 : wrap64 (v % 8 - 1) = v % 8 - 1 := w64 (by omega) (by omega)
      rw [q1, q2, q3, q4, w64 (x := u % 8 * (u % 8) - 1) (by omega) (by omega), w64 (x := v % 8 * (v % 8) - 1) (by omega) (by omega),
        w64 (x := (i : Int) * (v % 8 * (v % 8) - 1)) (by omega) (by omega), w64 (x := (j : Int) * (u % 8 * (u % 8) - 1)) (by omega) (by omega),
        tdiv_ediv siv.1, tdiv_ediv sju.1, tdiv_ediv (a := u % 8 - 1) (by omega), tdiv_ediv (a := v % 8 - 1) (by omega)]
      generalize (i : Int) * (v % 8 * (v % 8) - 1) = A at *
      generalize (j : Int) * (u % 8 * (u % 8) - 1) = B at *
      rw [w64 (x := (u % 8 - 1) / 2) (by omega) (by omega), w64 (x := (v % 8 - 1) / 2) (by omega) (by omega)]
      generalize (u % 8 - 1) / 2 * ((v % 8 - 1) / 2) = C at *
      rw [w64 (x := A / 8) (by omega) (by omega), w64 (x := B / 8) (by omega) (by omega), w64 (x := C) (by omega) (by omega), w64 (x := C + A / 8) (by omega) (by omega), w64 (x := C + A / 8 + B / 8) (by omega) (by omega), tmod_emod (by omega)]
      exact Ev.bind (impl_power_par (by omega) _ (by rw [hex]; omega)) (Ev.now _)
    · have h3 := Nt.odd_ge hp h2
      have ho := Nt.odd_odd hp h2
      refine Ev.neg h2 ?_
      unfold Nt.hil
      rw [if_neg (by omega), if_neg h2]
      unfold Nt.hilp
      rw [leg_neg hp h2]
      have lu := Nt.leg_range (Nt.un a p) p
      have lv := Nt.leg_range (Nt.un b p) p
      have hij : 0 ≤ (Nt.vl a p : Int) * (Nt.vl b p : Int) ∧ (Nt.vl a p : Int) * (Nt.vl b p : Int) ≤ 40 * 40 := ⟨Int.mul_nonneg (by omega) (by omega), Int.mul_le_mul (by omega) (by omega) (by omega) (by omega)⟩
      have hijp : 0 ≤ (Nt.vl a p : Int) * (Nt.vl b p : Int) * (p - 1) ∧ (Nt.vl a p : Int) * (Nt.vl b p : Int) * (p - 1) ≤ 1600 * 5000 := ⟨Int.mul_nonneg hij.1 (by omega), Int.mul_le_mul (by omega) (by omega) (by omega) (by omega)⟩
      have ee : (Nt.vl a p : Int) * (Nt.vl b p : Int) * (p - 1) / 2 = ((Nt.vl a p * Nt.vl b p * Nt.hf p : Nat) : Int) := by
        have : p - 1 = 2 * (Nt.hf p : Int) := by unfold Nt.hf; omega
        rw [this]
        push_cast
        rw [show (Nt.vl a p : Int) * (Nt.vl b p : Int) * (2 * (Nt.hf p : Int)) = 2 * ((Nt.vl a p : Int) * (Nt.vl b p : Int) * (Nt.hf p : Int)) by grind]
        omega
      rw [w64 (x := (Nt.vl a p : Int) * (Nt.vl b p : Int)) (by omega) (by omega), w64 (x := p - 1) (by omega) (by omega), w64 (x := (Nt.vl a p : Int) * (Nt.vl b p : Int) * (p - 1)) (by omega) (by omega), tdiv_ediv hijp.1, ee, w64 (by omega) (by omega)]
      refine Ev.bind (impl_power_par (by omega) (Nt.vl a p * Nt.vl b p * Nt.hf p) (by rw [tmod_emod (by omega)]; omega)) ?_
      refine Ev.bind (impl_residue_ev hp h2 hp5) (Ev.bind (impl_power_par (by omega) (Nt.vl b p) (by rw [tmod_emod (by omega)]; omega)) ?_)
      refine Ev.bind (impl_residue_ev hp h2 hp5) (Ev.bind (impl_power_par (by omega) (Nt.vl a p) (by rw [tmod_emod (by omega)]; omega)) ?_)
      have x1 := pw_bd (x := -1) (by omega) (Nt.vl a p * Nt.vl b p * Nt.hf p)
      have x2 := pw_bd lu (Nt.vl b p)
      have x3 := pw_bd lv (Nt.vl a p)
      have x4 := tri_mul x1 x2
      have x5 := tri_mul x4 x3
      rw [w64 (x := Nt.pw (-1) _ * Nt.pw _ _) (by omega) (by omega), w64 (by omega) (by omega)]
      exact Ev.now _

/-- Is it a number? -/
def isN (a : Int) : Bool := decide (-5000 ≤ a ∧ a ≤ 5000)
theorem isN_iff {a : Int} : isN a = true ↔ -5000 ≤ a ∧ a ≤ 5000 := by unfold isN; simp

theorem impl_isNumber_eq (a : Int) : impl_isNumber.f a = some (isN a) := by
  unfold impl_isNumber.f isN
  split
  · congr 1; simp only [decide_eq_decide]; omega
  · congr 1; simp; omega

theorem spec_l6In_eq (a b c : Int) : spec_l6In.f a b c = some (decide (b ≤ a ∧ a ≤ c)) := by
  unfold spec_l6In.f
  split
  · congr 1; simp only [decide_eq_decide]; omega
  · congr 1; simp; omega

theorem spec_l1Number_eq (a : Int) : spec_l1Number.f a = some (isN a) := by
  unfold spec_l1Number.f isN
  rw [spec_l6In_eq]; rfl

/-- Are both numbers that are not 0? -/
def isB (a b : Int) : Bool := decide (a ≠ 0 ∧ b ≠ 0 ∧ -5000 ≤ a ∧ a ≤ 5000 ∧ -5000 ≤ b ∧ b ≤ 5000)
theorem isB_iff {a b : Int} : isB a b = true ↔ a ≠ 0 ∧ b ≠ 0 ∧ -5000 ≤ a ∧ a ≤ 5000 ∧ -5000 ≤ b ∧ b ≤ 5000 := by unfold isB; simp
theorem impl_bothNumbers_eq (a b : Int) : impl_bothNumbers.f a b = some (isB a b) := by
  unfold impl_bothNumbers.f isB
  simp only [impl_isNumber_eq, Option.bind_some]
  unfold isN
  repeat' split
  all_goals (congr 1; simp_all)
  all_goals (intros; omega)

/-- All symbols are the same at some places. -/
def sameAt (a b c d : Int) (S : List Int) : Bool := S.all (fun p => decide (Nt.hil a b p = Nt.hil c d p))
theorem impl_SymbolSame_l {a b c d : Int} (h : isB a b = true) (h' : isB c d = true) (S : List Int) (hS : ∀ p ∈ S, Nt.Pl p ∧ p ≤ 5000) (hl : S.length ≤ 100) :
    ∀ (r : List Int) (i : Nat), S.drop i = r → Ev (fun k => impl_SymbolSame.l0 k a b c d S (S.length : Int) (i : Int)) (sameAt a b c d r)
  | [], i, h1 => by
    have := drop_nil h1
    refine Ev.succ ?_
    simp only [impl_SymbolSame.l0]
    exact Ev.neg (by omega) (Ev.ret (by simp [sameAt]))
  | p :: r, i, h1 => by
    obtain ⟨v1, v2, v3⟩ := drop_cons h1
    have hb := isB_iff.1 h
    have hb' := isB_iff.1 h'
    obtain ⟨q1, q2⟩ := hS p (v2 ▸ rd_mem v1)
    refine Ev.succ ?_
    simp only [impl_SymbolSame.l0]
    rw [v2, w64 (by omega) (by omega), cast_succ]
    refine Ev.pos (by omega) (Ev.pos (by omega) (Ev.pos (by omega) (Ev.bind (impl_symbol_ev q1 q2 hb.1 hb.2.1 (by omega) (by omega)) (Ev.bind (impl_symbol_ev q1 q2 hb'.1 hb'.2.1 (by omega) (by omega)) ?_))))
    by_cases e : Nt.hil a b p = Nt.hil c d p
    · refine Ev.pos e (Ev.to (impl_SymbolSame_l h h' S hS hl r (i + 1) v3) ?_)
      simp [sameAt, e]
    · exact Ev.neg e (Ev.ret (by simp [sameAt, e]))
theorem impl_SymbolSame_no {a b c d : Int} (h : ¬ (isB a b = true ∧ isB c d = true)) : Ev (fun k => impl_SymbolSame.f k a b c d) false := by
  unfold impl_SymbolSame.f
  rw [impl_bothNumbers_eq, impl_bothNumbers_eq]
  refine Ev.sbind ?_
  by_cases h1 : isB a b = true
  · refine Ev.pos h1 (Ev.sbind (Ev.succ ?_))
    simp only [impl_SymbolSame.j0]
    exact Ev.pos (by simpa using fun h2 => h ⟨h1, h2⟩) (Ev.now _)
  · refine Ev.neg h1 (Ev.succ ?_)
    simp only [impl_SymbolSame.j0]
    exact Ev.pos (by simp) (Ev.now _)
theorem impl_SymbolSame_ev100 {a b c d : Int} (h : isB a b = true) (h' : isB c d = true) (hcount : ∀ o, Got (fun p => ∃ n ∈ [a, b, c, d], p ∣ n) o → o.length ≤ 100) :
    ∃ S, IsPlaces (fun p => ∃ n ∈ [a, b, c, d], p ∣ n) S ∧ Ev (fun k => impl_SymbolSame.f k a b c d) (sameAt a b c d S) := by
  have hb := isB_iff.1 h
  have hb' := isB_iff.1 h'
  obtain ⟨S, s1, s2⟩ := impl_placesOf_ev100 (L := [a, b, c, d]) (by simp) (by
    intro n hn
    simp only [List.mem_cons, List.not_mem_nil, or_false] at hn
    rcases hn with rfl | rfl | rfl | rfl
    · exact ⟨hb.1, by omega⟩
    · exact ⟨hb.2.1, by omega⟩
    · exact ⟨hb'.1, by omega⟩
    · exact ⟨hb'.2.1, by omega⟩) hcount
  refine ⟨S, s1, ?_⟩
  have hS : ∀ p ∈ S, Nt.Pl p ∧ p ≤ 5000 := by
    intro p hp
    refine ⟨s1.pl p hp, ?_⟩
    rcases (s1.2 p).1 hp with rfl | rfl | ⟨h1, n, hn, hd⟩
    · omega
    · omega
    · have : n ≠ 0 ∧ n.natAbs ≤ 5000 := by
        simp only [List.mem_cons, List.not_mem_nil, or_false] at hn
        rcases hn with rfl | rfl | rfl | rfl
        · exact ⟨hb.1, by omega⟩
        · exact ⟨hb.2.1, by omega⟩
        · exact ⟨hb'.1, by omega⟩
        · exact ⟨hb'.2.1, by omega⟩
      have := Int.le_of_dvd (show 0 < ((n.natAbs : Nat) : Int) by omega) (Int.dvd_natAbs.2 hd); omega
  unfold impl_SymbolSame.f
  rw [impl_bothNumbers_eq, impl_bothNumbers_eq]
  refine Ev.sbind (Ev.pos h (Ev.sbind (Ev.succ ?_)))
  simp only [impl_SymbolSame.j0]
  refine Ev.neg (by simp [h']) (Ev.bind s2 ?_)
  exact impl_SymbolSame_l h h' S hS (hcount S ⟨asc_nodup s1.1, s1.2⟩) S 0 rfl
theorem impl_SymbolSame_ev {a b c d : Int} (h : isB a b = true) (h' : isB c d = true) (hcount : ∀ o, Got (fun p => ∃ n ∈ [a, b, c, d], p ∣ n) o → o.length ≤ 12) :
    ∃ S, IsPlaces (fun p => ∃ n ∈ [a, b, c, d], p ∣ n) S ∧ Ev (fun k => impl_SymbolSame.f k a b c d) (sameAt a b c d S) :=
  impl_SymbolSame_ev100 h h' (fun o h => by have := hcount o h; omega)

/-- The places of two numbers. -/
def QQ (a b p : Int) : Prop := p ∣ a ∨ p ∣ b
theorem two_count {a b : Int} (h : isB a b = true) : ∀ o, Got (fun p => ∃ n ∈ [a, b], p ∣ n) o → o.length ≤ 12 := by
  intro o ho
  obtain ⟨h1, h2, h3, h4, h5, h6⟩ := isB_iff.1 h
  obtain ⟨A, a1, _⟩ := impl_primesOf_ev h1 (by omega)
  obtain ⟨B, b1, _⟩ := impl_primesOf_ev h2 (by omega)
  have la := Nt.four_odd h1 (by omega) (a1.1.sublist (List.filter_sublist (p := fun p => decide (p ≠ 2)))) (fun p hp => by
    obtain ⟨k1, k2⟩ := List.mem_filter.1 hp
    have := (a1.2 p).1 k1
    exact ⟨this.1, by simpa using k2, this.2⟩)
  have lb := Nt.four_odd h2 (by omega) (b1.1.sublist (List.filter_sublist (p := fun p => decide (p ≠ 2)))) (fun p hp => by
    obtain ⟨k1, k2⟩ := List.mem_filter.1 hp
    have := (b1.2 p).1 k1
    exact ⟨this.1, by simpa using k2, this.2⟩)
  have := Nt.length_le_of_sub (M := [0, 2] ++ A.filter (fun p => decide (p ≠ 2)) ++ B.filter (fun p => decide (p ≠ 2))) ho.1 (fun x hx => by
    simp only [List.mem_append, List.mem_filter, decide_eq_true_eq]
    rcases (ho.2 x).1 hx with hq | hq | ⟨hq, n, hn, hd⟩
    · exact .inl (.inl (by simp [hq]))
    · exact .inl (.inl (by simp [hq]))
    · by_cases e : x = 2
      · exact .inl (.inl (by simp [e]))
      · simp only [List.mem_cons, List.not_mem_nil, or_false] at hn
        rcases hn with rfl | rfl
        · exact .inl (.inr ⟨(a1.2 x).2 ⟨hq, hd⟩, e⟩)
        · exact .inr ⟨(b1.2 x).2 ⟨hq, hd⟩, e⟩)
  simp only [List.length_append, List.length_cons, List.length_nil] at this
  omega
theorem two_places {a b : Int} (h : isB a b = true) : ∃ S, IsPlaces (QQ a b) S ∧ S.length ≤ 12 ∧ (∀ p ∈ S, p ≤ 5000) ∧ Ev (fun k => impl_placesOf.f k [a, b]) S := by
  have hb := isB_iff.1 h
  obtain ⟨S, s1, s2⟩ := impl_placesOf_ev (L := [a, b]) (by simp) (by
    intro n hn
    simp only [List.mem_cons, List.not_mem_nil, or_false] at hn
    rcases hn with rfl | rfl
    · exact ⟨hb.1, by omega⟩
    · exact ⟨hb.2.1, by omega⟩) (two_count h)
  have s1' : IsPlaces (QQ a b) S := ⟨s1.1, fun p => by rw [s1.2]; simp [QQ]⟩
  refine ⟨S, s1', two_count h S ⟨asc_nodup s1.1, s1.2⟩, fun p hp => ?_, s2⟩
  rcases (s1'.2 p).1 hp with rfl | rfl | ⟨h1, h2 | h2⟩
  · omega
  · omega
  · have := Int.le_of_dvd (show 0 < ((a.natAbs : Nat) : Int) by omega) (Int.dvd_natAbs.2 h2); omega
  · have := Int.le_of_dvd (show 0 < ((b.natAbs : Nat) : Int) by omega) (Int.dvd_natAbs.2 h2); omega
/-- The places at which the symbol is -1. -/
def bad (a b : Int) (S : List Int) : List Int := S.filter (fun p => decide (Nt.hil a b p = -1))

theorem smx_abs (t : Int) : mx t (-t) = (t.natAbs : Int) := by unfold mx; split <;> omega
theorem spec_l1Size_eq {t : Int} (h : t.natAbs ≤ 1000000000000) : spec_l1Size.f t = some (t.natAbs : Int) := by
  unfold spec_l1Size.f
  rw [w64 (by omega) (by omega), smx_abs]

theorem ssq_small {p : Int} (h0 : 0 ≤ p) (h : p ≤ 1000001) : 0 ≤ p * p ∧ p * p ≤ 1000002000001 := by
  have h1 : p * p ≤ 1000001 * 1000001 := Int.mul_le_mul h h (by omega) (by omega)
  have h2 := Int.mul_nonneg h0 h0
  omega
theorem ssq_lt {p n : Int} (h : p * p ≤ n) (hn : n ≤ 1000000000000) (h0 : 0 ≤ p) : p ≤ 1000000 := by
  rcases Int.lt_or_le 1000000 p with h' | h'
  · have : 1000001 * 1000001 ≤ p * p := Int.mul_le_mul (by omega) (by omega) (by omega) (by omega)
    omega
  · exact h'
theorem spec_l1Primes_in {L out : List Int} {p : Int} (h2 : 2 ≤ p) (h3 : p ≤ 1000001) : ∀ (d : Nat) (n : Int), n ≠ 0 → n.natAbs ≤ d → d ≤ 1000000000000 →
    Ev (fun k => spec_l1Primes.l0 k (Nt.un n p) out (p + 1)) L → Ev (fun k => spec_l1Primes.l1 k n out p) L := by
  intro d
  induction d with
  | zero => intro n h0 hd; omega
  | succ d ih =>
    intro n h0 hd hd2 h
    refine Ev.succ ?_
    simp only [spec_l1Primes.l1]
    by_cases ht : Int.tmod n p = 0
    · obtain ⟨a1, a2, a3, a4⟩ := div_facts h2 h0 ht
      rw [w64 (x := Int.tdiv n p) (by omega) (by omega)]
      refine Ev.neg (by omega) (Ev.pos ht (ih (Int.tdiv n p) a1 (by omega) (by omega) ?_))
      rw [← a4]; exact h
    · obtain ⟨a1, a2⟩ := div_none h2 h0 ht
      rw [w64 (x := p + 1) (by omega) (by omega)]
      refine Ev.neg (by omega) (Ev.neg ht ?_)
      rw [a2] at h; exact h
theorem spec_l1Primes_l {N : Int} (hN : N ≤ 1000000000000) : ∀ (d : Nat) (n p : Int) (out : List Int), (1000001 - p).toNat ≤ d → 2 ≤ p → p ≤ 1000001 → (out.length : Int) ≤ p → Nt.St N n p out →
    ∃ L, Nt.IsPL N L ∧ Ev (fun k => spec_l1Primes.l0 k n out p) L := by
  intro d
  induction d with
  | zero =>
    intro n p out hd h2 h3 ho hS
    have hs := ssq_small (p := p) (by omega) h3
    have hle : n < p * p := by
      have e : p = 1000001 := by omega
      subst e
      have := hS.2.1
      omega
    refine ⟨_, hS.last h2 hle, Ev.succ ?_⟩
    simp only [spec_l1Primes.l0]
    rw [w64 (by omega) (by omega)]
    refine Ev.neg (by omega) ?_
    by_cases hn : n > 1
    · exact Ev.pos hn (Ev.pos (by omega) (Ev.ret (if_pos hn).symm))
    · exact Ev.neg hn (Ev.ret (if_neg hn).symm)
  | succ d ih =>
    intro n p out hd h2 h3 ho hS
    have hs := ssq_small (p := p) (by omega) h3
    have b1 := hS.1
    have b2 := hS.2.1
    by_cases hle : p * p ≤ n
    · have hp6 := ssq_lt hle (by omega) (by omega)
      by_cases hdv : p ∣ n
      · obtain ⟨L, h4, h5⟩ := ih (Nt.un n p) (p + 1) (out ++ [p]) (by omega) (by omega) (by omega) (by simp; omega) (hS.step h2 hdv)
        refine ⟨L, h4, Ev.succ ?_⟩
        simp only [spec_l1Primes.l0]
        rw [w64 (x := p * p) (by omega) (by omega)]
        refine Ev.pos hle (Ev.neg (by omega) (Ev.pos (Nt.tmod_zero_iff.2 hdv) (Ev.pos (by omega) (Ev.succ ?_))))
        simp only [spec_l1Primes.j1]
        exact spec_l1Primes_in h2 h3 _ n (by omega) (Nat.le_refl _) (by omega) h5
      · obtain ⟨L, h4, h5⟩ := ih n (p + 1) out (by omega) (by omega) (by omega) (by omega) (hS.skip hdv)
        refine ⟨L, h4, Ev.succ ?_⟩
        simp only [spec_l1Primes.l0]
        rw [w64 (x := p * p) (by omega) (by omega)]
        refine Ev.pos hle (Ev.neg (by omega) (Ev.neg (fun h => hdv (Nt.tmod_zero_iff.1 h)) (Ev.succ ?_)))
        simp only [spec_l1Primes.j1]
        refine spec_l1Primes_in h2 h3 _ n (by omega) (Nat.le_refl _) (by omega) ?_
        rw [(div_none h2 (by omega) (fun h => hdv (Nt.tmod_zero_iff.1 h))).2]; exact h5
    · refine ⟨_, hS.last h2 (by omega), Ev.succ ?_⟩
      simp only [spec_l1Primes.l0]
      rw [w64 (by omega) (by omega)]
      refine Ev.neg (by omega) ?_
      by_cases hn : n > 1
      · exact Ev.pos hn (Ev.pos (by omega) (Ev.ret (if_pos hn).symm))
      · exact Ev.neg hn (Ev.ret (if_neg hn).symm)
theorem spl_abs {n : Int} {L : List Int} (h : Nt.IsPL (n.natAbs : Int) L) : Nt.IsPL n L := ⟨h.1, fun p => by rw [h.2, Int.dvd_natAbs]⟩
theorem spec_l1Primes_ev {n : Int} (hn : n ≠ 0) (hn2 : n.natAbs ≤ 1000000000000) : ∃ L, Nt.IsPL n L ∧ Ev (fun k => spec_l1Primes.f k n) L := by
  obtain ⟨L, h1, h2⟩ := spec_l1Primes_l (N := (n.natAbs : Int)) (by omega) _ (n.natAbs : Int) 2 [] (Nat.le_refl _) (by omega) (by omega) (by simp) (Nt.St.start (by omega))
  refine ⟨L, spl_abs h1, ?_⟩
  unfold spec_l1Primes.f
  rw [spec_l1Size_eq (by omega)]
  exact Ev.sbind h2

theorem spec_l2Places_l (L : List Int) (hl : L.length ≤ 1000000) : ∀ (r o : List Int) (i : Nat), o.length ≤ i + 2 → L.drop i = r → Ev (fun k => spec_l2Places.l0 k o L (i : Int)) (o ++ r.filter (fun p => decide (p > 2)))
  | [], o, i, ho, h => by
    have := drop_nil h
    refine Ev.succ ?_
    simp only [spec_l2Places.l0]
    exact Ev.neg (by omega) (Ev.ret (by simp))
  | p :: r, o, i, ho, h => by
    obtain ⟨h1, h2, h3⟩ := drop_cons h
    refine Ev.succ ?_
    simp only [spec_l2Places.l0]
    rw [h2, w64 (by omega) (by omega), cast_succ]
    refine Ev.pos (by omega) (Ev.pos (by omega) ?_)
    by_cases c : p > 2
    · refine Ev.pos c (Ev.pos (by omega) (Ev.to (spec_l2Places_l L hl r (o ++ [p]) (i + 1) (by simp; omega) h3) ?_))
      simp [c]
    · refine Ev.neg c (Ev.to (spec_l2Places_l L hl r o (i + 1) (by omega) h3) ?_)
      simp [c]
theorem pl_len {n : Int} {L : List Int} (h : Nt.IsPL n L) (hn : n ≠ 0) (hn2 : n.natAbs ≤ 1000000000000) : L.length ≤ 1000000 := by
  -- a number of this size has few primes: their product divides it
  have hd := Nt.prod_dvd (l := L) (n := n) (asc_nodup h.1) (fun p hp => (h.2 p).1 hp)
  have hle := Int.le_of_dvd (show 0 < ((n.natAbs : Nat) : Int) by omega) (Int.dvd_natAbs.2 hd)
  have : ∀ l : List Int, (∀ p ∈ l, Nt.Pr p) → (l.length : Int) < 2 ^ l.length ∧ (2 : Int) ^ l.length ≤ Nt.prod l := by
    intro l hp
    induction l with
    | nil => simp [Nt.prod]
    | cons p l ih =>
      obtain ⟨a, b⟩ := ih (fun q hq => hp q (by simp [hq]))
      have h2 := (hp p (by simp)).1
      have : 2 * 2 ^ l.length ≤ p * Nt.prod l := Int.mul_le_mul h2 b (by omega) (by omega)
      simp only [List.length_cons, Int.pow_succ, Nt.prod]
      omega
  obtain ⟨a, b⟩ := this L (fun p hp => ((h.2 p).1 hp).1)
  rcases Nat.lt_or_ge 40 L.length with h4 | h4
  · exfalso
    have : (2 : Int) ^ 41 ≤ 2 ^ L.length := by
      have := Nat.pow_le_pow_right (show 0 < 2 by omega) (show 41 ≤ L.length by omega)
      exact_mod_cast this
    omega
  · omega
theorem spec_l2Places_ev {n : Int} (hn : n ≠ 0) (hn2 : n.natAbs ≤ 1000000000000) : ∃ L, IsPlaces (fun p => p ∣ n) L ∧ Ev (fun k => spec_l2Places.f k n) L := by
  obtain ⟨L, h1, h2⟩ := spec_l1Primes_ev hn hn2
  refine ⟨[0, 2] ++ L.filter (fun p => decide (p > 2)), ⟨?_, fun p => ?_⟩, ?_⟩
  · rw [List.pairwise_append]
    refine ⟨by decide, h1.1.sublist List.filter_sublist, fun a ha b hb => ?_⟩
    have hb2 : b > 2 := by simpa using (List.mem_filter.1 hb).2
    simp at ha
    omega
  · simp only [List.mem_append, List.mem_filter, List.mem_cons, List.not_mem_nil, or_false, decide_eq_true_eq]
    rw [h1.2]
    constructor
    · rintro ((h | h) | ⟨h, h'⟩)
      · exact .inl h
      · exact .inr (.inl h)
      · exact .inr (.inr h)
    · rintro (h | h | h)
      · exact .inl (.inl h)
      · exact .inl (.inr h)
      · by_cases h2 : p = 2
        · exact .inl (.inr h2)
        · exact .inr ⟨h, by have := h.1.1; omega⟩
  · unfold spec_l2Places.f
    refine Ev.bind h2 ?_
    exact spec_l2Places_l L (pl_len h1 hn hn2) L [0, 2] 0 (by simp) rfl

theorem spec_l1Valuation_l {p : Int} (hp : 2 ≤ p) : ∀ (d : Nat) (n : Int) (v : Nat), n ≠ 0 → n.natAbs ≤ d → d ≤ 1000000000000 → v + n.natAbs ≤ 1000000000000 →
    Ev (fun k => spec_l1Valuation.l0 k n p (v : Int)) (((v + Nt.vl n p : Nat) : Int), Nt.un n p) := by
  intro d
  induction d with
  | zero => intro n v hn h; omega
  | succ d ih =>
    intro n v hn h hd hv
    refine Ev.succ ?_
    simp only [spec_l1Valuation.l0]
    refine Ev.neg (by omega) ?_
    by_cases ht : Int.tmod n p = 0
    · obtain ⟨h1, h2, h3, h4⟩ := div_facts hp hn ht
      refine Ev.pos ht ?_
      rw [w64 (x := Int.tdiv n p) (by omega) (by omega), w64 (by omega) (by omega), cast_succ]
      refine Ev.to (ih (Int.tdiv n p) (v + 1) h1 (by omega) (by omega) (by omega)) ?_
      rw [h3, h4]; congr 2; omega
    · refine Ev.neg ht (Ev.ret ?_)
      obtain ⟨h1, h2⟩ := div_none hp hn ht
      rw [h1, h2]; rfl
theorem spec_l1Valuation_ev {n p : Int} (hp : 2 ≤ p) (hn : n ≠ 0) (hb : n.natAbs ≤ 1000000000000) : Ev (fun k => spec_l1Valuation.f k n p) ((Nt.vl n p : Int), Nt.un n p) := by
  have := spec_l1Valuation_l hp _ n 0 hn (Nat.le_refl _) hb (by omega)
  unfold spec_l1Valuation.f
  simpa using this

theorem spec_l1Mod_eq {a m : Int} (hm : 0 < m) (hm2 : m ≤ 1000000) : spec_l1Mod.f a m = some (a % m) := by
  unfold spec_l1Mod.f
  have := Nt.rest_bd (a := a) hm
  rw [if_neg (by omega), w64 (by omega) (by omega), Nt.rest_eq hm]

theorem pow_split (x : Int) (e : Nat) : x ^ e = (x * x) ^ (e / 2) * (if e % 2 = 1 then x else 1) := by
  have h : x ^ e = x ^ (2 * (e / 2) + e % 2) := by congr 1; omega
  rw [h, Int.pow_add, Int.pow_mul]
  congr 1
  · congr 1; simp [Int.pow_succ]
  · rcases Nat.mod_two_eq_zero_or_one e with h | h <;> rw [h] <;> simp [Int.pow_succ]
theorem emod_pow_congr {a b m : Int} (h : a % m = b % m) : ∀ e : Nat, a ^ e % m = b ^ e % m
  | 0 => by rw [Int.pow_zero, Int.pow_zero]
  | e + 1 => by rw [Int.pow_succ, Int.pow_succ, Int.mul_emod, emod_pow_congr h e, h, ← Int.mul_emod]
theorem emod_mul_congr {a b c d m : Int} (h : a % m = b % m) (h' : c % m = d % m) : a * c % m = b * d % m := by
  rw [Int.mul_emod, h, h', ← Int.mul_emod]
theorem small_mul {a b m : Int} (ha : 0 ≤ a) (ha' : a ≤ m) (hb : 0 ≤ b) (hb' : b ≤ m) (hm : m ≤ 100000) : 0 ≤ a * b ∧ a * b ≤ 10000000000 := by
  have h1 : a * b ≤ 100000 * 100000 := Int.mul_le_mul (by omega) (by omega) hb (by omega)
  have h2 := Int.mul_nonneg ha hb
  omega

theorem spec_l1Power_l {m : Int} (hm : 1 < m) (hm2 : m ≤ 5000) : ∀ (d : Nat) (e : Nat) (x o : Int), e ≤ d → e ≤ 1000000 → 0 ≤ x → x < m → 0 ≤ o → o < m →
    Ev (fun k => spec_l1Power.l0 k x (e : Int) m o) (o * x ^ e % m) := by
  intro d
  induction d with
  | zero =>
    intro e x o he _ hx hx' ho ho'
    obtain rfl : e = 0 := by omega
    refine Ev.succ ?_
    simp only [spec_l1Power.l0]
    refine Ev.neg (by omega) (Ev.ret ?_)
    rw [Int.pow_zero, Int.mul_one, Int.emod_eq_of_lt ho ho']
  | succ d ih =>
    intro e x o he he2 hx hx' ho ho'
    refine Ev.succ ?_
    simp only [spec_l1Power.l0]
    by_cases h0 : e = 0
    · subst h0
      refine Ev.neg (by omega) (Ev.ret ?_)
      rw [Int.pow_zero, Int.mul_one, Int.emod_eq_of_lt ho ho']
    · refine Ev.pos (by omega) ?_
      have hxx := small_mul hx (by omega : x ≤ m) hx (by omega) (by omega)
      have hox := small_mul ho (by omega : o ≤ m) hx (by omega) (by omega)
      rw [tmod_emod (a := (e : Int)) (by omega), tdiv_ediv (a := (e : Int)) (by omega), w64 (x := (e : Int) / 2) (by omega) (by omega), w64 (x := x * x) (by omega) (by omega), w64 (x := o * x) (by omega) (by omega), tmod_emod hxx.1, tmod_emod hox.1]
      have e2 : ((e : Int) / 2) = ((e / 2 : Nat) : Int) := by omega
      rw [e2]
      have r1 := Int.emod_nonneg (x * x) (show m ≠ 0 by omega)
      have r2 := Int.emod_lt_of_pos (x * x) (show 0 < m by omega)
      have r3 := Int.emod_nonneg (o * x) (show m ≠ 0 by omega)
      have r4 := Int.emod_lt_of_pos (o * x) (show 0 < m by omega)
      have k1 := emod_pow_congr (Int.emod_emod (x * x) m) (e / 2)
      by_cases ho2 : (e : Int) % 2 = 1
      · refine Ev.pos ho2 (Ev.neg (by omega) (Ev.to (ih (e / 2) _ _ (by omega) (by omega) r1 r2 r3 r4) ?_))
        rw [pow_split x e, if_pos (by omega)]
        rw [emod_mul_congr (Int.emod_emod (o * x) m) k1]
        congr 1
        generalize (x * x) ^ (e / 2) = P
        grind
      · refine Ev.neg ho2 (Ev.neg (by omega) (Ev.to (ih (e / 2) _ _ (by omega) (by omega) r1 r2 ho ho') ?_))
        rw [pow_split x e, if_neg (by omega), Int.mul_one]
        exact emod_mul_congr rfl k1

theorem spec_l1Residue_ev {p u : Int} (hp : Nt.Pr p) (h2 : p ≠ 2) (hp5 : p ≤ 5000) : Ev (fun k => spec_l1Residue.f k u p) (Nt.leg u p) := by
  have h3 := Nt.odd_ge hp h2
  unfold spec_l1Residue.f spec_l1Power.f
  rw [w64 (x := p - 1) (by omega) (by omega), tdiv_ediv (by omega), w64 (by omega) (by omega)]
  have e : (p - 1) / 2 = (Nt.hf p : Int) := by unfold Nt.hf; omega
  rw [e, spec_l1Mod_eq hp.pos (by omega)]
  have r1 := Int.emod_nonneg u (show p ≠ 0 by omega)
  have r2 := Int.emod_lt_of_pos u (show 0 < p by omega)
  have hh : Nt.hf p ≤ 1000000 := by unfold Nt.hf; omega
  have h1 : (1 : Int) % p = 1 := Int.emod_eq_of_lt (by omega) (by omega)
  rw [h1]
  refine Ev.bind (Ev.neg (by omega) (Ev.sbind (spec_l1Power_l (by omega) hp5 _ (Nt.hf p) (u % p) 1 (Nat.le_refl _) hh r1 r2 (by omega) (by omega)))) ?_
  rw [Int.one_mul, emod_pow_congr (Int.emod_emod u p)]
  have hl := Nt.leg_of_pow (u := u) hp h2
  by_cases hc : u ^ Nt.hf p % p = p - 1
  · rw [if_pos hc] at hl
    exact Ev.pos hc (Ev.ret hl)
  · rw [if_neg hc] at hl
    exact Ev.neg hc (Ev.ret hl)

theorem spec_l3Half_eq (e : Int) : spec_l3Half.f e = some (if Int.tmod e 2 = 0 then 1 else -1) := by
  unfold spec_l3Half.f; split <;> rfl
theorem half_par {e : Int} (h0 : 0 ≤ e) (n : Nat) (h : e % 2 = (n : Int) % 2) : spec_l3Half.f e = some (Nt.pw (-1) n) := by
  rw [spec_l3Half_eq, tmod_emod h0, par_sign h]
theorem tri_mul' {x y : Int} (hx : -1 ≤ x ∧ x ≤ 1) (hy : -1 ≤ y ∧ y ≤ 1) : -1 ≤ x * y ∧ x * y ≤ 1 := by
  rcases (by omega : x = -1 ∨ x = 0 ∨ x = 1) with h | h | h <;> rw [h] <;> omega
theorem spec_l3Symbol_ev {a b p : Int} (hp : Nt.Pl p) (hp5 : p ≤ 5000) (ha : a ≠ 0) (hb : b ≠ 0) (ha2 : a.natAbs ≤ 1000000000000) (hb2 : b.natAbs ≤ 1000000000000) :
    Ev (fun k => spec_l3Symbol.f k a b p) (Nt.hil a b p) := by
  unfold spec_l3Symbol.f
  rcases hp with rfl | hp
  · refine Ev.pos rfl ?_
    unfold Nt.hil
    rw [if_pos rfl]
    refine Ev.by_ite (fun h1 => Ev.by_ite (fun h2 => Ev.ret (by rw [if_pos ⟨h1, h2⟩])) (fun h2 => Ev.ret (by rw [if_neg (fun h => h2 h.2)]))) (fun h1 => Ev.ret (by rw [if_neg (fun h => h1 h.1)]))
  · have hp1 := hp.1
    refine Ev.neg (by omega) (Ev.bind (spec_l1Valuation_ev hp1 ha ha2) (Ev.bind (spec_l1Valuation_ev hp1 hb hb2) ?_))
    dsimp only
    have i1 := vl_small (m := 40) hp1 ha (by omega)
    have j1 := vl_small (m := 40) hp1 hb (by omega)
    obtain ⟨a1, a2⟩ := Nt.vl_spec hp1 ha
    obtain ⟨b1, b2⟩ := Nt.vl_spec hp1 hb
    by_cases h2 : p = 2
    · subst h2
      have ou := Nt.odd_of a2
      have ov := Nt.odd_of b2
      refine Ev.pos rfl ?_
      rw [spec_l1Mod_eq (by omega) (by omega), spec_l1Mod_eq (by omega) (by omega)]
      refine Ev.sbind (Ev.sbind ?_)
      have hex := exp16 (i := Nt.vl a 2) (j := Nt.vl b 2) ou ov
      rw [Nt.hil_two]
      unfold Nt.hil2
      generalize Nt.vl a 2 = i at *
      generalize Nt.vl b 2 = j at *
      generalize Nt.un a 2 = u at *
      generalize Nt.un b 2 = v at *
      have u1 : 0 ≤ u % 16 ∧ u % 16 ≤ 15 ∧ 1 ≤ u % 16 := by omega
      have v1 : 0 ≤ v % 16 ∧ v % 16 ≤ 15 ∧ 1 ≤ v % 16 := by omega
      have su0 : 1 * 1 ≤ u % 16 * (u % 16) ∧ u % 16 * (u % 16) ≤ 15 * 15 := ⟨Int.mul_le_mul u1.2.2 u1.2.2 (by omega) (by omega), Int.mul_le_mul u1.2.1 u1.2.1 (by omega) (by omega)⟩
      have sv0 : 1 * 1 ≤ v % 16 * (v % 16) ∧ v % 16 * (v % 16) ≤ 15 * 15 := ⟨Int.mul_le_mul v1.2.2 v1.2.2 (by omega) (by omega), Int.mul_le_mul v1.2.1 v1.2.1 (by omega) (by omega)⟩
      have hu2 : 0 ≤ (u % 16 - 1) / 2 ∧ (u % 16 - 1) / 2 ≤ 7 := by omega
      have hv2 : 0 ≤ (v % 16 - 1) / 2 ∧ (v % 16 - 1) / 2 ≤ 7 := by omega
      have suv : 0 ≤ (u % 16 - 1) / 2 * ((v % 16 - 1) / 2) ∧ (u % 16 - 1) / 2 * ((v % 16 - 1) / 2) ≤ 7 * 7 := ⟨Int.mul_nonneg hu2.1 hv2.1, Int.mul_le_mul hu2.2 hv2.2 hv2.1 (by omega)⟩
      rw [w64 (x := u % 16 * (u % 16)) (by omega) (by omega), w64 (x := v % 16 * (v % 16)) (by omega) (by omega), w64 (x := u % 16 - 1) (by omega) (by omega), w64 (x := v % 16 - 1) (by omega) (by omega)]
      generalize u % 16 * (u % 16) = U at *
      generalize v % 16 * (v % 16) = V at *
      rw [w64 (x := U - 1) (by omega) (by omega), w64 (x := V - 1) (by omega) (by omega), tdiv_ediv (a := U - 1) (by omega), tdiv_ediv (a := V - 1) (by omega), tdiv_ediv (a := u % 16 - 1) (by omega), tdiv_ediv (a := v % 16 - 1) (by omega),
        w64 (x := (U - 1) / 8) (by omega) (by omega), w64 (x := (V - 1) / 8) (by omega) (by omega), w64 (x := (u % 16 - 1) / 2) (by omega) (by omega), w64 (x := (v % 16 - 1) / 2) (by omega) (by omega)]
      have siv : 0 ≤ (i : Int) * ((V - 1) / 8) ∧ (i : Int) * ((V - 1) / 8) ≤ 40 * 28 := ⟨Int.mul_nonneg (by omega) (by omega), Int.mul_le_mul (by omega) (by omega) (by omega) (by omega)⟩
      have sju : 0 ≤ (j : Int) * ((U - 1) / 8) ∧ (j : Int) * ((U - 1) / 8) ≤ 40 * 28 := ⟨Int.mul_nonneg (by omega) (by omega), Int.mul_le_mul (by omega) (by omega) (by omega) (by omega)⟩
      generalize (i : Int) * ((V - 1) / 8) = A at *
      generalize (j : Int) * ((U - 1) / 8) = B at *
      generalize (u % 16 - 1) / 2 * ((v % 16 - 1) / 2) = C at *
      rw [w64 (x := A) (by omega) (by omega), w64 (x := B) (by omega) (by omega), w64 (x := C) (by omega) (by omega), w64 (x := C + A) (by omega) (by omega), w64 (x := C + A + B) (by omega) (by omega)]
      rw [half_par (by omega) _ hex]
      exact Ev.sbind (Ev.now _)
    · have h3 := Nt.odd_ge hp h2
      have ho := Nt.odd_odd hp h2
      refine Ev.neg h2 ?_
      unfold Nt.hil
      rw [if_neg (by omega), if_neg h2]
      unfold Nt.hilp
      rw [leg_neg hp h2]
      have lu := Nt.leg_range (Nt.un a p) p
      have lv := Nt.leg_range (Nt.un b p) p
      have hij : 0 ≤ (Nt.vl a p : Int) * (Nt.vl b p : Int) ∧ (Nt.vl a p : Int) * (Nt.vl b p : Int) ≤ 40 * 40 := ⟨Int.mul_nonneg (by omega) (by omega), Int.mul_le_mul (by omega) (by omega) (by omega) (by omega)⟩
      have e1 : (p - 1) / 2 = (Nt.hf p : Int) := by unfold Nt.hf; omega
      have hf1 : Nt.hf p ≤ 5000 := by unfold Nt.hf; omega
      have hijp : 0 ≤ (Nt.vl a p : Int) * (Nt.vl b p : Int) * (Nt.hf p : Int) ∧ (Nt.vl a p : Int) * (Nt.vl b p : Int) * (Nt.hf p : Int) ≤ 1600 * 5000 := ⟨Int.mul_nonneg hij.1 (by omega), Int.mul_le_mul (by omega) (by omega) (by omega) (by omega)⟩
      rw [w64 (x := (Nt.vl a p : Int) * (Nt.vl b p : Int)) (by omega) (by omega), w64 (x := p - 1) (by omega) (by omega), tdiv_ediv (a := p - 1) (by omega), e1, w64 (x := (Nt.hf p : Int)) (by omega) (by omega), w64 (x := (Nt.vl a p : Int) * (Nt.vl b p : Int) * (Nt.hf p : Int)) (by omega) (by omega)]
      rw [half_par hijp.1 (Nt.vl a p * Nt.vl b p * Nt.hf p) (by push_cast; rfl)]
      refine Ev.sbind ?_
      have x1 : -1 ≤ Nt.pw (-1) (Nt.vl a p * Nt.vl b p * Nt.hf p) ∧ Nt.pw (-1) (Nt.vl a p * Nt.vl b p * Nt.hf p) ≤ 1 := by rw [pw_if]; split <;> omega
      generalize Nt.pw (-1) (Nt.vl a p * Nt.vl b p * Nt.hf p) = S at *
      rw [tmod_emod (a := (Nt.vl a p : Int)) (by omega), tmod_emod (a := (Nt.vl b p : Int)) (by omega), pw_if, pw_if]
      have x4 := tri_mul' x1 lu
      have x5 := tri_mul' x1 lv
      have x6 := tri_mul' x4 lv
      by_cases hj : Nt.vl b p % 2 = 1
      · rw [if_pos hj]
        refine Ev.pos (by omega) (Ev.bind (spec_l1Residue_ev hp h2 hp5) ?_)
        by_cases hi : Nt.vl a p % 2 = 1
        · rw [if_pos hi]
          refine Ev.pos (by omega) (Ev.bind (spec_l1Residue_ev hp h2 hp5) ?_)
          rw [w64 (x := S * _) (by omega) (by omega), w64 (by omega) (by omega)]
          exact Ev.now _
        · rw [if_neg hi, Int.mul_one]
          refine Ev.neg (by omega) ?_
          rw [w64 (by omega) (by omega)]
          exact Ev.now _
      · rw [if_neg hj, Int.mul_one]
        refine Ev.neg (by omega) ?_
        by_cases hi : Nt.vl a p % 2 = 1
        · rw [if_pos hi]
          refine Ev.pos (by omega) (Ev.bind (spec_l1Residue_ev hp h2 hp5) ?_)
          rw [w64 (by omega) (by omega)]
          exact Ev.now _
        · rw [if_neg hi, Int.mul_one]
          exact Ev.neg (by omega) (Ev.now _)

theorem spec_l3Ok_eq (a b : Int) : spec_l3Ok.f a b = some (isB a b) := by
  unfold spec_l3Ok.f isB
  simp only [spec_l1Number_eq, Option.bind_some]
  unfold isN
  repeat' split
  all_goals (congr 1; simp_all [bne])
  all_goals (first | rfl | (intros; omega) | (by_cases h : b = 0 <;> simp [h]))

theorem mul_nums {a b : Int} (h : isB a b = true) : a * b ≠ 0 ∧ (a * b).natAbs ≤ 25000000 := by
  have hb := isB_iff.1 h
  refine ⟨Int.mul_ne_zero hb.1 hb.2.1, ?_⟩
  rw [Int.natAbs_mul]
  exact Nat.le_trans (Nat.mul_le_mul (show a.natAbs ≤ 5000 by omega) (show b.natAbs ≤ 5000 by omega)) (by omega)
theorem spec_places {a b : Int} (h : isB a b = true) {S : List Int} (hS : IsPlaces (QQ a b) S) : Ev (fun k => spec_l2Places.f k (wrap64 (a * b))) S := by
  obtain ⟨m1, m2⟩ := mul_nums h
  rw [w64 (by omega) (by omega)]
  obtain ⟨L, l1, l2⟩ := spec_l2Places_ev m1 (by omega)
  have : S = L := hS.uniq l1 (fun p hp _ => ⟨fun h' => h'.elim (fun h => Int.dvd_trans h ⟨b, rfl⟩) (fun h => Int.dvd_trans h ⟨a, by rw [Int.mul_comm]⟩), fun h' => hp.dvd_mul h'⟩)
  rw [this]; exact l2
theorem spec_SymbolPlaces_l {a b : Int} (h : isB a b = true) (S : List Int) (hS : ∀ p ∈ S, Nt.Pl p ∧ p ≤ 5000) (hl : S.length ≤ 12) :
    ∀ (r o : List Int) (i : Nat), S.drop i = r → o.length ≤ i → Ev (fun k => spec_SymbolPlaces.l0 k a b o S (i : Int)) (o ++ bad a b r)
  | [], o, i, h1, ho => by
    have := drop_nil h1
    refine Ev.succ ?_
    simp only [spec_SymbolPlaces.l0]
    exact Ev.neg (by omega) (Ev.ret (by simp [bad]))
  | p :: r, o, i, h1, ho => by
    obtain ⟨v1, v2, v3⟩ := drop_cons h1
    have hb := isB_iff.1 h
    obtain ⟨q1, q2⟩ := hS p (v2 ▸ rd_mem v1)
    refine Ev.succ ?_
    simp only [spec_SymbolPlaces.l0]
    rw [v2, w64 (by omega) (by omega), cast_succ]
    refine Ev.pos (by omega) (Ev.pos (by omega) (Ev.bind (spec_l3Symbol_ev q1 q2 hb.1 hb.2.1 (by omega) (by omega)) ?_))
    by_cases c : Nt.hil a b p = -1
    · refine Ev.pos c (Ev.pos (by omega) (Ev.to (spec_SymbolPlaces_l h S hS hl r (o ++ [p]) (i + 1) v3 (by simp; omega)) ?_))
      simp [bad, c]
    · refine Ev.neg c (Ev.to (spec_SymbolPlaces_l h S hS hl r o (i + 1) v3 (by omega)) ?_)
      simp [bad, c]
theorem spec_SymbolPlaces_no {a b : Int} (h : ¬ isB a b = true) : Ev (fun k => spec_SymbolPlaces.f k a b) [] := by
  unfold spec_SymbolPlaces.f
  rw [spec_l3Ok_eq]
  exact Ev.sbind (Ev.sbind (Ev.neg h (Ev.now _)))
theorem spec_SymbolPlaces_ev {a b : Int} (h : isB a b = true) {S : List Int} (hS : IsPlaces (QQ a b) S) : Ev (fun k => spec_SymbolPlaces.f k a b) (bad a b S) := by
  obtain ⟨S', s1, s2, s3, s4⟩ := two_places h
  have := hS.uniq s1 (fun p _ _ => Iff.rfl)
  subst this
  unfold spec_SymbolPlaces.f
  rw [spec_l3Ok_eq]
  refine Ev.sbind (Ev.sbind (Ev.pos h (Ev.bind (spec_places h hS) ?_)))
  exact Ev.to (spec_SymbolPlaces_l h S (fun p hp => ⟨s1.pl p hp, s3 p hp⟩) s2 S [] 0 rfl (by simp)) (by simp)

theorem spec_same_l : ∀ (rx ry X Y : List Int) (i : Nat), X.length ≤ 1000 → Y.length = X.length → X.drop i = rx → Y.drop i = ry → Ev (fun k => spec_SymbolSame.l0 k X Y (i : Int)) (decide (rx = ry))
  | [], ry, X, Y, i, hl, he, h1, h2 => by
    have := drop_nil h1
    have hr : ry = [] := by rw [← h2]; exact List.drop_eq_nil_of_le (by omega)
    refine Ev.succ ?_
    simp only [spec_SymbolSame.l0]
    exact Ev.neg (by omega) (Ev.ret (by simp [hr]))
  | x :: rx, [], X, Y, i, hl, he, h1, h2 => by
    have := drop_nil h2
    obtain ⟨v1, _, _⟩ := drop_cons h1
    omega
  | x :: rx, y :: ry, X, Y, i, hl, he, h1, h2 => by
    obtain ⟨v1, v2, v3⟩ := drop_cons h1
    obtain ⟨w1, w2, w3⟩ := drop_cons h2
    refine Ev.succ ?_
    simp only [spec_SymbolSame.l0]
    rw [v2, w2, w64 (by omega) (by omega), cast_succ]
    refine Ev.pos (by omega) (Ev.pos (by omega) (Ev.pos (by omega) ?_))
    by_cases e : x = y
    · refine Ev.pos e (Ev.to (spec_same_l rx ry X Y (i + 1) hl he v3 w3) ?_)
      simp [e]
    · exact Ev.neg e (Ev.ret (by simp [e]))
theorem spec_SymbolSame_no {a b c d : Int} (h : ¬ (isB a b = true ∧ isB c d = true)) : Ev (fun k => spec_SymbolSame.f k a b c d) false := by
  unfold spec_SymbolSame.f
  rw [spec_l3Ok_eq, spec_l3Ok_eq]
  refine Ev.sbind ?_
  by_cases h1 : isB a b = true
  · refine Ev.pos h1 (Ev.sbind (Ev.succ ?_))
    simp only [spec_SymbolSame.j0]
    exact Ev.pos (by simpa using fun h2 => h ⟨h1, h2⟩) (Ev.now _)
  · refine Ev.neg h1 (Ev.succ ?_)
    simp only [spec_SymbolSame.j0]
    exact Ev.pos (by simp) (Ev.now _)
theorem bad_le {a b : Int} {S : List Int} (h : S.length ≤ 12) : (bad a b S).length ≤ 12 := by
  have := List.length_filter_le (fun p => decide (Nt.hil a b p = -1)) S
  unfold bad; omega
theorem spec_SymbolSame_ev {a b c d : Int} (h : isB a b = true) (h' : isB c d = true) {S T : List Int} (hS : IsPlaces (QQ a b) S) (hT : IsPlaces (QQ c d) T) :
    Ev (fun k => spec_SymbolSame.f k a b c d) (decide (bad a b S = bad c d T)) := by
  obtain ⟨S', s1, s2, _⟩ := two_places h
  obtain ⟨T', t1, t2, _⟩ := two_places h'
  have e1 := hS.uniq s1 (fun p _ _ => Iff.rfl)
  have e2 := hT.uniq t1 (fun p _ _ => Iff.rfl)
  subst e1
  subst e2
  have l1 := bad_le (a := a) (b := b) s2
  have l2 := bad_le (a := c) (b := d) t2
  unfold spec_SymbolSame.f
  rw [spec_l3Ok_eq, spec_l3Ok_eq]
  refine Ev.sbind (Ev.pos h (Ev.sbind (Ev.succ ?_)))
  simp only [spec_SymbolSame.j0]
  refine Ev.neg (by simp [h']) (Ev.bind (spec_SymbolPlaces_ev h hS) (Ev.bind (spec_SymbolPlaces_ev h' hT) ?_))
  by_cases e : ((bad a b S).length : Int) = ((bad c d T).length : Int)
  · exact Ev.pos e (spec_same_l _ _ _ _ 0 (by omega) (by omega) rfl rfl)
  · refine Ev.neg e (Ev.ret ?_)
    have : bad a b S ≠ bad c d T := fun h => e (by rw [h])
    simp [this]
/-- A symbol that is -1 is -1 at one of the places. -/
theorem hil_off {a b : Int} {S : List Int} (hS : IsPlaces (QQ a b) S) {p : Int} (hp : Nt.Pl p) (hm : p ∉ S) : Nt.hil a b p = 1 := by
  have h0 : p ≠ 0 := fun e => hm ((hS.2 p).2 (.inl e))
  have h2 : p ≠ 2 := fun e => hm ((hS.2 p).2 (.inr (.inl e)))
  have hpr := hp.resolve_left h0
  exact Nt.hil_unit hpr h2 (fun e => hm ((hS.2 p).2 (.inr (.inr ⟨hpr, .inl e⟩)))) (fun e => hm ((hS.2 p).2 (.inr (.inr ⟨hpr, .inr e⟩))))
theorem mem_bad {a b : Int} {S : List Int} (hS : IsPlaces (QQ a b) S) (p : Int) : p ∈ bad a b S ↔ Nt.Pl p ∧ Nt.hil a b p = -1 := by
  unfold bad
  rw [List.mem_filter]
  constructor
  · rintro ⟨h1, h2⟩; exact ⟨hS.pl p h1, by simpa using h2⟩
  · rintro ⟨h1, h2⟩
    refine ⟨?_, by simpa using h2⟩
    refine Classical.byContradiction fun hm => ?_
    rw [hil_off hS h1 hm] at h2
    omega
/-- Both ways of comparing agree. -/
theorem same_iff {a b c d : Int} (h : isB a b = true) (h' : isB c d = true) {S T U : List Int} (hS : IsPlaces (QQ a b) S) (hT : IsPlaces (QQ c d) T) (hU : IsPlaces (fun p => ∃ n ∈ [a, b, c, d], p ∣ n) U) :
    sameAt a b c d U = decide (bad a b S = bad c d T) ∧ (sameAt a b c d U = true → ∀ p, Nt.Pl p → Nt.hil a b p = Nt.hil c d p) := by
  have hb := isB_iff.1 h
  have hb' := isB_iff.1 h'
  have hall : sameAt a b c d U = true → ∀ p, Nt.Pl p → Nt.hil a b p = Nt.hil c d p := by
    intro hs p hp
    by_cases hm : p ∈ U
    · have := List.all_eq_true.1 hs p hm
      simpa using this
    · have k1 : p ∉ S := fun e => hm (by
        rw [hU.2]
        rcases (hS.2 p).1 e with e | e | ⟨e, f⟩
        · exact .inl e
        · exact .inr (.inl e)
        · exact .inr (.inr ⟨e, f.elim (fun g => ⟨a, by simp, g⟩) (fun g => ⟨b, by simp, g⟩)⟩))
      have k2 : p ∉ T := fun e => hm (by
        rw [hU.2]
        rcases (hT.2 p).1 e with e | e | ⟨e, f⟩
        · exact .inl e
        · exact .inr (.inl e)
        · exact .inr (.inr ⟨e, f.elim (fun g => ⟨c, by simp, g⟩) (fun g => ⟨d, by simp, g⟩)⟩))
      rw [hil_off hS hp k1, hil_off hT hp k2]
  refine ⟨?_, hall⟩
  rw [Bool.eq_iff_iff, decide_eq_true_eq]
  constructor
  · intro hs
    refine Nt.asc_ext (hS.1.sublist List.filter_sublist) (hT.1.sublist List.filter_sublist) (fun p => ?_)
    show p ∈ bad a b S ↔ p ∈ bad c d T
    rw [mem_bad hS, mem_bad hT]
    constructor
    · rintro ⟨k1, k2⟩; exact ⟨k1, by rw [← hall hs p k1]; exact k2⟩
    · rintro ⟨k1, k2⟩; exact ⟨k1, by rw [hall hs p k1]; exact k2⟩
  · intro he
    unfold sameAt
    rw [List.all_eq_true]
    intro p hp
    have hpl := hU.pl p hp
    have m1 := mem_bad hS p
    have m2 := mem_bad hT p
    rw [he] at m1
    rw [decide_eq_true_eq]
    rcases Nt.hil_pm hpl hb.1 hb.2.1 with e | e <;> rcases Nt.hil_pm hpl hb'.1 hb'.2.1 with f | f <;> rw [e, f]
    · have := m1.1 (m2.2 ⟨hpl, f⟩)
      omega
    · have := m2.1 (m1.2 ⟨hpl, e⟩)
      omega

theorem four_count {a b c d : Int} (h : isB a b = true) (h' : isB c d = true) : ∀ o, Got (fun p => ∃ n ∈ [a, b, c, d], p ∣ n) o → o.length ≤ 100 := by
  intro o ho
  obtain ⟨S, s1, s2, _⟩ := two_places h
  obtain ⟨T, t1, t2, _⟩ := two_places h'
  have := Nt.length_le_of_sub (M := S ++ T) ho.1 (fun x hx => by
    rw [List.mem_append, s1.2, t1.2]
    rcases (ho.2 x).1 hx with hq | hq | ⟨hq, n, hn, hd⟩
    · exact .inl (.inl hq)
    · exact .inl (.inr (.inl hq))
    · simp only [List.mem_cons, List.not_mem_nil, or_false] at hn
      rcases hn with rfl | rfl | rfl | rfl
      · exact .inl (.inr (.inr ⟨hq, .inl hd⟩))
      · exact .inl (.inr (.inr ⟨hq, .inr hd⟩))
      · exact .inr (.inr (.inr ⟨hq, .inl hd⟩))
      · exact .inr (.inr (.inr ⟨hq, .inr hd⟩)))
  simp only [List.length_append] at this
  omega
theorem the : laws_FnExactSymbolSame.Pure := by
  intro a b c d _ _ _ _
  refine Ev.rounds ?_
  unfold laws_FnExactSymbolSame.f
  by_cases h : isB a b = true ∧ isB c d = true
  · obtain ⟨S, s1, _⟩ := two_places h.1
    obtain ⟨T, t1, _⟩ := two_places h.2
    obtain ⟨U, u1, u2⟩ := impl_SymbolSame_ev100 h.1 h.2 (four_count h.1 h.2)
    have e := (same_iff h.1 h.2 s1 t1 u1).1
    refine Ev.bind (spec_SymbolSame_ev h.1 h.2 s1 t1) (Ev.bind u2 ?_)
    rw [e]
    first | exact Ev.pos rfl (Ev.now _) | exact Ev.neg (by simp) (Ev.now _) | (refine Ev.ret ?_; simp)
  · refine Ev.bind (spec_SymbolSame_no h) (Ev.bind (impl_SymbolSame_no h) ?_)
    first | exact Ev.pos rfl (Ev.now _) | exact Ev.neg (by simp) (Ev.now _) | (refine Ev.ret ?_; simp)

end Go.Proofs.Ytdeahlommlgceaa.KFnExactSymbolSame

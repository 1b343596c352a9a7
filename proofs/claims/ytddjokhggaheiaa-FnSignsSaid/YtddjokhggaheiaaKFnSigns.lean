/- What the printed functions of the law FnSigns compute, and why the law holds of it; for all arguments that its statement speaks of. -/
import Derived.Test.YtddjokhggaheiaaH
import Derived.Test.YtddjokhggaheiaaPFnSignsx3
set_option linter.unusedVariables false
set_option linter.unusedSimpArgs false
namespace Go.Proofs.Ytddjokhggaheiaa.KFnSigns
open Go.RowKit Go.Proofs.YtddjokhggaheiaaW.PrintWords Go.Proofs.YtddjokhggaheiaaW.PrintLast Go.Proofs.YtddjokhggaheiaaW.PrintMore Go.Proofs.Ytddjokhggaheiaa.PFnSigns Go.Proofs.Ytddjokhggaheiaa.K

/-- What a reader reads: bytes, not too many. -/
def BY (b : List Int) : Prop := b.length ≤ 2000 ∧ ∀ x ∈ b, 0 ≤ x ∧ x < 256

theorem BY.rd {b : List Int} (hb : BY b) {i : Int} (h0 : 0 ≤ i) (h1 : i < b.length) : 0 ≤ rd b i ∧ rd b i < 256 := by
  obtain ⟨n, rfl⟩ : ∃ n : Nat, i = n := ⟨i.toNat, by omega⟩
  exact hb.2 _ (rd_mem (by omega))

theorem xor_i64 (a b : Nat) (ha : a < 9223372036854775808) (hb : b < 9223372036854775808) : Go.bits .xor .i64 (a : Int) (b : Int) = ((a ^^^ b : Nat) : Int) := by
  have hx : a ^^^ b < 2 ^ 63 := Nat.xor_lt_two_pow (by omega) (by omega)
  have h1 : (BitVec.ofInt 64 (a : Int)).toNat = a := by
    rw [BitVec.ofInt_natCast, BitVec.toNat_ofNat]; exact Nat.mod_eq_of_lt (by omega)
  have h2 : (BitVec.ofInt 64 (b : Int)).toNat = b := by
    rw [BitVec.ofInt_natCast, BitVec.toNat_ofNat]; exact Nat.mod_eq_of_lt (by omega)
  show IntKind.i64.wrap ((BitVec.ofInt 64 (a : Int) ^^^ BitVec.ofInt 64 (b : Int)).toNat : Int) = _
  rw [BitVec.toNat_xor, h1, h2]
  simp [IntKind.wrap, IntKind.bits, IntKind.signed]
  omega

/-- What lies behind the end. -/
def mixX (b : List Int) (q : Int) : Int := rd b (Int.tmod q b.length) * 131 + rd b (Int.tmod (q * 7 + 3) b.length) * 1117 + q * 29 + Int.tdiv q b.length * 53

theorem pick_ev {b : List Int} (hb : BY b) {n p : Int} (hn : 1 ≤ n) (hp : 0 ≤ p) (hp2 : p ≤ 1000000000) :
    ∃ r, 0 ≤ r ∧ r < n ∧ Ev (fun k => spec_l6Rd_pick.f k b p n) (r, p + 1) := by
  have hl := hb.1
  by_cases h0 : b.length = 0
  · refine ⟨0, by omega, by omega, ?_⟩
    unfold spec_l6Rd_pick.f
    refine Ev.neg (by omega) ?_
    refine Ev.succ ?_
    simp only [spec_l6Rd_pick.j0]
    refine Ev.pos (by simp [h0]) ?_
    rw [w64 (by omega) (by omega)]
    exact Ev.now _
  · by_cases hlt : p < b.length
    · have hr := hb.rd hp hlt
      refine ⟨Int.tmod (rd b p) n, ?_, ?_, ?_⟩
      · exact Int.tmod_nonneg _ hr.1
      · exact Int.tmod_lt_of_pos _ (by omega)
      · unfold spec_l6Rd_pick.f
        refine Ev.neg (by omega) ?_
        refine Ev.succ ?_
        simp only [spec_l6Rd_pick.j0]
        refine Ev.neg (by simp only [beq_iff_eq]; omega) ?_
        have e : wrap64 (wrap64 (p + 1) - 1) = p := by rw [w64 (x := p + 1) (by omega) (by omega), w64 (by omega) (by omega)]; omega
        rw [e]
        refine Ev.pos hlt (Ev.pos hp (Ev.neg (by omega) ?_))
        rw [w64 (by omega) (by omega), w64 (by omega) (by omega)]
        exact Ev.now _
    · have hlp : (0 : Int) < b.length := by omega
      have t1 : 0 ≤ Int.tmod p b.length := Int.tmod_nonneg _ hp
      have t2 : Int.tmod p b.length < b.length := Int.tmod_lt_of_pos _ hlp
      have t3 : 0 ≤ Int.tmod (p * 7 + 3) b.length := Int.tmod_nonneg _ (by omega)
      have t4 : Int.tmod (p * 7 + 3) b.length < b.length := Int.tmod_lt_of_pos _ hlp
      have r1 := hb.rd t1 t2
      have r2 := hb.rd t3 t4
      have d1 : 0 ≤ Int.tdiv p b.length := Int.tdiv_nonneg hp (by omega)
      have d2 : Int.tdiv p b.length ≤ p := by rw [Int.tdiv_eq_ediv_of_nonneg hp]; exact Int.ediv_le_self _ hp
      have x0 : 0 ≤ mixX b p := by unfold mixX; omega
      have x1 : mixX b p ≤ 900000000000 := by unfold mixX; omega
      have x2 : Int.tdiv (mixX b p) 64 = mixX b p / 64 := Int.tdiv_eq_ediv_of_nonneg x0
      have x3 : Go.bits .xor .i64 (mixX b p) (Int.tdiv (mixX b p) 64) = ((mixX b p).toNat ^^^ (mixX b p / 64).toNat : Nat) := by
        rw [x2]
        have := xor_i64 (mixX b p).toNat (mixX b p / 64).toNat (by omega) (by omega)
        rwa [Int.toNat_of_nonneg x0, Int.toNat_of_nonneg (by omega)] at this
      refine ⟨Int.tmod (Go.bits .xor .i64 (mixX b p) (Int.tdiv (mixX b p) 64)) n, ?_, ?_, ?_⟩
      · rw [x3]; exact Int.tmod_nonneg _ (by omega)
      · exact Int.tmod_lt_of_pos _ (by omega)
      · unfold spec_l6Rd_pick.f
        refine Ev.neg (by omega) ?_
        refine Ev.succ ?_
        simp only [spec_l6Rd_pick.j0]
        refine Ev.neg (by simp only [beq_iff_eq]; omega) ?_
        have e : wrap64 (wrap64 (p + 1) - 1) = p := by rw [w64 (x := p + 1) (by omega) (by omega), w64 (by omega) (by omega)]; omega
        rw [e]
        have e7 : wrap64 (wrap64 (p * 7) + 3) = p * 7 + 3 := by rw [w64 (x := p * 7) (by omega) (by omega), w64 (by omega) (by omega)]
        rw [e7]
        refine Ev.neg (by omega) (Ev.neg (by omega) (Ev.pos t1 (Ev.pos t2 (Ev.pos t3 (Ev.pos t4 (Ev.neg (by omega) ?_))))))
        have em : wrap64 (wrap64 (wrap64 (wrap64 (wrap64 (rd b (Int.tmod p b.length)) * 131) + wrap64 (wrap64 (rd b (Int.tmod (p * 7 + 3) b.length)) * 1117)) + wrap64 (p * 29)) + wrap64 (wrap64 (Int.tdiv p b.length) * 53)) = mixX b p := by
          unfold mixX
          generalize rd b (Int.tmod p b.length) = A at *
          generalize rd b (Int.tmod (p * 7 + 3) b.length) = B at *
          generalize Int.tdiv p b.length = D at *
          simp (disch := omega) only [w64]
        rw [em, w64 (x := Int.tdiv (mixX b p) 64) (by omega) (by omega), w64 (by omega) (by omega)]
        exact Ev.now _

theorem wf64 {a : Int} (h : (Lit.int .i64 a).wf = true) : -9223372036854775808 ≤ a ∧ a ≤ 9223372036854775807 := by
  simp [Lit.wf, IntKind.min, IntKind.max, IntKind.bits, IntKind.signed] at h
  omega
theorem wf8 {a : Int} (h : (Lit.int .u8 a).wf = true) : 0 ≤ a ∧ a < 256 := by
  simp [Lit.wf, IntKind.min, IntKind.max, IntKind.bits, IntKind.signed] at h
  omega

theorem spec_l6Open_ev {l : List Int} (hw : ∀ x ∈ l, (Lit.int .u8 x).wf = true) : ∃ b, BY b ∧ spec_l6Open.f l = some (b, 0) := by
  unfold spec_l6Open.f
  by_cases h : (l.length : Int) > 2000
  · refine ⟨l.take 2000, ⟨by rw [List.length_take]; omega, fun x hx => wf8 (hw x (List.mem_of_mem_take hx))⟩, ?_⟩
    rw [if_pos h, if_pos (by omega)]
  · exact ⟨l, ⟨by omega, fun x hx => wf8 (hw x hx)⟩, by rw [if_neg h]⟩

/-- A term of a form. -/
def okT (t : Int) : Bool := decide (t ≠ 0 ∧ -30 ≤ t ∧ t ≤ 30)
theorem okT_iff {t : Int} : okT t = true ↔ t ≠ 0 ∧ -30 ≤ t ∧ t ≤ 30 := by unfold okT; simp
/-- Is it a form? -/
def fv (l : List Int) : Bool := l.all okT && decide (1 ≤ l.length ∧ l.length ≤ 4)
theorem fv_iff {l : List Int} : fv l = true ↔ (∀ t ∈ l, t ≠ 0 ∧ -30 ≤ t ∧ t ≤ 30) ∧ 1 ≤ l.length ∧ l.length ≤ 4 := by
  unfold fv; simp [okT_iff]
/-- Not too large, as far as the walk goes. -/
def Md (l : List Int) : Prop := l.length ≤ 1000000 ∧ ∀ t ∈ l, -1000000000000 ≤ t ∧ t ≤ 1000000000000
theorem Md.of_fv {l : List Int} (h : fv l = true) : Md l := by
  obtain ⟨h1, h2, h3⟩ := fv_iff.1 h
  exact ⟨by omega, fun t ht => by have := h1 t ht; omega⟩
/-- How many are less than 0. -/
def less : List Int → Nat
  | [] => 0
  | t :: l => if t < 0 then less l + 1 else less l
theorem less_le : ∀ l : List Int, less l ≤ l.length
  | [] => by simp [less]
  | t :: l => by have := less_le l; unfold less; split <;> simp <;> omega
theorem less_append : ∀ a b : List Int, less (a ++ b) = less a + less b
  | [], b => by simp [less]
  | t :: a, b => by
    have := less_append a b
    simp only [List.cons_append, less]
    split <;> omega

/-- The terms that are drawn. -/
def Drw (t : Int) : Prop := t.natAbs ∈ [1, 2, 3, 4, 5, 6, 7, 8, 10, 12, 15, 21, 30]
/-- What is drawn as a form: terms of a few sizes; the first one is seldom out of range. -/
def Dr (l : List Int) : Prop := l = [] ∨ ∃ x r, l = x :: r ∧ (Drw x ∨ x = 0 ∨ x = 31) ∧ ∀ t ∈ r, Drw t
theorem rd16 {i : Int} (h0 : 0 ≤ i) (h1 : i < 16) : Drw (rd [1, 2, 3, 5, 6, 7, 1, 10, 12, 3, 15, 4, 21, 1, 30, 8] i) ∧ 1 ≤ rd [1, 2, 3, 5, 6, 7, 1, 10, 12, 3, 15, 4, 21, 1, 30, 8] i ∧ rd [1, 2, 3, 5, 6, 7, 1, 10, 12, 3, 15, 4, 21, 1, 30, 8] i ≤ 30 := by
  have : ∀ n : Nat, n < 16 → Drw (rd [1, 2, 3, 5, 6, 7, 1, 10, 12, 3, 15, 4, 21, 1, 30, 8] (n : Int)) ∧ 1 ≤ rd [1, 2, 3, 5, 6, 7, 1, 10, 12, 3, 15, 4, 21, 1, 30, 8] (n : Int) ∧ rd [1, 2, 3, 5, 6, 7, 1, 10, 12, 3, 15, 4, 21, 1, 30, 8] (n : Int) ≤ 30 := by
    unfold Drw rd
    decide
  have h := this i.toNat (by omega)
  rwa [Int.toNat_of_nonneg h0] at h
theorem Drw.neg {t : Int} (h : Drw t) : Drw (-t) := by unfold Drw at *; rwa [Int.natAbs_neg]
theorem l91Form_l {b : List Int} (hb : BY b) (m : Nat) (hm : m ≤ 100) : ∀ (d : Nat) (o : List Int) (i : Nat) (p : Int), i + d = m → o.length = i → (∀ t ∈ o, Drw t) → 0 < m → 0 ≤ p → p + 2 * d + 2 ≤ 1000000 →
    ∃ r q, Dr r ∧ r.length ≤ m ∧ p ≤ q ∧ q ≤ p + 2 * d + 2 ∧ Ev (fun k => spec_l91Form.l0 k o (m : Int) (i : Int) b p) (r, q) := by
  intro d
  induction d with
  | zero =>
    intro o i p hi ho ht h0 hp hp2
    obtain ⟨r1, a1, a2, e1⟩ := pick_ev hb (n := 40) (p := p) (by omega) hp (by omega)
    have hne : o ≠ [] := by intro e; subst e; simp at ho; omega
    obtain ⟨x, r, rfl⟩ : ∃ x r, o = x :: r := List.exists_cons_of_ne_nil hne
    by_cases c1 : r1 = 0
    · obtain ⟨r2, a3, a4, e2⟩ := pick_ev hb (n := 2) (p := p + 1) (by omega) (by omega) (by omega)
      refine ⟨rd [0, 31] r2 :: r, p + 1 + 1, .inr ⟨_, _, rfl, ?_, fun t h => ht t (by simp [h])⟩, by simp at ho ⊢; omega, by omega, by omega, ?_⟩
      · rcases (by omega : r2 = 0 ∨ r2 = 1) with rfl | rfl
        · exact .inr (.inl rfl)
        · exact .inr (.inr rfl)
      · refine Ev.succ ?_
        simp only [spec_l91Form.l0]
        refine Ev.neg (by omega) (Ev.bind e1 (Ev.pos c1 (Ev.sbind (Ev.bind e2 ?_))))
        refine Ev.pos a3 (Ev.pos (by simp; omega) (Ev.pos (by simp only [List.length_cons]; omega) ?_))
        exact Ev.ret rfl
    · by_cases c2 : r1 = 1
      · refine ⟨[], p + 1, .inl rfl, by simp, by omega, by omega, ?_⟩
        refine Ev.succ ?_
        simp only [spec_l91Form.l0]
        exact Ev.neg (by omega) (Ev.bind e1 (Ev.neg c1 (Ev.pos c2 (Ev.now _))))
      · refine ⟨x :: r, p + 1, .inr ⟨x, r, rfl, .inl (ht x (by simp)), fun t h => ht t (by simp [h])⟩, by simp at ho ⊢; omega, by omega, by omega, ?_⟩
        refine Ev.succ ?_
        simp only [spec_l91Form.l0]
        exact Ev.neg (by omega) (Ev.bind e1 (Ev.neg c1 (Ev.neg c2 (Ev.now _))))
  | succ d ih =>
    intro o i p hi ho ht h0 hp hp2
    obtain ⟨r1, a1, a2, e1⟩ := pick_ev hb (n := 16) (p := p) (by omega) hp (by omega)
    obtain ⟨r2, a3, a4, e2⟩ := pick_ev hb (n := 5) (p := p + 1) (by omega) (by omega) (by omega)
    obtain ⟨t1, t2, t3⟩ := rd16 a1 a2
    have step : ∃ y, Drw y ∧ ∀ r q, Ev (fun k => spec_l91Form.l0 k (o ++ [y]) (m : Int) ((i + 1 : Nat) : Int) b (p + 1 + 1)) (r, q) → Ev (fun k => spec_l91Form.l0 k o (m : Int) (i : Int) b p) (r, q) := by
      by_cases c : r2 < 2
      · refine ⟨-(rd [1, 2, 3, 5, 6, 7, 1, 10, 12, 3, 15, 4, 21, 1, 30, 8] r1), t1.neg, fun r q h => ?_⟩
        refine Ev.succ ?_
        simp only [spec_l91Form.l0]
        refine Ev.pos (by omega) (Ev.sbind (Ev.bind e1 (Ev.pos a1 (Ev.pos (by simp; omega) (Ev.bind e2 (Ev.pos c (Ev.pos (by omega) ?_)))))))
        dsimp only
        rw [w64 (x := (i : Int) + 1) (by omega) (by omega), w64 (by omega) (by omega), cast_succ]
        exact h
      · refine ⟨rd [1, 2, 3, 5, 6, 7, 1, 10, 12, 3, 15, 4, 21, 1, 30, 8] r1, t1, fun r q h => ?_⟩
        refine Ev.succ ?_
        simp only [spec_l91Form.l0]
        refine Ev.pos (by omega) (Ev.sbind (Ev.bind e1 (Ev.pos a1 (Ev.pos (by simp; omega) (Ev.bind e2 (Ev.neg c (Ev.pos (by omega) ?_)))))))
        dsimp only
        rw [w64 (x := (i : Int) + 1) (by omega) (by omega), cast_succ]
        exact h
    obtain ⟨y, hy, hs⟩ := step
    obtain ⟨r, q, h1, h2, h3, h4, h5⟩ := ih (o ++ [y]) (i + 1) (p + 1 + 1) (by omega) (by simp [ho]) (by
      intro t h
      rcases List.mem_append.1 h with h | h
      · exact ht t h
      · rw [List.mem_singleton.1 h]; exact hy) h0 (by omega) (by omega)
    exact ⟨r, q, h1, h2, by omega, by omega, hs r q h5⟩
/-- A drawn form. -/
theorem spec_l91Form_ev {b : List Int} (hb : BY b) {n p : Int} (hn : 1 ≤ n) (hn2 : n ≤ 50) (hp : 0 ≤ p) (hp2 : p ≤ 900000) :
    ∃ r q, Dr r ∧ (r.length : Int) ≤ n ∧ p ≤ q ∧ q ≤ p + 2 * n + 3 ∧ Ev (fun k => spec_l91Form.f k b p n) (r, q) := by
  obtain ⟨r1, a1, a2, e1⟩ := pick_ev hb (n := n) (p := p) hn hp (by omega)
  obtain ⟨m, hm⟩ : ∃ m : Nat, 1 + r1 = m := ⟨(1 + r1).toNat, by omega⟩
  obtain ⟨r, q, h1, h2, h3, h4, h5⟩ := l91Form_l hb m (by omega) m [] 0 (p + 1) (by omega) rfl (by simp) (by omega) (by omega) (by omega)
  refine ⟨r, q, h1, by omega, by omega, by omega, ?_⟩
  unfold spec_l91Form.f
  refine Ev.bind e1 ?_
  dsimp only
  rw [w64 (by omega) (by omega), hm]
  exact h5
theorem Drw.bd {t : Int} (h : Drw t) : t ≠ 0 ∧ -30 ≤ t ∧ t ≤ 30 := by
  unfold Drw at h
  simp only [List.mem_cons, List.not_mem_nil, or_false] at h
  omega
theorem Dr.md {l : List Int} (h : Dr l) (hl : l.length ≤ 1000) : Md l := by
  refine ⟨by omega, fun t ht => ?_⟩
  rcases h with rfl | ⟨x, r, rfl, hx, hr⟩
  · simp at ht
  · rcases List.mem_cons.1 ht with rfl | ht
    · rcases hx with hx | rfl | rfl
      · have := hx.bd; omega
      · omega
      · omega
    · have := (hr t ht).bd; omega
/-- Of a drawn form, the terms are drawn ones. -/
theorem Dr.terms {l : List Int} (h : Dr l) (hv : fv l = true) : ∀ t ∈ l, Drw t := by
  obtain ⟨h1, _⟩ := fv_iff.1 hv
  intro t ht
  rcases h with rfl | ⟨x, r, rfl, hx, hr⟩
  · simp at ht
  · rcases List.mem_cons.1 ht with rfl | ht
    · rcases hx with hx | rfl | rfl
      · exact hx
      · have := h1 0 (by simp); omega
      · have := h1 31 (by simp); omega
    · exact hr t ht

theorem impl_FormValid_l (xs : List Int) (hx : Md xs) : ∀ (r : List Int) (i : Nat), xs.drop i = r → Ev (fun k => impl_FormValid.l0 k xs xs (xs.length : Int) (i : Int)) (r.all okT && decide (1 ≤ xs.length ∧ xs.length ≤ 4))
  | [], i, h => by
    have := drop_nil h
    refine Ev.succ ?_
    simp only [impl_FormValid.l0]
    refine Ev.neg (by omega) ?_
    by_cases h1 : (xs.length : Int) ≥ 1
    · exact Ev.pos h1 (Ev.ret (by simp only [List.all_nil, Bool.true_and, decide_eq_decide]; omega))
    · exact Ev.neg h1 (Ev.ret (by simp only [List.all_nil, Bool.true_and]; symm; rw [decide_eq_false_iff_not]; omega))
  | t :: r, i, h => by
    obtain ⟨h1, h2, h3⟩ := drop_cons h
    have hb := hx.2 t (h2 ▸ rd_mem h1)
    have hl := hx.1
    refine Ev.succ ?_
    simp only [impl_FormValid.l0]
    rw [h2]
    refine Ev.pos (by omega) (Ev.pos (by omega) (Ev.pos (by omega) ?_))
    by_cases h0 : t = 0
    · exact Ev.pos h0 (Ev.ret (by simp [okT, h0]))
    · refine Ev.neg h0 ?_
      unfold impl_size.f
      rw [w64 (by omega) (by omega)]
      refine Ev.sbind ?_
      have hm : mx t (-t) = if t < 0 then -t else t := by unfold mx; split <;> split <;> omega
      rw [hm]
      by_cases hs : (if t < 0 then -t else t) > 30
      · refine Ev.pos hs (Ev.ret ?_)
        have : okT t = false := by unfold okT; simp; intro _ _; split at hs <;> omega
        simp [this]
      · refine Ev.neg hs ?_
        have : okT t = true := okT_iff.2 ⟨h0, by split at hs <;> omega, by split at hs <;> omega⟩
        rw [w64 (by omega) (by omega), cast_succ]
        refine Ev.to (impl_FormValid_l xs hx r (i + 1) h3) ?_
        simp [this]
theorem impl_FormValid_ev {xs : List Int} (hx : Md xs) : Ev (fun k => impl_FormValid.f k xs) (fv xs) := by
  unfold impl_FormValid.f
  exact impl_FormValid_l xs hx xs 0 rfl

theorem impl_lessTerms_l (xs : List Int) (hx : Md xs) : ∀ (r : List Int) (i n : Nat), n ≤ i → xs.drop i = r → Ev (fun k => impl_lessTerms.l0 k (n : Int) xs (xs.length : Int) (i : Int)) ((n + less r : Nat) : Int)
  | [], i, n, hn, h => by
    have := drop_nil h
    refine Ev.succ ?_
    simp only [impl_lessTerms.l0]
    exact Ev.neg (by omega) (Ev.ret (by simp [less]))
  | t :: r, i, n, hn, h => by
    obtain ⟨h1, h2, h3⟩ := drop_cons h
    have hl := hx.1
    refine Ev.succ ?_
    simp only [impl_lessTerms.l0]
    rw [h2]
    refine Ev.pos (by omega) (Ev.pos (by omega) (Ev.pos (by omega) ?_))
    rw [w64 (x := (i : Int) + 1) (by omega) (by omega), w64 (x := (n : Int) + 1) (by omega) (by omega), cast_succ, cast_succ]
    by_cases h0 : t < 0
    · refine Ev.pos h0 (Ev.to (impl_lessTerms_l xs hx r (i + 1) (n + 1) (by omega) h3) ?_)
      simp only [less, if_pos h0]; omega
    · refine Ev.neg h0 (Ev.to (impl_lessTerms_l xs hx r (i + 1) n (by omega) h3) ?_)
      simp only [less, if_neg h0]
theorem impl_lessTerms_ev {xs : List Int} (hx : Md xs) : Ev (fun k => impl_lessTerms.f k xs) ((less xs : Nat) : Int) := by
  unfold impl_lessTerms.f
  refine Ev.to (impl_lessTerms_l xs hx xs 0 0 (Nat.le_refl _) rfl) ?_
  simp

/-- What FormSigns tells. -/
def signs (l : List Int) : Int × Bool := if fv l = true then ((l.length : Int) - 2 * (less l : Int), true) else (0, false)
theorem impl_FormSigns_ev {xs : List Int} (hx : Md xs) : Ev (fun k => impl_FormSigns.f k xs) (signs xs) := by
  unfold impl_FormSigns.f signs
  refine Ev.bind (impl_FormValid_ev hx) ?_
  by_cases h : fv xs = true
  · rw [if_pos h]
    refine Ev.pos h (Ev.bind (impl_lessTerms_ev hx) ?_)
    have := less_le xs
    have := hx.1
    rw [w64 (x := 2 * _) (by omega) (by omega), w64 (by omega) (by omega)]
    exact Ev.now _
  · rw [if_neg h]; exact Ev.neg h (Ev.now _)

theorem l6In_eq (a b c : Int) : spec_l6In.f a b c = some (decide (b ≤ a ∧ a ≤ c)) := by
  unfold spec_l6In.f
  split
  · congr 1; simp only [decide_eq_decide]; omega
  · congr 1; simp; omega
theorem spec_FormValid_l (xs : List Int) (hx : Md xs) : ∀ (r : List Int) (i : Nat), xs.drop i = r → Ev (fun k => spec_FormValid.l0 k xs (i : Int)) (r.all okT && decide (1 ≤ xs.length ∧ xs.length ≤ 4))
  | [], i, h => by
    have := drop_nil h
    refine Ev.succ ?_
    simp only [spec_FormValid.l0]
    refine Ev.neg (by omega) ?_
    rw [l6In_eq]
    refine Ev.sbind (Ev.ret ?_)
    simp only [List.all_nil, Bool.true_and, decide_eq_decide]; omega
  | t :: r, i, h => by
    obtain ⟨h1, h2, h3⟩ := drop_cons h
    have hl := hx.1
    refine Ev.succ ?_
    simp only [spec_FormValid.l0]
    rw [h2, l6In_eq]
    refine Ev.pos (by omega) (Ev.pos (by omega) ?_)
    by_cases h0 : t = 0
    · exact Ev.pos h0 (Ev.ret (by simp [okT, h0]))
    · refine Ev.neg h0 (Ev.sbind ?_)
      by_cases hs : -30 ≤ t ∧ t ≤ 30
      · have : okT t = true := okT_iff.2 ⟨h0, hs⟩
        refine Ev.pos (by simpa using hs) ?_
        rw [w64 (by omega) (by omega), cast_succ]
        refine Ev.to (spec_FormValid_l xs hx r (i + 1) h3) ?_
        simp [this]
      · have : okT t = false := by unfold okT; simp; intro _; omega
        refine Ev.neg (by simpa using hs) (Ev.ret (by simp [this]))
theorem spec_FormValid_ev {xs : List Int} (hx : Md xs) : Ev (fun k => spec_FormValid.f k xs) (fv xs) := by
  unfold spec_FormValid.f
  exact spec_FormValid_l xs hx xs 0 rfl

theorem spec_l4Less_l (xs : List Int) (hx : Md xs) : ∀ (r : List Int) (i n : Nat), n ≤ i → xs.drop i = r → Ev (fun k => spec_l4Less.l0 k xs (n : Int) (i : Int)) ((n + less r : Nat) : Int)
  | [], i, n, hn, h => by
    have := drop_nil h
    refine Ev.succ ?_
    simp only [spec_l4Less.l0]
    exact Ev.neg (by omega) (Ev.ret (by simp [less]))
  | t :: r, i, n, hn, h => by
    obtain ⟨h1, h2, h3⟩ := drop_cons h
    have hl := hx.1
    refine Ev.succ ?_
    simp only [spec_l4Less.l0]
    rw [h2]
    refine Ev.pos (by omega) (Ev.pos (by omega) ?_)
    rw [w64 (x := (i : Int) + 1) (by omega) (by omega), w64 (x := (n : Int) + 1) (by omega) (by omega), cast_succ, cast_succ]
    by_cases h0 : t < 0
    · refine Ev.pos h0 (Ev.to (spec_l4Less_l xs hx r (i + 1) (n + 1) (by omega) h3) ?_)
      simp only [less, if_pos h0]; omega
    · refine Ev.neg h0 (Ev.to (spec_l4Less_l xs hx r (i + 1) n (by omega) h3) ?_)
      simp only [less, if_neg h0]
theorem spec_l4Less_ev {xs : List Int} (hx : Md xs) : Ev (fun k => spec_l4Less.f k xs) ((less xs : Nat) : Int) := by
  unfold spec_l4Less.f
  refine Ev.to (spec_l4Less_l xs hx xs 0 0 (Nat.le_refl _) rfl) ?_
  simp

theorem spec_FormSigns_ev {xs : List Int} (hx : Md xs) : Ev (fun k => spec_FormSigns.f k xs) (signs xs) := by
  unfold spec_FormSigns.f signs
  refine Ev.bind (spec_FormValid_ev hx) ?_
  by_cases h : fv xs = true
  · rw [if_pos h]
    refine Ev.pos h (Ev.bind (spec_l4Less_ev hx) ?_)
    have := less_le xs
    have := hx.1
    rw [w64 (x := 2 * _) (by omega) (by omega), w64 (by omega) (by omega)]
    exact Ev.now _
  · rw [if_neg h]; exact Ev.neg h (Ev.now _)

theorem laws_minusOf_l (xs : List Int) (hx : Md xs) : ∀ (r o : List Int) (i : Nat), o.length ≤ i → xs.drop i = r → Ev (fun k => laws_minusOf.l0 k xs o (i : Int)) (o ++ r.map (fun t => -t))
  | [], o, i, hn, h => by
    have := drop_nil h
    refine Ev.succ ?_
    simp only [laws_minusOf.l0]
    exact Ev.neg (by omega) (Ev.ret (by simp))
  | t :: r, o, i, hn, h => by
    obtain ⟨h1, h2, h3⟩ := drop_cons h
    have hl := hx.1
    have hb := hx.2 t (h2 ▸ rd_mem h1)
    refine Ev.succ ?_
    simp only [laws_minusOf.l0]
    rw [h2]
    refine Ev.pos (by omega) (Ev.pos (by omega) (Ev.pos (by omega) ?_))
    rw [w64 (x := (i : Int) + 1) (by omega) (by omega), w64 (x := -t) (by omega) (by omega), cast_succ]
    refine Ev.to (laws_minusOf_l xs hx r (o ++ [-t]) (i + 1) (by simp; omega) h3) ?_
    simp
theorem laws_minusOf_ev {xs : List Int} (hx : Md xs) : Ev (fun k => laws_minusOf.f k xs) (xs.map fun t => -t) := by
  unfold laws_minusOf.f
  refine Ev.to (laws_minusOf_l xs hx xs [] 0 (by simp) rfl) (by simp)
theorem md_minus {xs : List Int} (hx : Md xs) : Md (xs.map fun t => -t) := by
  refine ⟨by simpa using hx.1, fun t ht => ?_⟩
  obtain ⟨s, hs, rfl⟩ := List.mem_map.1 ht
  have := hx.2 s hs
  omega
theorem fv_minus (xs : List Int) : fv (xs.map fun t => -t) = fv xs := by
  rw [Bool.eq_iff_iff, fv_iff, fv_iff]
  simp only [List.mem_map, List.length_map, forall_exists_index, and_imp, forall_apply_eq_imp_iff₂]
  constructor
  · rintro ⟨h1, h2⟩; exact ⟨fun t ht => by have := h1 t ht; omega, h2⟩
  · rintro ⟨h1, h2⟩; exact ⟨fun t ht => by have := h1 t ht; omega, h2⟩

theorem mx_abs (t : Int) : mx t (-t) = (t.natAbs : Int) := by unfold mx; split <;> omega
theorem laws_sizeOf_eq {t : Int} (h1 : -9000000000000000000 ≤ t) (h2 : t ≤ 9000000000000000000) : laws_sizeOf.f t = some (t.natAbs : Int) := by
  unfold laws_sizeOf.f
  rw [w64 (by omega) (by omega), mx_abs]

theorem draw {l : List Int} (hw : ∀ x ∈ l, (Lit.int .u8 x).wf = true) : ∃ F, Md F ∧ F.length ≤ 4 ∧ Ev (fun k => spec_DrawFormSigns.f k l) F := by
  obtain ⟨b, hb, ho⟩ := spec_l6Open_ev hw
  obtain ⟨r, q, h1, h2, h3, h4, h5⟩ := spec_l91Form_ev hb (n := 4) (p := 0) (by omega) (by omega) (by omega) (by omega)
  refine ⟨r, h1.md (by omega), by omega, ?_⟩
  unfold spec_DrawFormSigns.f
  rw [ho]
  exact Ev.sbind (Ev.bind h5 (Ev.now _))
theorem less_minus : ∀ {l : List Int}, (∀ t ∈ l, t ≠ 0) → less (l.map fun t => -t) + less l = l.length
  | [], _ => rfl
  | t :: l, h => by
    have ih := less_minus (l := l) (fun s hs => h s (by simp [hs]))
    have := h t (by simp)
    simp only [List.map_cons, less, List.length_cons]
    split <;> split <;> omega
theorem fv_take {l : List Int} (h : fv l = true) {k : Nat} (h1 : 1 ≤ k) (h2 : k ≤ l.length) : fv (l.take k) = true := by
  obtain ⟨a, b, c⟩ := fv_iff.1 h
  exact fv_iff.2 ⟨fun t ht => a t (List.mem_of_mem_take ht), by rw [List.length_take]; omega, by rw [List.length_take]; omega⟩
theorem fv_drop {l : List Int} (h : fv l = true) {k : Nat} (h2 : k < l.length) : fv (l.drop k) = true := by
  obtain ⟨a, b, c⟩ := fv_iff.1 h
  exact fv_iff.2 ⟨fun t ht => a t (List.mem_of_mem_drop ht), by rw [List.length_drop]; omega, by rw [List.length_drop]; omega⟩
theorem the : laws_FnSigns.Pure := by
  intro l m _ _ hl _ _ hm
  refine Ev.rounds ?_
  unfold laws_FnSigns.f
  have done : ∀ b : Bool, b = true → Ev (fun k => laws_FnSigns.j0 k l m b) true := by
    intro b hb
    refine Ev.succ ?_
    simp only [laws_FnSigns.j0]
    exact Ev.pos hb (Ev.now _)
  have go : ∀ b : Bool, Ev (fun k => laws_FnSigns.j0 k l m b) true := by
    intro b
    by_cases hb : b = true
    · exact done b hb
    · obtain ⟨F, hF, hF4, hd⟩ := draw hl
      refine Ev.succ ?_
      simp only [laws_FnSigns.j0]
      refine Ev.neg hb (Ev.bind hd (Ev.bind (impl_FormSigns_ev hF) (Ev.bind (spec_FormSigns_ev hF) (Ev.neg (by simp) (Ev.pos rfl ?_)))))
      refine Ev.succ ?_
      simp only [laws_FnSigns.j1]
      by_cases hv : fv F = true
      · have hs : signs F = ((F.length : Int) - 2 * (less F : Int), true) := by unfold signs; rw [if_pos hv]
        obtain ⟨f1, f2, f3⟩ := fv_iff.1 hv
        have hnz : ∀ t ∈ F, t ≠ 0 := fun t ht => (f1 t ht).1
        have hlm := less_minus hnz
        have hle := less_le F
        have hsm : signs (F.map fun t => -t) = ((F.length : Int) - 2 * (less (F.map fun t => -t) : Int), true) := by unfold signs; rw [fv_minus, if_pos hv, List.length_map]
        rw [hs]
        refine Ev.neg (by simp) (Ev.bind (laws_minusOf_ev hF) (Ev.bind (impl_FormSigns_ev (md_minus hF)) ?_))
        rw [hsm]
        dsimp only
        rw [w64 (x := -_) (by omega) (by omega)]
        by_cases h1 : (F.length : Int) = 1
        · refine Ev.pos h1 (Ev.pos rfl (Ev.pos (by omega) (Ev.pos (by omega) (Ev.ret ?_))))
          obtain ⟨t, rfl⟩ : ∃ t, F = [t] := List.length_eq_one_iff.1 (by omega)
          have := hnz t (by simp)
          simp only [less, rd, List.length_cons, List.length_nil]
          by_cases ht : t < 0
          · simp [ht]; omega
          · simp [ht]; omega
        · have hn : (2 : Int) ≤ F.length := by omega
          have hm1 := Int.emod_nonneg (m.length : Int) (show ((F.length : Int) - 1) ≠ 0 by omega)
          have hm2 := Int.emod_lt_of_pos (m.length : Int) (show 0 < ((F.length : Int) - 1) by omega)
          rw [w64 (x := (F.length : Int) - 1) (by omega) (by omega)]
          generalize (m.length : Int) % ((F.length : Int) - 1) = q at hm1 hm2
          rw [w64 (x := 1 + q) (by omega) (by omega)]
          obtain ⟨k, hk⟩ : ∃ k : Nat, 1 + q = k := ⟨(1 + q).toNat, by omega⟩
          rw [hk]
          have hk1 : 1 ≤ k := by omega
          have hk2 : k < F.length := by omega
          have v1 := fv_take hv hk1 (by omega)
          have v2 := fv_drop hv hk2
          have s1 : signs (F.take k) = ((k : Int) - 2 * (less (F.take k) : Int), true) := by unfold signs; rw [if_pos v1, List.length_take, Nat.min_eq_left (by omega)]
          have s2 : signs (F.drop k) = (((F.length - k : Nat) : Int) - 2 * (less (F.drop k) : Int), true) := by unfold signs; rw [if_pos v2, List.length_drop]
          have hadd : less (F.take k) + less (F.drop k) = less F := by rw [← less_append, List.take_append_drop]
          have e : (k : Int).toNat = k := by omega
          rw [e]
          refine Ev.neg h1 (Ev.neg (by omega) (Ev.pos (by omega) (Ev.pos (by omega) (Ev.bind (impl_FormSigns_ev (Md.of_fv v1)) (Ev.bind (impl_FormSigns_ev (Md.of_fv v2)) ?_)))))
          rw [s1, s2]
          dsimp only
          refine Ev.pos rfl (Ev.pos rfl (Ev.pos rfl (Ev.pos (by omega) ?_)))
          rw [w64 (by omega) (by omega), laws_sizeOf_eq (by omega) (by omega)]
          refine Ev.pos (by omega) (Ev.sbind (Ev.pos (by omega) ?_))
          rw [w64 (by omega) (by omega)]
          refine Ev.ret ?_
          have : Int.tmod ((F.length : Int) - ((F.length : Int) - 2 * (less F : Int))) 2 = 0 := by
            rw [Int.tmod_eq_emod_of_nonneg (by omega)]; omega
          rw [this]; rfl
      · have hs : signs F = (0, false) := by unfold signs; rw [if_neg hv]
        rw [hs]
        exact Ev.pos (by simp) (Ev.pos (by simp) (Ev.ret (by simp)))
  by_cases h : (l.length : Int) > 1048576
  · exact Ev.pos h (go _)
  · exact Ev.neg h (go _)

end Go.Proofs.Ytddjokhggaheiaa.KFnSigns

/- What the printed functions of the law FnFormValue compute, and why the law holds of it; for all arguments that its statement speaks of. -/
import Derived.Test.YtddjokhggaheiaaH
import Derived.Test.YtddjokhggaheiaaPFnFormValuex4
set_option linter.unusedVariables false
set_option linter.unusedSimpArgs false
namespace Go.Proofs.Ytddjokhggaheiaa.KFnFormValue
open Go.RowKit Go.Proofs.YtddjokhggaheiaaW.PrintWords Go.Proofs.YtddjokhggaheiaaW.PrintLast Go.Proofs.YtddjokhggaheiaaW.PrintMore Go.Proofs.Ytddjokhggaheiaa.PFnFormValue Go.Proofs.Ytddjokhggaheiaa.K

/-- What a reader reads: bytes, not too many. -/
def BY (b : List Int) : Prop := b.length ≤ 2000 ∧ ∀ x ∈ b, 0 ≤ x ∧ x < 256

theorem BY.rd {b : List Int} (hb : BY b) {i : Int} (h0 : 0 ≤ i) (h1 : i < b.length) : 0 ≤ rd b i ∧ rd b i < 256 := by
  obtain ⟨n, rfl⟩ : ∃ n : Nat, i = n := ⟨i.toNat, by omega⟩
  exact hb.2 _ (rd_mem (by omega))

theorem xor_i64 (a b : Nat) (ha : a < 9223372036854775808) (hb : b < 9223372036854775808) : Go.bits .xor .i64 (a : Int) (b : Int) = ((a ^^^ b : Nat) : Int) := by
  have hx : a ^^^ b < 2 ^ 63 := Nat.xor_lt_two_pow (by omega) (by omega)
  have h1 : (BitVec.ofInt 64 (a : Int)).toNat = a := by
    rw [BitVec.ofInt_natCast, BitVec.toNat_ofNat]; exact Nat.mod_eq_of_lt (by omega)
  have h2 : (BitVec.ofInt 64 (b : Int)).toNat = b := by
    rw [BitVec.ofInt_natCast, BitVec.toNat_ofNat]; exact Nat.mod_eq_of_lt (by omega)
  show IntKind.i64.wrap ((BitVec.ofInt 64 (a : Int) ^^^ BitVec.ofInt 64 (b : Int)).toNat : Int) = _
  rw [BitVec.toNat_xor, h1, h2]
  simp [IntKind.wrap, IntKind.bits, IntKind.signed]
  omega

/-- What lies behind the end. -/
def mixX (b : List Int) (q : Int) : Int := rd b (Int.tmod q b.length) * 131 + rd b (Int.tmod (q * 7 + 3) b.length) * 1117 + q * 29 + Int.tdiv q b.length * 53

theorem pick_ev {b : List Int} (hb : BY b) {n p : Int} (hn : 1 ≤ n) (hp : 0 ≤ p) (hp2 : p ≤ 1000000000) :
    ∃ r, 0 ≤ r ∧ r < n ∧ Ev (fun k => spec_l6Rd_pick.f k b p n) (r, p + 1) := by
  have hl := hb.1
  by_cases h0 : b.length = 0
  · refine ⟨0, by omega, by omega, ?_⟩
    unfold spec_l6Rd_pick.f
    refine Ev.neg (by omega) ?_
    refine Ev.succ ?_
    simp only [spec_l6Rd_pick.j0]
    refine Ev.pos (by simp [h0]) ?_
    rw [w64 (by omega) (by omega)]
    exact Ev.now _
  · by_cases hlt : p < b.length
    · have hr := hb.rd hp hlt
      refine ⟨Int.tmod (rd b p) n, ?_, ?_, ?_⟩
      · exact Int.tmod_nonneg _ hr.1
      · exact Int.tmod_lt_of_pos _ (by omega)
      · unfold spec_l6Rd_pick.f
        refine Ev.neg (by omega) ?_
        refine Ev.succ ?_
        simp only [spec_l6Rd_pick.j0]
        refine Ev.neg (by simp only [beq_iff_eq]; omega) ?_
        have e : wrap64 (wrap64 (p + 1) - 1) = p := by rw [w64 (x := p + 1) (by omega) (by omega), w64 (by omega) (by omega)]; omega
        rw [e]
        refine Ev.pos hlt (Ev.pos hp (Ev.neg (by omega) ?_))
        rw [w64 (by omega) (by omega), w64 (by omega) (by omega)]
        exact Ev.now _
    · have hlp : (0 : Int) < b.length := by omega
      have t1 : 0 ≤ Int.tmod p b.length := Int.tmod_nonneg _ hp
      have t2 : Int.tmod p b.length < b.length := Int.tmod_lt_of_pos _ hlp
      have t3 : 0 ≤ Int.tmod (p * 7 + 3) b.length := Int.tmod_nonneg _ (by omega)
      have t4 : Int.tmod (p * 7 + 3) b.length < b.length := Int.tmod_lt_of_pos _ hlp
      have r1 := hb.rd t1 t2
      have r2 := hb.rd t3 t4
      have d1 : 0 ≤ Int.tdiv p b.length := Int.tdiv_nonneg hp (by omega)
      have d2 : Int.tdiv p b.length ≤ p := by rw [Int.tdiv_eq_ediv_of_nonneg hp]; exact Int.ediv_le_self _ hp
      have x0 : 0 ≤ mixX b p := by unfold mixX; omega
      have x1 : mixX b p ≤ 900000000000 := by unfold mixX; omega
      have x2 : Int.tdiv (mixX b p) 64 = mixX b p / 64 := Int.tdiv_eq_ediv_of_nonneg x0
      have x3 : Go.bits .xor .i64 (mixX b p) (Int.tdiv (mixX b p) 64) = ((mixX b p).toNat ^^^ (mixX b p / 64).toNat : Nat) := by
        rw [x2]
        have := xor_i64 (mixX b p).toNat (mixX b p / 64).toNat (by omega) (by omega)
        rwa [Int.toNat_of_nonneg x0, Int.toNat_of_nonneg (by omega)] at this
      refine ⟨Int.tmod (Go.bits .xor .i64 (mixX b p) (Int.tdiv (mixX b p) 64)) n, ?_, ?_, ?_⟩
      · rw [x3]; exact Int.tmod_nonneg _ (by omega)
      · exact Int.tmod_lt_of_pos _ (by omega)
      · unfold spec_l6Rd_pick.f
        refine Ev.neg (by omega) ?_
        refine Ev.succ ?_
        simp only [spec_l6Rd_pick.j0]
        refine Ev.neg (by simp only [beq_iff_eq]; omega) ?_
        have e : wrap64 (wrap64 (p + 1) - 1) = p := by rw [w64 (x := p + 1) (by omega) (by omega), w64 (by omega) (by omega)]; omega
        rw [e]
        have e7 : wrap64 (wrap64 (p * 7) + 3) = p * 7 + 3 := by rw [w64 (x := p * 7) (by omega) (by omega), w64 (by omega) (by omega)]
        rw [e7]
        refine Ev.neg (by omega) (Ev.neg (by omega) (Ev.pos t1 (Ev.pos t2 (Ev.pos t3 (Ev.pos t4 (Ev.neg (by omega) ?_))))))
        have em : wrap64 (wrap64 (wrap64 (wrap64 (wrap64 (rd b (Int.tmod p b.length)) * 131) + wrap64 (wrap64 (rd b (Int.tmod (p * 7 + 3) b.length)) * 1117)) + wrap64 (p * 29)) + wrap64 (wrap64 (Int.tdiv p b.length) * 53)) = mixX b p := by
          unfold mixX
          generalize rd b (Int.tmod p b.length) = A at *
          generalize rd b (Int.tmod (p * 7 + 3) b.length) = B at *
          generalize Int.tdiv p b.length = D at *
          simp (disch := omega) only [w64]
        rw [em, w64 (x := Int.tdiv (mixX b p) 64) (by omega) (by omega), w64 (by omega) (by omega)]
        exact Ev.now _

theorem wf64 {a : Int} (h : (Lit.int .i64 a).wf = true) : -9223372036854775808 ≤ a ∧ a ≤ 9223372036854775807 := by
  simp [Lit.wf, IntKind.min, IntKind.max, IntKind.bits, IntKind.signed] at h
  omega
theorem wf8 {a : Int} (h : (Lit.int .u8 a).wf = true) : 0 ≤ a ∧ a < 256 := by
  simp [Lit.wf, IntKind.min, IntKind.max, IntKind.bits, IntKind.signed] at h
  omega

theorem spec_l6Open_ev {l : List Int} (hw : ∀ x ∈ l, (Lit.int .u8 x).wf = true) : ∃ b, BY b ∧ spec_l6Open.f l = some (b, 0) := by
  unfold spec_l6Open.f
  by_cases h : (l.length : Int) > 2000
  · refine ⟨l.take 2000, ⟨by rw [List.length_take]; omega, fun x hx => wf8 (hw x (List.mem_of_mem_take hx))⟩, ?_⟩
    rw [if_pos h, if_pos (by omega)]
  · exact ⟨l, ⟨by omega, fun x hx => wf8 (hw x hx)⟩, by rw [if_neg h]⟩

/-- A term of a form. -/
def okT (t : Int) : Bool := decide (t ≠ 0 ∧ -30 ≤ t ∧ t ≤ 30)
theorem okT_iff {t : Int} : okT t = true ↔ t ≠ 0 ∧ -30 ≤ t ∧ t ≤ 30 := by unfold okT; simp
/-- Is it a form? -/
def fv (l : List Int) : Bool := l.all okT && decide (1 ≤ l.length ∧ l.length ≤ 4)
theorem fv_iff {l : List Int} : fv l = true ↔ (∀ t ∈ l, t ≠ 0 ∧ -30 ≤ t ∧ t ≤ 30) ∧ 1 ≤ l.length ∧ l.length ≤ 4 := by
  unfold fv; simp [okT_iff]
/-- Not too large, as far as the walk goes. -/
def Md (l : List Int) : Prop := l.length ≤ 1000000 ∧ ∀ t ∈ l, -1000000000000 ≤ t ∧ t ≤ 1000000000000
theorem Md.of_fv {l : List Int} (h : fv l = true) : Md l := by
  obtain ⟨h1, h2, h3⟩ := fv_iff.1 h
  exact ⟨by omega, fun t ht => by have := h1 t ht; omega⟩
/-- How many are less than 0. -/
def less : List Int → Nat
  | [] => 0
  | t :: l => if t < 0 then less l + 1 else less l
theorem less_le : ∀ l : List Int, less l ≤ l.length
  | [] => by simp [less]
  | t :: l => by have := less_le l; unfold less; split <;> simp <;> omega
theorem less_append : ∀ a b : List Int, less (a ++ b) = less a + less b
  | [], b => by simp [less]
  | t :: a, b => by
    have := less_append a b
    simp only [List.cons_append, less]
    split <;> omega

/-- The terms that are drawn. -/
def Drw (t : Int) : Prop := t.natAbs ∈ [1, 2, 3, 4, 5, 6, 7, 8, 10, 12, 15, 21, 30]
/-- What is drawn as a form: terms of a few sizes; the first one is seldom out of range. -/
def Dr (l : List Int) : Prop := l = [] ∨ ∃ x r, l = x :: r ∧ (Drw x ∨ x = 0 ∨ x = 31) ∧ ∀ t ∈ r, Drw t
theorem rd16 {i : Int} (h0 : 0 ≤ i) (h1 : i < 16) : Drw (rd [1, 2, 3, 5, 6, 7, 1, 10, 12, 3, 15, 4, 21, 1, 30, 8] i) ∧ 1 ≤ rd [1, 2, 3, 5, 6, 7, 1, 10, 12, 3, 15, 4, 21, 1, 30, 8] i ∧ rd [1, 2, 3, 5, 6, 7, 1, 10, 12, 3, 15, 4, 21, 1, 30, 8] i ≤ 30 := by
  have : ∀ n : Nat, n < 16 → Drw (rd [1, 2, 3, 5, 6, 7, 1, 10, 12, 3, 15, 4, 21, 1, 30, 8] (n : Int)) ∧ 1 ≤ rd [1, 2, 3, 5, 6, 7, 1, 10, 12, 3, 15, 4, 21, 1, 30, 8] (n : Int) ∧ rd [1, 2, 3, 5, 6, 7, 1, 10, 12, 3, 15, 4, 21, 1, 30, 8] (n : Int) ≤ 30 := by
    unfold Drw rd
    decide
  have h := this i.toNat (by omega)
  rwa [Int.toNat_of_nonneg h0] at h
theorem Drw.neg {t : Int} (h : Drw t) : Drw (-t) := by unfold Drw at *; rwa [Int.natAbs_neg]
theorem l91Form_l {b : List Int} (hb : BY b) (m : Nat) (hm : m ≤ 100) : ∀ (d : Nat) (o : List Int) (i : Nat) (p : Int), i + d = m → o.length = i → (∀ t ∈ o, Drw t) → 0 < m → 0 ≤ p → p + 2 * d + 2 ≤ 1000000 →
    ∃ r q, Dr r ∧ r.length ≤ m ∧ p ≤ q ∧ q ≤ p + 2 * d + 2 ∧ Ev (fun k => spec_l91Form.l0 k o (m : Int) (i : Int) b p) (r, q) := by
  intro d
  induction d with
  | zero =>
    intro o i p hi ho ht h0 hp hp2
    obtain ⟨r1, a1, a2, e1⟩ := pick_ev hb (n := 40) (p := p) (by omega) hp (by omega)
    have hne : o ≠ [] := by intro e; subst e; simp at ho; omega
    obtain ⟨x, r, rfl⟩ : ∃ x r, o = x :: r := List.exists_cons_of_ne_nil hne
    by_cases c1 : r1 = 0
    · obtain ⟨r2, a3, a4, e2⟩ := pick_ev hb (n := 2) (p := p + 1) (by omega) (by omega) (by omega)
      refine ⟨rd [0, 31] r2 :: r, p + 1 + 1, .inr ⟨_, _, rfl, ?_, fun t h => ht t (by simp [h])⟩, by simp at ho ⊢; omega, by omega, by omega, ?_⟩
      · rcases (by omega : r2 = 0 ∨ r2 = 1) with rfl | rfl
        · exact .inr (.inl rfl)
        · exact .inr (.inr rfl)
      · refine Ev.succ ?_
        simp only [spec_l91Form.l0]
        refine Ev.neg (by omega) (Ev.bind e1 (Ev.pos c1 (Ev.sbind (Ev.bind e2 ?_))))
        refine Ev.pos a3 (Ev.pos (by simp; omega) (Ev.pos (by simp only [List.length_cons]; omega) ?_))
        exact Ev.ret rfl
    · by_cases c2 : r1 = 1
      · refine ⟨[], p + 1, .inl rfl, by simp, by omega, by omega, ?_⟩
        refine Ev.succ ?_
        simp only [spec_l91Form.l0]
        exact Ev.neg (by omega) (Ev.bind e1 (Ev.neg c1 (Ev.pos c2 (Ev.now _))))
      · refine ⟨x :: r, p + 1, .inr ⟨x, r, rfl, .inl (ht x (by simp)), fun t h => ht t (by simp [h])⟩, by simp at ho ⊢; omega, by omega, by omega, ?_⟩
        refine Ev.succ ?_
        simp only [spec_l91Form.l0]
        exact Ev.neg (by omega) (Ev.bind e1 (Ev.neg c1 (Ev.neg c2 (Ev.now _))))
  | succ d ih =>
    intro o i p hi ho ht h0 hp hp2
    obtain ⟨r1, a1, a2, e1⟩ := pick_ev hb (n := 16) (p := p) (by omega) hp (by omega)
    obtain ⟨r2, a3, a4, e2⟩ := pick_ev hb (n := 5) (p := p + 1) (by omega) (by omega) (by omega)
    obtain ⟨t1, t2, t3⟩ := rd16 a1 a2
    have step : ∃ y, Drw y ∧ ∀ r q, Ev (fun k => spec_l91Form.l0 k (o ++ [y]) (m : Int) ((i + 1 : Nat) : Int) b (p + 1 + 1)) (r, q) → Ev (fun k => spec_l91Form.l0 k o (m : Int) (i : Int) b p) (r, q) := by
      by_cases c : r2 < 2
      · refine ⟨-(rd [1, 2, 3, 5, 6, 7, 1, 10, 12, 3, 15, 4, 21, 1, 30, 8] r1), t1.neg, fun r q h => ?_⟩
        refine Ev.succ ?_
        simp only [spec_l91Form.l0]
        refine Ev.pos (by omega) (Ev.sbind (Ev.bind e1 (Ev.pos a1 (Ev.pos (by simp; omega) (Ev.bind e2 (Ev.pos c (Ev.pos (by omega) ?_)))))))
        dsimp only
        rw [w64 (x := (i : Int) + 1) (by omega) (by omega), w64 (by omega) (by omega), cast_succ]
        exact h
      · refine ⟨rd [1, 2, 3, 5, 6, 7, 1, 10, 12, 3, 15, 4, 21, 1, 30, 8] r1, t1, fun r q h => ?_⟩
        refine Ev.succ ?_
        simp only [spec_l91Form.l0]
        refine Ev.pos (by omega) (Ev.sbind (Ev.bind e1 (Ev.pos a1 (Ev.pos (by simp; omega) (Ev.bind e2 (Ev.neg c (Ev.pos (by omega) ?_)))))))
        dsimp only
        rw [w64 (x := (i : Int) + 1) (by omega) (by omega), cast_succ]
        exact h
    obtain ⟨y, hy, hs⟩ := step
    obtain ⟨r, q, h1, h2, h3, h4, h5⟩ := ih (o ++ [y]) (i + 1) (p + 1 + 1) (by omega) (by simp [ho]) (by
      intro t h
      rcases List.mem_append.1 h with h | h
      · exact ht t h
      · rw [List.mem_singleton.1 h]; exact hy) h0 (by omega) (by omega)
    exact ⟨r, q, h1, h2, by omega, by omega, hs r q h5⟩
/-- A drawn form. -/
theorem spec_l91Form_ev {b : List Int} (hb : BY b) {n p : Int} (hn : 1 ≤ n) (hn2 : n ≤ 50) (hp : 0 ≤ p) (hp2 : p ≤ 900000) :
    ∃ r q, Dr r ∧ (r.length : Int) ≤ n ∧ p ≤ q ∧ q ≤ p + 2 * n + 3 ∧ Ev (fun k => spec_l91Form.f k b p n) (r, q) := by
  obtain ⟨r1, a1, a2, e1⟩ := pick_ev hb (n := n) (p := p) hn hp (by omega)
  obtain ⟨m, hm⟩ : ∃ m : Nat, 1 + r1 = m := ⟨(1 + r1).toNat, by omega⟩
  obtain ⟨r, q, h1, h2, h3, h4, h5⟩ := l91Form_l hb m (by omega) m [] 0 (p + 1) (by omega) rfl (by simp) (by omega) (by omega) (by omega)
  refine ⟨r, q, h1, by omega, by omega, by omega, ?_⟩
  unfold spec_l91Form.f
  refine Ev.bind e1 ?_
  dsimp only
  rw [w64 (by omega) (by omega), hm]
  exact h5
theorem Drw.bd {t : Int} (h : Drw t) : t ≠ 0 ∧ -30 ≤ t ∧ t ≤ 30 := by
  unfold Drw at h
  simp only [List.mem_cons, List.not_mem_nil, or_false] at h
  omega
theorem Dr.md {l : List Int} (h : Dr l) (hl : l.length ≤ 1000) : Md l := by
  refine ⟨by omega, fun t ht => ?_⟩
  rcases h with rfl | ⟨x, r, rfl, hx, hr⟩
  · simp at ht
  · rcases List.mem_cons.1 ht with rfl | ht
    · rcases hx with hx | rfl | rfl
      · have := hx.bd; omega
      · omega
      · omega
    · have := (hr t ht).bd; omega
/-- Of a drawn form, the terms are drawn ones. -/
theorem Dr.terms {l : List Int} (h : Dr l) (hv : fv l = true) : ∀ t ∈ l, Drw t := by
  obtain ⟨h1, _⟩ := fv_iff.1 hv
  intro t ht
  rcases h with rfl | ⟨x, r, rfl, hx, hr⟩
  · simp at ht
  · rcases List.mem_cons.1 ht with rfl | ht
    · rcases hx with hx | rfl | rfl
      · exact hx
      · have := h1 0 (by simp); omega
      · have := h1 31 (by simp); omega
    · exact hr t ht

theorem l91Vector_l {b : List Int} (hb : BY b) (f : List Int) (n : Int) (hn : 0 ≤ n) (hn2 : n ≤ 1000) (hf : f.length ≤ 100) : ∀ (d : Nat) (o : List Int) (i : Nat) (p : Int), i + d = f.length → o.length = i → (∀ x ∈ o, -n ≤ x ∧ x ≤ n) → 0 ≤ p → p + d ≤ 1000000 →
    ∃ r, r.length = f.length ∧ (∀ x ∈ r, -n ≤ x ∧ x ≤ n) ∧ Ev (fun k => spec_l91Vector.l0 k f n o (i : Int) b p) (r, p + d) := by
  intro d
  induction d with
  | zero =>
    intro o i p hi ho hx hp hp2
    refine ⟨o, by omega, hx, Ev.succ ?_⟩
    simp only [spec_l91Vector.l0]
    exact Ev.neg (by omega) (Ev.ret (by simp))
  | succ d ih =>
    intro o i p hi ho hx hp hp2
    obtain ⟨r1, a1, a2, e1⟩ := pick_ev hb (n := 2 * n + 1) (p := p) (by omega) hp (by omega)
    obtain ⟨r, h1, h2, h3⟩ := ih (o ++ [r1 - n]) (i + 1) (p + 1) (by omega) (by simp [ho]) (by
      intro x h
      rcases List.mem_append.1 h with h | h
      · exact hx x h
      · rw [List.mem_singleton.1 h]; omega) (by omega) (by omega)
    refine ⟨r, h1, h2, Ev.succ ?_⟩
    simp only [spec_l91Vector.l0]
    rw [w64 (x := 2 * n) (by omega) (by omega), w64 (x := 2 * n + 1) (by omega) (by omega)]
    refine Ev.pos (by omega) (Ev.bind e1 (Ev.pos (by omega) ?_))
    dsimp only
    rw [w64 (x := r1 - n) (by omega) (by omega), w64 (x := (i : Int) + 1) (by omega) (by omega), cast_succ]
    refine Ev.to h3 ?_
    congr 1; omega
theorem spec_l91Vector_ev {b : List Int} (hb : BY b) {f : List Int} {n p : Int} (hn : 0 ≤ n) (hn2 : n ≤ 1000) (hf : f.length ≤ 100) (hp : 0 ≤ p) (hp2 : p ≤ 900000) :
    ∃ r, r.length = f.length ∧ (∀ x ∈ r, -n ≤ x ∧ x ≤ n) ∧ Ev (fun k => spec_l91Vector.f k b p f n) (r, p + f.length) := by
  unfold spec_l91Vector.f
  exact l91Vector_l hb f n hn hn2 hf f.length [] 0 p (by omega) rfl (by simp) hp (by omega)

/-- Does a vector fit? -/
def okV (m : Int) (x : Int) : Bool := decide (-m ≤ x ∧ x ≤ m)
def vOk (f v : List Int) (m : Int) : Bool := v.all (okV m) && decide (v.length = f.length)
theorem vOk_iff {f v : List Int} {m : Int} : vOk f v m = true ↔ (∀ x ∈ v, -m ≤ x ∧ x ≤ m) ∧ v.length = f.length := by
  unfold vOk okV; simp
theorem beq_dec (a b : Nat) : ((a : Int) == (b : Int)) = decide (a = b) := by
  by_cases h : a = b
  · subst h; simp
  · simp only [h, decide_false, beq_eq_false_iff_ne, ne_eq]; omega
theorem impl_vectorOk_l (f v : List Int) (m : Int) (hm : 0 ≤ m) (hm2 : m ≤ 1000000) (hl : v.length ≤ 1000000) : ∀ (r : List Int) (i : Nat), v.drop i = r → Ev (fun k => impl_vectorOk.l0 k f v m v (v.length : Int) (i : Int)) (r.all (okV m) && decide (v.length = f.length))
  | [], i, h => by
    have := drop_nil h
    refine Ev.succ ?_
    simp only [impl_vectorOk.l0]
    refine Ev.neg (by omega) (Ev.ret ?_)
    rw [beq_dec]; simp
  | t :: r, i, h => by
    obtain ⟨h1, h2, h3⟩ := drop_cons h
    refine Ev.succ ?_
    simp only [impl_vectorOk.l0]
    rw [h2, w64 (x := -m) (by omega) (by omega)]
    refine Ev.pos (by omega) (Ev.pos (by omega) (Ev.pos (by omega) ?_))
    by_cases c : -m ≤ t ∧ t ≤ m
    · refine Ev.neg (by omega) (Ev.neg (by omega) ?_)
      rw [w64 (by omega) (by omega), cast_succ]
      refine Ev.to (impl_vectorOk_l f v m hm hm2 hl r (i + 1) h3) ?_
      have : okV m t = true := by unfold okV; simpa using c
      simp [this]
    · have : okV m t = false := by unfold okV; simpa using c
      by_cases c1 : t < -m
      · exact Ev.pos c1 (Ev.ret (by simp [this]))
      · exact Ev.neg c1 (Ev.pos (by omega) (Ev.ret (by simp [this])))
theorem impl_vectorOk_ev {f v : List Int} {m : Int} (hm : 0 ≤ m) (hm2 : m ≤ 1000000) (hl : v.length ≤ 1000000) : Ev (fun k => impl_vectorOk.f k f v m) (vOk f v m) := by
  unfold impl_vectorOk.f
  exact impl_vectorOk_l f v m hm hm2 hl v 0 rfl

theorem l6In_eq (a b c : Int) : spec_l6In.f a b c = some (decide (b ≤ a ∧ a ≤ c)) := by
  unfold spec_l6In.f
  split
  · congr 1; simp only [decide_eq_decide]; omega
  · congr 1; simp; omega
theorem spec_FormValid_l (xs : List Int) (hx : Md xs) : ∀ (r : List Int) (i : Nat), xs.drop i = r → Ev (fun k => spec_FormValid.l0 k xs (i : Int)) (r.all okT && decide (1 ≤ xs.length ∧ xs.length ≤ 4))
  | [], i, h => by
    have := drop_nil h
    refine Ev.succ ?_
    simp only [spec_FormValid.l0]
    refine Ev.neg (by omega) ?_
    rw [l6In_eq]
    refine Ev.sbind (Ev.ret ?_)
    simp only [List.all_nil, Bool.true_and, decide_eq_decide]; omega
  | t :: r, i, h => by
    obtain ⟨h1, h2, h3⟩ := drop_cons h
    have hl := hx.1
    refine Ev.succ ?_
    simp only [spec_FormValid.l0]
    rw [h2, l6In_eq]
    refine Ev.pos (by omega) (Ev.pos (by omega) ?_)
    by_cases h0 : t = 0
    · exact Ev.pos h0 (Ev.ret (by simp [okT, h0]))
    · refine Ev.neg h0 (Ev.sbind ?_)
      by_cases hs : -30 ≤ t ∧ t ≤ 30
      · have : okT t = true := okT_iff.2 ⟨h0, hs⟩
        refine Ev.pos (by simpa using hs) ?_
        rw [w64 (by omega) (by omega), cast_succ]
        refine Ev.to (spec_FormValid_l xs hx r (i + 1) h3) ?_
        simp [this]
      · have : okT t = false := by unfold okT; simp; intro _; omega
        refine Ev.neg (by simpa using hs) (Ev.ret (by simp [this]))
theorem spec_FormValid_ev {xs : List Int} (hx : Md xs) : Ev (fun k => spec_FormValid.f k xs) (fv xs) := by
  unfold spec_FormValid.f
  exact spec_FormValid_l xs hx xs 0 rfl

theorem spec_l4Vector_l (f v : List Int) (hf : Md f) (m : Int) (hm : 0 ≤ m) (hm2 : m ≤ 1000000) (hl : v.length ≤ 1000000) : ∀ (r : List Int) (i : Nat), v.drop i = r → Ev (fun k => spec_l4Vector.l0 k f v m (i : Int)) (fv f && (r.all (okV m) && decide (v.length = f.length)))
  | [], i, h => by
    have := drop_nil h
    refine Ev.succ ?_
    simp only [spec_l4Vector.l0]
    refine Ev.neg (by omega) (Ev.bind (spec_FormValid_ev hf) ?_)
    by_cases hv : fv f = true
    · refine Ev.pos hv (Ev.ret ?_)
      rw [beq_dec, hv]; simp
    · refine Ev.neg hv (Ev.ret ?_)
      simp [hv]
  | t :: r, i, h => by
    obtain ⟨h1, h2, h3⟩ := drop_cons h
    refine Ev.succ ?_
    simp only [spec_l4Vector.l0]
    rw [h2, w64 (x := -m) (by omega) (by omega), l6In_eq]
    refine Ev.pos (by omega) (Ev.pos (by omega) (Ev.sbind ?_))
    by_cases c : -m ≤ t ∧ t ≤ m
    · refine Ev.pos (by simpa using c) ?_
      rw [w64 (by omega) (by omega), cast_succ]
      refine Ev.to (spec_l4Vector_l f v hf m hm hm2 hl r (i + 1) h3) ?_
      have : okV m t = true := by unfold okV; simpa using c
      simp [this]
    · have : okV m t = false := by unfold okV; simpa using c
      exact Ev.neg (by simpa using c) (Ev.ret (by simp [this]))
theorem spec_l4Vector_ev {f v : List Int} (hf : Md f) {m : Int} (hm : 0 ≤ m) (hm2 : m ≤ 1000000) (hl : v.length ≤ 1000000) : Ev (fun k => spec_l4Vector.f k f v m) (fv f && vOk f v m) := by
  unfold spec_l4Vector.f
  exact spec_l4Vector_l f v hf m hm hm2 hl v 0 rfl

/-- The sum of terms and two vectors. -/
def pr3 : List Int → List Int → List Int → Int
  | t :: f, x :: v, y :: w => t * x * y + pr3 f v w
  | _, _, _ => 0
theorem abs_mul3 {t x y m n : Int} (ht : t.natAbs ≤ m.toNat) (hx : x.natAbs ≤ n.toNat) (hy : y.natAbs ≤ n.toNat) : (t * x * y).natAbs ≤ m.toNat * n.toNat * n.toNat := by
  rw [Int.natAbs_mul, Int.natAbs_mul]
  exact Nat.mul_le_mul (Nat.mul_le_mul ht hx) hy
/-- What the walk may lean on: terms and vectors are small. -/
def Sml (f v w : List Int) : Prop := f.length ≤ 4 ∧ v.length = f.length ∧ w.length = f.length ∧ (∀ t ∈ f, -31 ≤ t ∧ t ≤ 31) ∧ (∀ x ∈ v, -1000000 ≤ x ∧ x ≤ 1000000) ∧ (∀ x ∈ w, -1000000 ≤ x ∧ x ≤ 1000000)
theorem Sml.of {f v w : List Int} (hf : fv f = true) {m : Int} (hm : m ≤ 1000000) (hv : vOk f v m = true) (hw : vOk f w m = true) : Sml f v w := by
  obtain ⟨f1, f2, f3⟩ := fv_iff.1 hf
  obtain ⟨v1, v2⟩ := vOk_iff.1 hv
  obtain ⟨w1, w2⟩ := vOk_iff.1 hw
  exact ⟨f3, v2, w2, fun t ht => by have := f1 t ht; omega, fun t ht => by have := v1 t ht; omega, fun t ht => by have := w1 t ht; omega⟩
theorem mul3_bd {t x y : Int} (ht : -31 ≤ t ∧ t ≤ 31) (hx : -1000000 ≤ x ∧ x ≤ 1000000) (hy : -1000000 ≤ y ∧ y ≤ 1000000) : (-31000000 ≤ t * x ∧ t * x ≤ 31000000) ∧ (-31000000000000 ≤ t * x * y ∧ t * x * y ≤ 31000000000000) := by
  have h1 : (t * x).natAbs ≤ 31 * 1000000 := by rw [Int.natAbs_mul]; exact Nat.mul_le_mul (by omega) (by omega)
  have h2 : (t * x * y).natAbs ≤ 31 * 1000000 * 1000000 := by rw [Int.natAbs_mul]; exact Nat.mul_le_mul h1 (by omega)
  omega
theorem impl_pair_l (f v w : List Int) (hs : Sml f v w) : ∀ (r rv rw : List Int) (i : Nat) (n : Int), f.drop i = r → v.drop i = rv → w.drop i = rw → -31000000000000 * (i : Int) ≤ n → n ≤ 31000000000000 * (i : Int) →
    Ev (fun k => impl_pair.l0 k v w n f (f.length : Int) (i : Int)) (n + pr3 r rv rw)
  | [], rv, rw', i, n, h, h', h'', _, _ => by
    have := drop_nil h
    refine Ev.succ ?_
    simp only [impl_pair.l0]
    exact Ev.neg (by omega) (Ev.ret (by simp [pr3]))
  | t :: r, [], _, i, n, h, h', h'', _, _ => by
    obtain ⟨h1, _, _⟩ := drop_cons h
    have := drop_nil h'
    have := hs.2.1
    omega
  | t :: r, _ :: _, [], i, n, h, h', h'', _, _ => by
    obtain ⟨h1, _, _⟩ := drop_cons h
    have := drop_nil h''
    have := hs.2.2.1
    omega
  | t :: r, x :: rv, y :: rw', i, n, h, h', h'', hn1, hn2 => by
    obtain ⟨h1, h2, h3⟩ := drop_cons h
    obtain ⟨v1, v2, v3⟩ := drop_cons h'
    obtain ⟨w1, w2, w3⟩ := drop_cons h''
    obtain ⟨s1, s2, s3, s4, s5, s6⟩ := hs
    obtain ⟨⟨b1, b2⟩, b3, b4⟩ := mul3_bd (s4 t (h2 ▸ rd_mem h1)) (s5 x (v2 ▸ rd_mem v1)) (s6 y (w2 ▸ rd_mem w1))
    refine Ev.succ ?_
    simp only [impl_pair.l0]
    rw [h2, v2, w2]
    refine Ev.pos (by omega) (Ev.pos (by omega) (Ev.pos (by omega) (Ev.pos (by omega) (Ev.pos (by omega) ?_))))
    rw [w64 (x := (i : Int) + 1) (by omega) (by omega), w64 (x := t * x) (by omega) (by omega), w64 (x := t * x * y) (by omega) (by omega), w64 (x := n + t * x * y) (by omega) (by omega), cast_succ]
    refine Ev.to (impl_pair_l f v w ⟨s1, s2, s3, s4, s5, s6⟩ r rv rw' (i + 1) (n + t * x * y) h3 v3 w3 (by omega) (by omega)) ?_
    simp only [pr3]; omega
theorem impl_pair_ev {f v w : List Int} (hs : Sml f v w) : Ev (fun k => impl_pair.f k f v w) (pr3 f v w) := by
  unfold impl_pair.f
  exact Ev.to (impl_pair_l f v w hs f v w 0 0 rfl rfl rfl (by omega) (by omega)) (by omega)
theorem pr3_bd : ∀ {f v w : List Int}, Sml f v w → -31000000000000 * (f.length : Int) ≤ pr3 f v w ∧ pr3 f v w ≤ 31000000000000 * (f.length : Int)
  | [], v, w, _ => by simp [pr3]
  | t :: f, [], w, h => by have := h.2.1; simp at this
  | t :: f, x :: v, [], h => by have := h.2.2.1; simp at this
  | t :: f, x :: v, y :: w, ⟨s1, s2, s3, s4, s5, s6⟩ => by
    have ih := pr3_bd (f := f) (v := v) (w := w) ⟨by simp at s1; omega, by simpa using s2, by simpa using s3, fun t h => s4 t (by simp [h]), fun t h => s5 t (by simp [h]), fun t h => s6 t (by simp [h])⟩
    have := (mul3_bd (s4 t (by simp)) (s5 x (by simp)) (s6 y (by simp))).2
    simp only [pr3, List.length_cons]
    omega

theorem spec_l4Value_l (f v : List Int) (hs : Sml f v v) : ∀ (r rv : List Int) (i : Nat) (n : Int), f.drop i = r → v.drop i = rv → -31000000000000 * (i : Int) ≤ n → n ≤ 31000000000000 * (i : Int) →
    Ev (fun k => spec_l4Value.l0 k f v n (i : Int)) (n + pr3 r rv rv)
  | [], rv, i, n, h, h', _, _ => by
    have := drop_nil h
    refine Ev.succ ?_
    simp only [spec_l4Value.l0]
    exact Ev.neg (by omega) (Ev.ret (by simp [pr3]))
  | t :: r, [], i, n, h, h', _, _ => by
    obtain ⟨h1, _, _⟩ := drop_cons h
    have := drop_nil h'
    have := hs.2.1
    omega
  | t :: r, x :: rv, i, n, h, h', hn1, hn2 => by
    obtain ⟨h1, h2, h3⟩ := drop_cons h
    obtain ⟨v1, v2, v3⟩ := drop_cons h'
    obtain ⟨s1, s2, s3, s4, s5, s6⟩ := hs
    obtain ⟨⟨b1, b2⟩, b3, b4⟩ := mul3_bd (s4 t (h2 ▸ rd_mem h1)) (s5 x (v2 ▸ rd_mem v1)) (s6 x (v2 ▸ rd_mem v1))
    refine Ev.succ ?_
    simp only [spec_l4Value.l0]
    rw [h2, v2]
    refine Ev.pos (by omega) (Ev.pos (by omega) (Ev.pos (by omega) ?_))
    rw [w64 (x := (i : Int) + 1) (by omega) (by omega), w64 (x := t * x) (by omega) (by omega), w64 (x := t * x * x) (by omega) (by omega), w64 (x := n + t * x * x) (by omega) (by omega), cast_succ]
    refine Ev.to (spec_l4Value_l f v ⟨s1, s2, s3, s4, s5, s6⟩ r rv (i + 1) (n + t * x * x) h3 v3 (by omega) (by omega)) ?_
    simp only [pr3]; omega
theorem spec_l4Value_ev {f v : List Int} (hs : Sml f v v) : Ev (fun k => spec_l4Value.f k f v) (pr3 f v v) := by
  unfold spec_l4Value.f
  exact Ev.to (spec_l4Value_l f v hs f v 0 0 rfl rfl (by omega) (by omega)) (by omega)

theorem impl_FormValid_l (xs : List Int) (hx : Md xs) : ∀ (r : List Int) (i : Nat), xs.drop i = r → Ev (fun k => impl_FormValid.l0 k xs xs (xs.length : Int) (i : Int)) (r.all okT && decide (1 ≤ xs.length ∧ xs.length ≤ 4))
  | [], i, h => by
    have := drop_nil h
    refine Ev.succ ?_
    simp only [impl_FormValid.l0]
    refine Ev.neg (by omega) ?_
    by_cases h1 : (xs.length : Int) ≥ 1
    · exact Ev.pos h1 (Ev.ret (by simp only [List.all_nil, Bool.true_and, decide_eq_decide]; omega))
    · exact Ev.neg h1 (Ev.ret (by simp only [List.all_nil, Bool.true_and]; symm; rw [decide_eq_false_iff_not]; omega))
  | t :: r, i, h => by
    obtain ⟨h1, h2, h3⟩ := drop_cons h
    have hb := hx.2 t (h2 ▸ rd_mem h1)
    have hl := hx.1
    refine Ev.succ ?_
    simp only [impl_FormValid.l0]
    rw [h2]
    refine Ev.pos (by omega) (Ev.pos (by omega) (Ev.pos (by omega) ?_))
    by_cases h0 : t = 0
    · exact Ev.pos h0 (Ev.ret (by simp [okT, h0]))
    · refine Ev.neg h0 ?_
      unfold impl_size.f
      rw [w64 (by omega) (by omega)]
      refine Ev.sbind ?_
      have hm : mx t (-t) = if t < 0 then -t else t := by unfold mx; split <;> split <;> omega
      rw [hm]
      by_cases hs : (if t < 0 then -t else t) > 30
      · refine Ev.pos hs (Ev.ret ?_)
        have : okT t = false := by unfold okT; simp; intro _ _; split at hs <;> omega
        simp [this]
      · refine Ev.neg hs ?_
        have : okT t = true := okT_iff.2 ⟨h0, by split at hs <;> omega, by split at hs <;> omega⟩
        rw [w64 (by omega) (by omega), cast_succ]
        refine Ev.to (impl_FormValid_l xs hx r (i + 1) h3) ?_
        simp [this]
theorem impl_FormValid_ev {xs : List Int} (hx : Md xs) : Ev (fun k => impl_FormValid.f k xs) (fv xs) := by
  unfold impl_FormValid.f
  exact impl_FormValid_l xs hx xs 0 rfl

/-- What FormValue tells. -/
def value (f v : List Int) : Int × Bool := if fv f = true ∧ vOk f v 1000 = true then (pr3 f v v, true) else (0, false)
theorem impl_FormValue_ev {f v : List Int} (hf : Md f) (hl : v.length ≤ 1000000) : Ev (fun k => impl_FormValue.f k f v) (value f v) := by
  unfold impl_FormValue.f value
  refine Ev.bind (impl_FormValid_ev hf) ?_
  by_cases h : fv f = true
  · refine Ev.pos h (Ev.bind (impl_vectorOk_ev (by omega) (by omega) hl) ?_)
    by_cases h' : vOk f v 1000 = true
    · rw [if_pos ⟨h, h'⟩]
      exact Ev.pos h' (Ev.bind (impl_pair_ev (Sml.of h (by omega) h' h')) (Ev.now _))
    · rw [if_neg (fun e => h' e.2)]
      exact Ev.neg h' (Ev.now _)
  · rw [if_neg (fun e => h e.1)]
    exact Ev.neg h (Ev.now _)

theorem spec_FormValue_ev {f v : List Int} (hf : Md f) (hl : v.length ≤ 1000000) : Ev (fun k => spec_FormValue.f k f v) (value f v) := by
  unfold spec_FormValue.f value
  refine Ev.bind (spec_l4Vector_ev hf (by omega) (by omega) hl) ?_
  by_cases h : fv f = true ∧ vOk f v 1000 = true
  · rw [if_pos h]
    refine Ev.pos (by simp [h.1, h.2]) (Ev.bind (spec_l4Value_ev (Sml.of h.1 (by omega) h.2 h.2)) (Ev.now _))
  · rw [if_neg h]
    refine Ev.neg (by simpa using h) (Ev.now _)

theorem laws_minusOf_l (xs : List Int) (hx : Md xs) : ∀ (r o : List Int) (i : Nat), o.length ≤ i → xs.drop i = r → Ev (fun k => laws_minusOf.l0 k xs o (i : Int)) (o ++ r.map (fun t => -t))
  | [], o, i, hn, h => by
    have := drop_nil h
    refine Ev.succ ?_
    simp only [laws_minusOf.l0]
    exact Ev.neg (by omega) (Ev.ret (by simp))
  | t :: r, o, i, hn, h => by
    obtain ⟨h1, h2, h3⟩ := drop_cons h
    have hl := hx.1
    have hb := hx.2 t (h2 ▸ rd_mem h1)
    refine Ev.succ ?_
    simp only [laws_minusOf.l0]
    rw [h2]
    refine Ev.pos (by omega) (Ev.pos (by omega) (Ev.pos (by omega) ?_))
    rw [w64 (x := (i : Int) + 1) (by omega) (by omega), w64 (x := -t) (by omega) (by omega), cast_succ]
    refine Ev.to (laws_minusOf_l xs hx r (o ++ [-t]) (i + 1) (by simp; omega) h3) ?_
    simp
theorem laws_minusOf_ev {xs : List Int} (hx : Md xs) : Ev (fun k => laws_minusOf.f k xs) (xs.map fun t => -t) := by
  unfold laws_minusOf.f
  refine Ev.to (laws_minusOf_l xs hx xs [] 0 (by simp) rfl) (by simp)
theorem md_minus {xs : List Int} (hx : Md xs) : Md (xs.map fun t => -t) := by
  refine ⟨by simpa using hx.1, fun t ht => ?_⟩
  obtain ⟨s, hs, rfl⟩ := List.mem_map.1 ht
  have := hx.2 s hs
  omega
theorem fv_minus (xs : List Int) : fv (xs.map fun t => -t) = fv xs := by
  rw [Bool.eq_iff_iff, fv_iff, fv_iff]
  simp only [List.mem_map, List.length_map, forall_exists_index, and_imp, forall_apply_eq_imp_iff₂]
  constructor
  · rintro ⟨h1, h2⟩; exact ⟨fun t ht => by have := h1 t ht; omega, h2⟩
  · rintro ⟨h1, h2⟩; exact ⟨fun t ht => by have := h1 t ht; omega, h2⟩

theorem laws_backOf_l (xs : List Int) (hl : xs.length ≤ 1000000) : ∀ (i : Nat) (o : List Int), i + o.length = xs.length → Ev (fun k => laws_backOf.l0 k xs o ((i : Int) - 1)) (o ++ (xs.take i).reverse)
  | 0, o, h => by
    refine Ev.succ ?_
    simp only [laws_backOf.l0]
    exact Ev.neg (by omega) (Ev.ret (by simp))
  | i + 1, o, h => by
    refine Ev.succ ?_
    simp only [laws_backOf.l0]
    have e : (((i + 1 : Nat) : Int) - 1) = (i : Int) := by omega
    rw [e]
    refine Ev.pos (by omega) (Ev.pos (by omega) (Ev.pos (by omega) (Ev.pos (by omega) ?_)))
    rw [w64 (by omega) (by omega)]
    refine Ev.to (laws_backOf_l xs hl i (o ++ [rd xs (i : Int)]) (by simp; omega)) ?_
    rw [take_snoc (by omega)]
    simp
theorem laws_backOf_ev {xs : List Int} (hl : xs.length ≤ 1000000) : Ev (fun k => laws_backOf.f k xs) xs.reverse := by
  unfold laws_backOf.f
  rw [w64 (by omega) (by omega)]
  refine Ev.to (laws_backOf_l xs hl xs.length [] (by simp)) ?_
  simp
theorem fv_reverse (xs : List Int) : fv xs.reverse = fv xs := by
  rw [Bool.eq_iff_iff, fv_iff, fv_iff]
  simp
theorem md_reverse {xs : List Int} (h : Md xs) : Md xs.reverse := ⟨by simpa using h.1, fun t ht => h.2 t (by simpa using ht)⟩

theorem draw {l : List Int} (hw : ∀ x ∈ l, (Lit.int .u8 x).wf = true) : ∃ F v, Md F ∧ v.length ≤ 1000 ∧ (∀ x ∈ v, -1001 ≤ x ∧ x ≤ 1001) ∧ Ev (fun k => spec_DrawFormValue.f k l) (F, v) := by
  obtain ⟨b, hb, ho⟩ := spec_l6Open_ev hw
  obtain ⟨r, q, h1, h2, h3, h4, h5⟩ := spec_l91Form_ev hb (n := 4) (p := 0) (by omega) (by omega) (by omega) (by omega)
  obtain ⟨v, v1, v2, v3⟩ := spec_l91Vector_ev hb (f := r) (n := 9) (p := q) (by omega) (by omega) (by omega) (by omega) (by omega)
  obtain ⟨x, x1, x2, x3⟩ := pick_ev hb (n := 20) (p := q + r.length) (by omega) (by omega) (by omega)
  obtain ⟨y, y1, y2, y3⟩ := pick_ev hb (n := 2) (p := q + r.length + 1) (by omega) (by omega) (by omega)
  have hm := h1.md (by omega)
  have vb : ∀ x ∈ v, -1001 ≤ x ∧ x ≤ 1001 := fun x hx => by have := v2 x hx; omega
  unfold spec_DrawFormValue.f
  rw [ho]
  by_cases c : (v.length : Int) > 0
  · by_cases c2 : x = 0
    · exact ⟨r, v.drop 1, hm, by rw [List.length_drop]; omega, fun y hy => vb y (List.mem_of_mem_drop hy), Ev.sbind (Ev.bind h5 (Ev.bind v3 (Ev.pos c (Ev.bind x3 (Ev.pos c2 (Ev.pos (by dsimp only; omega) (Ev.now _)))))))⟩
    · by_cases c3 : x = 1
      · refine ⟨r, v.set 0 (rd [1000, 1001] y), hm, by rw [List.length_set]; omega, fun z hz => ?_, Ev.sbind (Ev.bind h5 (Ev.bind v3 (Ev.pos c (Ev.bind x3 (Ev.neg c2 (Ev.pos c3 (Ev.sbind (Ev.bind y3 (Ev.pos y1 (Ev.pos (by simp; omega) (Ev.pos c (Ev.now _)))))))))))) ⟩
        rcases List.mem_or_eq_of_mem_set hz with h | h
        · exact vb z h
        · rcases (by omega : y = 0 ∨ y = 1) with rfl | rfl <;> simp [rd] at h <;> omega
      · exact ⟨r, v, hm, by omega, vb, Ev.sbind (Ev.bind h5 (Ev.bind v3 (Ev.pos c (Ev.bind x3 (Ev.neg c2 (Ev.neg c3 (Ev.now _)))))))⟩
  · exact ⟨r, v, hm, by omega, vb, Ev.sbind (Ev.bind h5 (Ev.bind v3 (Ev.neg c (Ev.now _))))⟩
theorem pr3_twice : ∀ {f v : List Int}, pr3 f (v.map fun x => 2 * x) (v.map fun x => 2 * x) = 4 * pr3 f v v
  | [], _ => by simp [pr3]
  | t :: f, [] => by simp [pr3]
  | t :: f, x :: v => by
    simp only [pr3, List.map_cons]
    rw [pr3_twice (f := f) (v := v)]
    grind
theorem pr3_minus : ∀ {f v : List Int}, pr3 f (v.map fun x => -x) (v.map fun x => -x) = pr3 f v v
  | [], _ => by simp [pr3]
  | t :: f, [] => by simp [pr3]
  | t :: f, x :: v => by
    simp only [pr3, List.map_cons]
    rw [pr3_minus (f := f) (v := v)]
    grind
theorem pr3_append : ∀ {f g v w : List Int}, f.length = v.length → pr3 (f ++ g) (v ++ w) (v ++ w) = pr3 f v v + pr3 g w w
  | [], _, [], _, _ => by simp [pr3]
  | [], _, _ :: _, _, h => by simp at h
  | _ :: _, _, [], _, h => by simp at h
  | t :: f, g, x :: v, w, h => by
    simp only [pr3, List.cons_append]
    rw [pr3_append (by simpa using h)]
    omega
theorem pr3_reverse : ∀ {f v : List Int}, f.length = v.length → pr3 f.reverse v.reverse v.reverse = pr3 f v v
  | [], [], _ => rfl
  | [], _ :: _, h => by simp at h
  | _ :: _, [], h => by simp at h
  | t :: f, x :: v, h => by
    rw [List.reverse_cons, List.reverse_cons, pr3_append (by simpa using h), pr3_reverse (by simpa using h)]
    simp only [pr3]
    omega
theorem vOk_minus (f v : List Int) (m : Int) : vOk f (v.map fun x => -x) m = vOk f v m := by
  rw [Bool.eq_iff_iff, vOk_iff, vOk_iff]
  simp only [List.mem_map, List.length_map, forall_exists_index, and_imp, forall_apply_eq_imp_iff₂]
  constructor
  · rintro ⟨h1, h2⟩; exact ⟨fun t ht => by have := h1 t ht; omega, h2⟩
  · rintro ⟨h1, h2⟩; exact ⟨fun t ht => by have := h1 t ht; omega, h2⟩
theorem vOk_reverse (f v : List Int) (m : Int) : vOk f.reverse v.reverse m = vOk f v m := by
  rw [Bool.eq_iff_iff, vOk_iff, vOk_iff]
  simp
theorem rest_l (F v : List Int) (hF : Md F) (hv : v.length ≤ 1000) (hb : ∀ x ∈ v, -1001 ≤ x ∧ x ≤ 1001) (out : Int)
    (h : Ev (fun k => laws_FnFormValue.l0 k F v out (v.map fun x => 2 * x) (v.length : Int)) true) :
    ∀ (rv o : List Int) (i : Nat), v.drop i = rv → o.length = i → o ++ rv.map (fun x => 2 * x) = v.map (fun x => 2 * x) → Ev (fun k => laws_FnFormValue.l0 k F v out o (i : Int)) true
  | [], o, i, h1, ho, he => by
    have h2 := drop_nil h1
    have e : o = v.map fun x => 2 * x := by simpa using he
    have e2 : i = v.length := by rw [← ho, e]; simp
    rw [e, e2]
    exact h
  | x :: rv, o, i, h1, ho, he => by
    obtain ⟨v1, v2, v3⟩ := drop_cons h1
    have bx := hb x (v2 ▸ rd_mem v1)
    refine Ev.succ ?_
    simp only [laws_FnFormValue.l0]
    rw [v2, w64 (x := 2 * x) (by omega) (by omega), w64 (x := (i : Int) + 1) (by omega) (by omega), cast_succ]
    refine Ev.pos (by omega) (Ev.pos (by omega) (Ev.pos (by omega) ?_))
    refine rest_l F v hF hv hb out h rv (o ++ [2 * x]) (i + 1) v3 (by simp [ho]) ?_
    rw [← he]; simp
theorem the : laws_FnFormValue.Pure := by
  intro l _ _ hl
  refine Ev.rounds ?_
  unfold laws_FnFormValue.f
  by_cases h : (l.length : Int) > 1048576
  · exact Ev.pos h (Ev.now _)
  · obtain ⟨F, v, hF, hv, hvb, hd⟩ := draw hl
    refine Ev.neg h (Ev.bind hd (Ev.bind (impl_FormValue_ev (v := v) hF (by omega)) (Ev.bind (spec_FormValue_ev (v := v) hF (by omega)) (Ev.neg (by simp) (Ev.pos rfl (Ev.succ ?_))))))
    simp only [laws_FnFormValue.j0]
    by_cases hz : fv F = true ∧ vOk F v 1000 = true
    · obtain ⟨z1, z2⟩ := hz
      have e1 : value F v = (pr3 F v v, true) := by unfold value; rw [if_pos ⟨z1, z2⟩]
      obtain ⟨v1, v2⟩ := vOk_iff.1 z2
      have vm : Md v := ⟨by omega, fun t ht => by have := hvb t ht; omega⟩
      rw [e1]
      refine Ev.neg (by simp) (rest_l F v hF hv hvb _ ?_ v [] 0 rfl rfl rfl)
      refine Ev.succ ?_
      simp only [laws_FnFormValue.l0]
      refine Ev.neg (by omega) (Ev.bind (impl_FormValue_ev hF (by simp; omega)) (Ev.bind (laws_minusOf_ev vm) (Ev.bind (impl_FormValue_ev hF (by simp; omega)) (Ev.bind (laws_backOf_ev hF.1) (Ev.bind (laws_backOf_ev (by omega)) (Ev.bind (impl_FormValue_ev (md_reverse hF) (by simp; omega)) ?_))))))
      have e2 : value F (v.map fun t => -t) = (pr3 F v v, true) := by unfold value; rw [vOk_minus, if_pos ⟨z1, z2⟩, pr3_minus]
      have e3 : value F.reverse v.reverse = (pr3 F v v, true) := by unfold value; rw [vOk_reverse, fv_reverse, if_pos ⟨z1, z2⟩, pr3_reverse (by omega)]
      rw [e2, e3]
      refine Ev.pos rfl (Ev.pos rfl (Ev.pos rfl (Ev.pos rfl ?_)))
      by_cases hu : (value F (v.map fun x => 2 * x)).2 = true
      · refine Ev.pos hu (Ev.ret ?_)
        have hu2 : fv F = true ∧ vOk F (v.map fun x => 2 * x) 1000 = true := by
          unfold value at hu
          split at hu
          · assumption
          · simp at hu
        have e6 : value F (v.map fun x => 2 * x) = (pr3 F (v.map fun x => 2 * x) (v.map fun x => 2 * x), true) := by unfold value; rw [if_pos hu2]
        rw [e6]
        dsimp only
        have b1 := pr3_bd (Sml.of z1 (by omega) z2 z2)
        have := fv_iff.1 z1
        rw [pr3_twice, w64 (by omega) (by omega)]
        simp
      · exact Ev.neg hu (Ev.now _)
    · have e1 : value F v = (0, false) := by unfold value; rw [if_neg hz]
      rw [e1]
      exact Ev.pos (by simp) (Ev.pos (by simp) (Ev.ret (by simp)))

end Go.Proofs.Ytddjokhggaheiaa.KFnFormValue

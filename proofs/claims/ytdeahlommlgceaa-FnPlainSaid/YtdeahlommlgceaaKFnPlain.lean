/- What the printed functions of the law FnPlain compute, and why the law holds of it; for all arguments that its statement speaks of. -/
import Derived.Test.YtdeahlommlgceaaH
import Derived.Test.YtdeahlommlgceaaPFnPlainx11
import Derived.Test.YtdeahlommlgceaaNtB
import Derived.Test.YtdeahlommlgceaaNtM
import Derived.Test.YtdeahlommlgceaaNtG
import Derived.Test.YtdeahlommlgceaaNtI
set_option linter.unusedVariables false
set_option linter.unusedSimpArgs false
namespace Go.Proofs.Ytdeahlommlgceaa.KFnPlain
open Go.RowKit Go.Proofs.YtdeahlommlgceaaW.PrintWords Go.Proofs.YtdeahlommlgceaaW.PrintLast Go.Proofs.YtdeahlommlgceaaW.PrintMore Go.Proofs.Ytdeahlommlgceaa.PFnPlain Go.Proofs.Ytdeahlommlgceaa.K
open Go.Proofs.Ytdeahlommlgceaa
/-- What a reader reads: bytes, not too many. -/
def BY (b : List Int) : Prop := b.length ≤ 2000 ∧ ∀ x ∈ b, 0 ≤ x ∧ x < 256
theorem BY.rd {b : List Int} (hb : BY b) {i : Int} (h0 : 0 ≤ i) (h1 : i < b.length) : 0 ≤ rd b i ∧ rd b i < 256 := by
 obtain ⟨n, rfl⟩ : ∃ n : Nat, i = n := ⟨i.toNat, by omega⟩
 exact hb.2 _ (rd_mem (by omega))
theorem xor_i64 (a b : Nat) (ha : a < 9223372036854775808) (hb : b < 9223372036854775808) : Go.bits .xor .i64 (a : Int) (b : Int) = ((a ^^^ b : Nat) : Int) := by
 have hx : a ^^^ b < 2 ^ 63 := Nat.xor_lt_two_pow (by omega) (by omega)
 have h1 : (BitVec.ofInt 64 (a : Int)).toNat = a := by
  rw [BitVec.ofInt_natCast, BitVec.toNat_ofNat]; exact Nat.mod_eq_of_lt (by omega)
 have h2 : (BitVec.ofInt 64 (b : Int)).toNat = b := by
  rw [BitVec.ofInt_natCast, BitVec.toNat_ofNat]; exact Nat.mod_eq_of_lt (by omega)
 show IntKind.i64.wrap ((BitVec.ofInt 64 (a : Int) ^^^ BitVec.ofInt 64 (b : Int)).toNat : Int) = _
 rw [BitVec.toNat_xor, h1, h2]
 simp [IntKind.wrap, IntKind.bits, IntKind.signed]
 omega
/-- What lies behind the end. -/
def mixX (b : List Int) (q : Int) : Int := rd b (Int.tmod q b.length) * 131 + rd b (Int.tmod (q * 7 + 3) b.length) * 1117 + q * 29 + Int.tdiv q b.length * 53
/-- Behind the end: the mixture. -/
theorem pick_far {b : List Int} (hb : BY b) {n p : Int} (hn : 1 ≤ n) (hp : 0 ≤ p) (hp2 : p ≤ 1099511627776) (h0 : b.length ≠ 0) (hlt : ¬ p < b.length) :
 0 ≤ mixX b p ∧ Ev (fun k => spec_l6Rd_pick.f k b p n) ((((mixX b p).toNat ^^^ (mixX b p).toNat / 64 : Nat) : Int) % n, p + 1) := by
 have hl := hb.1
 have hlp : (0 : Int) < b.length := by omega
 have t1 : 0 ≤ Int.tmod p b.length := Int.tmod_nonneg _ hp
 have t2 : Int.tmod p b.length < b.length := Int.tmod_lt_of_pos _ hlp
 have t3 : 0 ≤ Int.tmod (p * 7 + 3) b.length := Int.tmod_nonneg _ (by omega)
 have t4 : Int.tmod (p * 7 + 3) b.length < b.length := Int.tmod_lt_of_pos _ hlp
 have r1 := hb.rd t1 t2
 have r2 := hb.rd t3 t4
 have d1 : 0 ≤ Int.tdiv p b.length := Int.tdiv_nonneg hp (by omega)
 have d2 : Int.tdiv p b.length ≤ p := by rw [Int.tdiv_eq_ediv_of_nonneg hp]; exact Int.ediv_le_self _ hp
 have x0 : 0 ≤ mixX b p := by unfold mixX; omega
 have x1 : mixX b p ≤ 100000000000000 := by unfold mixX; omega
 have x2 : Int.tdiv (mixX b p) 64 = mixX b p / 64 := Int.tdiv_eq_ediv_of_nonneg x0
 have x4 : (mixX b p / 64).toNat = (mixX b p).toNat / 64 := by omega
 have x3 : Go.bits .xor .i64 (mixX b p) (Int.tdiv (mixX b p) 64) = ((mixX b p).toNat ^^^ (mixX b p).toNat / 64 : Nat) := by
  rw [x2]
  have := xor_i64 (mixX b p).toNat (mixX b p / 64).toNat (by omega) (by omega)
  rw [Int.toNat_of_nonneg x0, Int.toNat_of_nonneg (by omega)] at this
  rw [this, x4]
 refine ⟨x0, ?_⟩
 rw [← Int.tmod_eq_emod_of_nonneg (by omega), ← x3]
 unfold spec_l6Rd_pick.f
 refine Ev.neg (by omega) ?_
 refine Ev.succ ?_
 simp only [spec_l6Rd_pick.j0]
 refine Ev.neg (by simp only [beq_iff_eq]; omega) ?_
 have e : wrap64 (wrap64 (p + 1) - 1) = p := by rw [w64 (x := p + 1) (by omega) (by omega), w64 (by omega) (by omega)]; omega
 rw [e]
 have e7 : wrap64 (wrap64 (p * 7) + 3) = p * 7 + 3 := by rw [w64 (x := p * 7) (by omega) (by omega), w64 (by omega) (by omega)]
 rw [e7]
 refine Ev.neg (by omega) (Ev.neg (by omega) (Ev.pos t1 (Ev.pos t2 (Ev.pos t3 (Ev.pos t4 (Ev.neg (by omega) ?_))))))
 have em : wrap64 (wrap64 (wrap64 (wrap64 (wrap64 (rd b (Int.tmod p b.length)) * 131) + wrap64 (wrap64 (rd b (Int.tmod (p * 7 + 3) b.length)) * 1117)) + wrap64 (p * 29)) + wrap64 (wrap64 (Int.tdiv p b.length) * 53)) = mixX b p := by
  unfold mixX
  generalize rd b (Int.tmod p b.length) = A at *
  generalize rd b (Int.tmod (p * 7 + 3) b.length) = B at *
  generalize Int.tdiv p b.length = D at *
  simp (disch := omega) only [w64]
 rw [em, w64 (x := Int.tdiv (mixX b p) 64) (by omega) (by omega), w64 (by omega) (by omega)]
 exact Ev.now _
theorem pick_ev {b : List Int} (hb : BY b) {n p : Int} (hn : 1 ≤ n) (hp : 0 ≤ p) (hp2 : p ≤ 1099511627776) :
 ∃ r, 0 ≤ r ∧ r < n ∧ Ev (fun k => spec_l6Rd_pick.f k b p n) (r, p + 1) := by
 have hl := hb.1
 by_cases h0 : b.length = 0
 · refine ⟨0, by omega, by omega, ?_⟩
   unfold spec_l6Rd_pick.f
   refine Ev.neg (by omega) ?_
   refine Ev.succ ?_
   simp only [spec_l6Rd_pick.j0]
   refine Ev.pos (by simp [h0]) ?_
   rw [w64 (by omega) (by omega)]
   exact Ev.now _
 · by_cases hlt : p < b.length
   · have hr := hb.rd hp hlt
     refine ⟨Int.tmod (rd b p) n, ?_, ?_, ?_⟩
     · exact Int.tmod_nonneg _ hr.1
     · exact Int.tmod_lt_of_pos _ (by omega)
     · unfold spec_l6Rd_pick.f
       refine Ev.neg (by omega) ?_
       refine Ev.succ ?_
       simp only [spec_l6Rd_pick.j0]
       refine Ev.neg (by simp only [beq_iff_eq]; omega) ?_
       have e : wrap64 (wrap64 (p + 1) - 1) = p := by rw [w64 (x := p + 1) (by omega) (by omega), w64 (by omega) (by omega)]; omega
       rw [e]
       refine Ev.pos hlt (Ev.pos hp (Ev.neg (by omega) ?_))
       rw [w64 (by omega) (by omega), w64 (by omega) (by omega)]
       exact Ev.now _
   · obtain ⟨_, h⟩ := pick_far hb hn hp hp2 h0 hlt
     exact ⟨_, Int.emod_nonneg _ (by omega), Int.emod_lt_of_pos _ (by omega), h⟩
theorem wf64 {a : Int} (h : (Lit.int .i64 a).wf = true) : -9223372036854775808 ≤ a ∧ a ≤ 9223372036854775807 := by
 simp [Lit.wf, IntKind.min, IntKind.max, IntKind.bits, IntKind.signed] at h
 omega
theorem wf8 {a : Int} (h : (Lit.int .u8 a).wf = true) : 0 ≤ a ∧ a < 256 := by
 simp [Lit.wf, IntKind.min, IntKind.max, IntKind.bits, IntKind.signed] at h
 omega
theorem spec_l6Open_ev {l : List Int} (hw : ∀ x ∈ l, (Lit.int .u8 x).wf = true) : ∃ b, BY b ∧ spec_l6Open.f l = some (b, 0) := by
 unfold spec_l6Open.f
 by_cases h : (l.length : Int) > 2000
 · refine ⟨l.take 2000, ⟨by rw [List.length_take]; omega, fun x hx => wf8 (hw x (List.mem_of_mem_take hx))⟩, ?_⟩
   rw [if_pos h, if_pos (by omega)]
 · exact ⟨l, ⟨by omega, fun x hx => wf8 (hw x hx)⟩, by rw [if_neg h]⟩
/-- A term of a form. -/
def okT (t : Int) : Bool := decide (t ≠ 0 ∧ -30 ≤ t ∧ t ≤ 30)
theorem okT_iff {t : Int} : okT t = true ↔ t ≠ 0 ∧ -30 ≤ t ∧ t ≤ 30 := by unfold okT; simp
/-- Is it a form? -/
def fv (l : List Int) : Bool := l.all okT && decide (1 ≤ l.length ∧ l.length ≤ 4)
theorem fv_iff {l : List Int} : fv l = true ↔ (∀ t ∈ l, t ≠ 0 ∧ -30 ≤ t ∧ t ≤ 30) ∧ 1 ≤ l.length ∧ l.length ≤ 4 := by
 unfold fv; simp [okT_iff]
/-- Not too large, as far as the walk goes. -/
def Md (l : List Int) : Prop := l.length ≤ 1000000 ∧ ∀ t ∈ l, -1000000000000 ≤ t ∧ t ≤ 1000000000000
theorem Md.of_fv {l : List Int} (h : fv l = true) : Md l := by
 obtain ⟨h1, h2, h3⟩ := fv_iff.1 h
 exact ⟨by omega, fun t ht => by have := h1 t ht; omega⟩
/-- How many are less than 0. -/
def less : List Int → Nat
 | [] => 0
 | t :: l => if t < 0 then less l + 1 else less l
theorem less_le : ∀ l : List Int, less l ≤ l.length
 | [] => by simp [less]
 | t :: l => by have := less_le l; unfold less; split <;> simp <;> omega
theorem less_append : ∀ a b : List Int, less (a ++ b) = less a + less b
 | [], b => by simp [less]
 | t :: a, b => by
  have := less_append a b
  simp only [List.cons_append, less]
  split <;> omega
/-- The terms that are drawn. -/
def Drw (t : Int) : Prop := t.natAbs ∈ [1, 2, 3, 4, 5, 6, 7, 8, 10, 12, 15, 21, 30]
/-- What is drawn as a form: terms of a few sizes; the first one is seldom out of range. -/
def Dr (l : List Int) : Prop := l = [] ∨ ∃ x r, l = x :: r ∧ (Drw x ∨ x = 0 ∨ x = 31) ∧ ∀ t ∈ r, Drw t
theorem rd16 {i : Int} (h0 : 0 ≤ i) (h1 : i < 16) : Drw (rd [1, 2, 3, 5, 6, 7, 1, 10, 12, 3, 15, 4, 21, 1, 30, 8] i) ∧ 1 ≤ rd [1, 2, 3, 5, 6, 7, 1, 10, 12, 3, 15, 4, 21, 1, 30, 8] i ∧ rd [1, 2, 3, 5, 6, 7, 1, 10, 12, 3, 15, 4, 21, 1, 30, 8] i ≤ 30 := by
 have : ∀ n : Nat, n < 16 → Drw (rd [1, 2, 3, 5, 6, 7, 1, 10, 12, 3, 15, 4, 21, 1, 30, 8] (n : Int)) ∧ 1 ≤ rd [1, 2, 3, 5, 6, 7, 1, 10, 12, 3, 15, 4, 21, 1, 30, 8] (n : Int) ∧ rd [1, 2, 3, 5, 6, 7, 1, 10, 12, 3, 15, 4, 21, 1, 30, 8] (n : Int) ≤ 30 := by
  unfold Drw rd
  decide
 have h := this i.toNat (by omega)
 rwa [Int.toNat_of_nonneg h0] at h
theorem Drw.neg {t : Int} (h : Drw t) : Drw (-t) := by unfold Drw at *; rwa [Int.natAbs_neg]
theorem l91Form_l {b : List Int} (hb : BY b) (m : Nat) (hm : m ≤ 100) : ∀ (d : Nat) (o : List Int) (i : Nat) (p : Int), i + d = m → o.length = i → (∀ t ∈ o, Drw t) → 0 < m → 0 ≤ p → p + 2 * d + 2 ≤ 1000000000000 →
 ∃ r q, Dr r ∧ r.length ≤ m ∧ p ≤ q ∧ q ≤ p + 2 * d + 2 ∧ Ev (fun k => spec_l91Form.l0 k o (m : Int) (i : Int) b p) (r, q) := by
 intro d
 induction d with
 | zero =>
  intro o i p hi ho ht h0 hp hp2
  obtain ⟨r1, a1, a2, e1⟩ := pick_ev hb (n := 40) (p := p) (by omega) hp (by omega)
  have hne : o ≠ [] := by intro e; subst e; simp at ho; omega
  obtain ⟨x, r, rfl⟩ : ∃ x r, o = x :: r := List.exists_cons_of_ne_nil hne
  by_cases c1 : r1 = 0
  · obtain ⟨r2, a3, a4, e2⟩ := pick_ev hb (n := 2) (p := p + 1) (by omega) (by omega) (by omega)
    refine ⟨rd [0, 31] r2 :: r, p + 1 + 1, .inr ⟨_, _, rfl, ?_, fun t h => ht t (by simp [h])⟩, by simp at ho ⊢; omega, by omega, by omega, ?_⟩
    · rcases (by omega : r2 = 0 ∨ r2 = 1) with rfl | rfl
      · exact .inr (.inl rfl)
      · exact .inr (.inr rfl)
    · refine Ev.succ ?_
      simp only [spec_l91Form.l0]
      refine Ev.neg (by omega) (Ev.bind e1 (Ev.pos c1 (Ev.sbind (Ev.bind e2 ?_))))
      refine Ev.pos a3 (Ev.pos (by simp; omega) (Ev.pos (by simp only [List.length_cons]; omega) ?_))
      exact Ev.ret rfl
  · by_cases c2 : r1 = 1
    · refine ⟨[], p + 1, .inl rfl, by simp, by omega, by omega, ?_⟩
      refine Ev.succ ?_
      simp only [spec_l91Form.l0]
      exact Ev.neg (by omega) (Ev.bind e1 (Ev.neg c1 (Ev.pos c2 (Ev.now _))))
    · refine ⟨x :: r, p + 1, .inr ⟨x, r, rfl, .inl (ht x (by simp)), fun t h => ht t (by simp [h])⟩, by simp at ho ⊢; omega, by omega, by omega, ?_⟩
      refine Ev.succ ?_
      simp only [spec_l91Form.l0]
      exact Ev.neg (by omega) (Ev.bind e1 (Ev.neg c1 (Ev.neg c2 (Ev.now _))))
 | succ d ih =>
  intro o i p hi ho ht h0 hp hp2
  obtain ⟨r1, a1, a2, e1⟩ := pick_ev hb (n := 16) (p := p) (by omega) hp (by omega)
  obtain ⟨r2, a3, a4, e2⟩ := pick_ev hb (n := 5) (p := p + 1) (by omega) (by omega) (by omega)
  obtain ⟨t1, t2, t3⟩ := rd16 a1 a2
  have step : ∃ y, Drw y ∧ ∀ r q, Ev (fun k => spec_l91Form.l0 k (o ++ [y]) (m : Int) ((i + 1 : Nat) : Int) b (p + 1 + 1)) (r, q) → Ev (fun k => spec_l91Form.l0 k o (m : Int) (i : Int) b p) (r, q) := by
   by_cases c : r2 < 2
   · refine ⟨-(rd [1, 2, 3, 5, 6, 7, 1, 10, 12, 3, 15, 4, 21, 1, 30, 8] r1), t1.neg, fun r q h => ?_⟩
     refine Ev.succ ?_
     simp only [spec_l91Form.l0]
     refine Ev.pos (by omega) (Ev.sbind (Ev.bind e1 (Ev.pos a1 (Ev.pos (by simp; omega) (Ev.bind e2 (Ev.pos c (Ev.pos (by omega) ?_)))))))
     dsimp only
     rw [w64 (x := (i : Int) + 1) (by omega) (by omega), w64 (by omega) (by omega), cast_succ]
     exact h
   · refine ⟨rd [1, 2, 3, 5, 6, 7, 1, 10, 12, 3, 15, 4, 21, 1, 30, 8] r1, t1, fun r q h => ?_⟩
     refine Ev.succ ?_
     simp only [spec_l91Form.l0]
     refine Ev.pos (by omega) (Ev.sbind (Ev.bind e1 (Ev.pos a1 (Ev.pos (by simp; omega) (Ev.bind e2 (Ev.neg c (Ev.pos (by omega) ?_)))))))
     dsimp only
     rw [w64 (x := (i : Int) + 1) (by omega) (by omega), cast_succ]
     exact h
  obtain ⟨y, hy, hs⟩ := step
  obtain ⟨r, q, h1, h2, h3, h4, h5⟩ := ih (o ++ [y]) (i + 1) (p + 1 + 1) (by omega) (by simp [ho]) (by
   intro t h
   rcases List.mem_append.1 h with h | h
   · exact ht t h
   · rw [List.mem_singleton.1 h]; exact hy) h0 (by omega) (by omega)
  exact ⟨r, q, h1, h2, by omega, by omega, hs r q h5⟩
/-- A drawn form. -/
theorem spec_l91Form_ev {b : List Int} (hb : BY b) {n p : Int} (hn : 1 ≤ n) (hn2 : n ≤ 50) (hp : 0 ≤ p) (hp2 : p ≤ 900000000000) :
 ∃ r q, Dr r ∧ (r.length : Int) ≤ n ∧ p ≤ q ∧ q ≤ p + 2 * n + 3 ∧ Ev (fun k => spec_l91Form.f k b p n) (r, q) := by
 obtain ⟨r1, a1, a2, e1⟩ := pick_ev hb (n := n) (p := p) hn hp (by omega)
 obtain ⟨m, hm⟩ : ∃ m : Nat, 1 + r1 = m := ⟨(1 + r1).toNat, by omega⟩
 obtain ⟨r, q, h1, h2, h3, h4, h5⟩ := l91Form_l hb m (by omega) m [] 0 (p + 1) (by omega) rfl (by simp) (by omega) (by omega) (by omega)
 refine ⟨r, q, h1, by omega, by omega, by omega, ?_⟩
 unfold spec_l91Form.f
 refine Ev.bind e1 ?_
 dsimp only
 rw [w64 (by omega) (by omega), hm]
 exact h5
theorem Drw.bd {t : Int} (h : Drw t) : t ≠ 0 ∧ -30 ≤ t ∧ t ≤ 30 := by
 unfold Drw at h
 simp only [List.mem_cons, List.not_mem_nil, or_false] at h
 omega
theorem Dr.md {l : List Int} (h : Dr l) (hl : l.length ≤ 1000) : Md l := by
 refine ⟨by omega, fun t ht => ?_⟩
 rcases h with rfl | ⟨x, r, rfl, hx, hr⟩
 · simp at ht
 · rcases List.mem_cons.1 ht with rfl | ht
   · rcases hx with hx | rfl | rfl
     · have := hx.bd; omega
     · omega
     · omega
   · have := (hr t ht).bd; omega
/-- Of a drawn form, the terms are drawn ones. -/
theorem Dr.terms {l : List Int} (h : Dr l) (hv : fv l = true) : ∀ t ∈ l, Drw t := by
 obtain ⟨h1, _⟩ := fv_iff.1 hv
 intro t ht
 rcases h with rfl | ⟨x, r, rfl, hx, hr⟩
 · simp at ht
 · rcases List.mem_cons.1 ht with rfl | ht
   · rcases hx with hx | rfl | rfl
     · exact hx
     · have := h1 0 (by simp); omega
     · have := h1 31 (by simp); omega
   · exact hr t ht
theorem l6In_eq (a b c : Int) : spec_l6In.f a b c = some (decide (b ≤ a ∧ a ≤ c)) := by
 unfold spec_l6In.f
 split
 · congr 1; simp only [decide_eq_decide]; omega
 · congr 1; simp; omega
theorem spec_FormValid_l (xs : List Int) (hx : Md xs) : ∀ (r : List Int) (i : Nat), xs.drop i = r → Ev (fun k => spec_FormValid.l0 k xs (i : Int)) (r.all okT && decide (1 ≤ xs.length ∧ xs.length ≤ 4))
 | [], i, h => by
  have := drop_nil h
  refine Ev.succ ?_
  simp only [spec_FormValid.l0]
  refine Ev.neg (by omega) ?_
  rw [l6In_eq]
  refine Ev.sbind (Ev.ret ?_)
  simp only [List.all_nil, Bool.true_and, decide_eq_decide]; omega
 | t :: r, i, h => by
  obtain ⟨h1, h2, h3⟩ := drop_cons h
  have hl := hx.1
  refine Ev.succ ?_
  simp only [spec_FormValid.l0]
  rw [h2, l6In_eq]
  refine Ev.pos (by omega) (Ev.pos (by omega) ?_)
  by_cases h0 : t = 0
  · exact Ev.pos h0 (Ev.ret (by simp [okT, h0]))
  · refine Ev.neg h0 (Ev.sbind ?_)
    by_cases hs : -30 ≤ t ∧ t ≤ 30
    · have : okT t = true := okT_iff.2 ⟨h0, hs⟩
      refine Ev.pos (by simpa using hs) ?_
      rw [w64 (by omega) (by omega), cast_succ]
      refine Ev.to (spec_FormValid_l xs hx r (i + 1) h3) ?_
      simp [this]
    · have : okT t = false := by unfold okT; simp; intro _; omega
      refine Ev.neg (by simpa using hs) (Ev.ret (by simp [this]))
theorem spec_FormValid_ev {xs : List Int} (hx : Md xs) : Ev (fun k => spec_FormValid.f k xs) (fv xs) := by
 unfold spec_FormValid.f
 exact spec_FormValid_l xs hx xs 0 rfl
theorem tmod_emod {a m : Int} (h : 0 ≤ a) : Int.tmod a m = a % m := Int.tmod_eq_emod_of_nonneg h
theorem tdiv_ediv {a m : Int} (h : 0 ≤ a) : Int.tdiv a m = a / m := Int.tdiv_eq_ediv_of_nonneg h
theorem small_mul2 {a b : Int} (ha : 0 ≤ a) (ha' : a ≤ 5000) (hb : 0 ≤ b) (hb' : b ≤ 5000) : 0 ≤ a * b ∧ a * b ≤ 25000000 := by
 have h1 : a * b ≤ 5000 * 5000 := Int.mul_le_mul (by omega) (by omega) hb (by omega)
 have h2 := Int.mul_nonneg ha hb
 omega
theorem sq_le {m p : Int} (h0 : 2 ≤ m) (h : m * m ≤ p) : m < p := by
 have : m * 2 ≤ m * m := Int.mul_le_mul_of_nonneg_left h0 (by omega)
 omega
theorem small_sq {m : Int} (h0 : 0 ≤ m) (h : m ≤ 100000) : 0 ≤ m * m ∧ m * m ≤ 10000000000 := by
 have h1 : m * m ≤ m * 100000 := Int.mul_le_mul_of_nonneg_left h h0
 have h2 := Int.mul_nonneg h0 h0
 omega
theorem smx_abs (t : Int) : mx t (-t) = (t.natAbs : Int) := by unfold mx; split <;> omega
theorem spec_l1Size_eq {t : Int} (h : t.natAbs ≤ 1000000000000) : spec_l1Size.f t = some (t.natAbs : Int) := by
 unfold spec_l1Size.f
 rw [w64 (by omega) (by omega), smx_abs]
/-- One term is drawn, or none. -/
theorem l91One {b : List Int} (hb : BY b) {p : Int} (hp : 0 ≤ p) (hp2 : p ≤ 800000000000) :
 ∃ r q, (r = [] ∨ ∃ x, r = [x] ∧ -31 ≤ x ∧ x ≤ 31) ∧ p + 4 ≤ q ∧ q ≤ p + 5 ∧ Ev (fun k => spec_l91Form.f k b p 1) (r, q) ∧
  (r = [] → q = p + 4 ∧ b.length ≠ 0 ∧ (¬ p + 3 < b.length → ((Nt.fx (mixX b (p + 3)).toNat : Nat) : Int) % 40 = 1)) := by
 obtain ⟨r0, a1, a2, e0⟩ := pick_ev hb (n := 1) (p := p) (by omega) hp (by omega)
 obtain rfl : r0 = 0 := by omega
 obtain ⟨r1, a3, a4, e1⟩ := pick_ev hb (n := 16) (p := p + 1) (by omega) (by omega) (by omega)
 obtain ⟨r2, a5, a6, e2⟩ := pick_ev hb (n := 5) (p := p + 1 + 1) (by omega) (by omega) (by omega)
 obtain ⟨r3, a7, a8, e3⟩ := pick_ev hb (n := 40) (p := p + 1 + 1 + 1) (by omega) (by omega) (by omega)
 obtain ⟨t1, t2, t3⟩ := rd16 a3 a4
 obtain ⟨y, hy, hs⟩ : ∃ y, (-30 ≤ y ∧ y ≤ 30) ∧ ∀ r q, Ev (fun k => spec_l91Form.l0 k [y] 1 1 b (p + 1 + 1 + 1)) (r, q) → Ev (fun k => spec_l91Form.f k b p 1) (r, q) := by
  have go : ∀ y r q, (r2 < 2 → y = wrap64 (-(rd [1, 2, 3, 5, 6, 7, 1, 10, 12, 3, 15, 4, 21, 1, 30, 8] r1))) → (¬ r2 < 2 → y = rd [1, 2, 3, 5, 6, 7, 1, 10, 12, 3, 15, 4, 21, 1, 30, 8] r1) → Ev (fun k => spec_l91Form.l0 k [y] 1 1 b (p + 1 + 1 + 1)) (r, q) → Ev (fun k => spec_l91Form.f k b p 1) (r, q) := by
   intro y r q h1 h2 h
   unfold spec_l91Form.f
   refine Ev.bind e0 (Ev.succ ?_)
   simp only [spec_l91Form.l0]
   rw [w64 (x := 1 + 0) (by omega) (by omega)]
   refine Ev.pos (by omega) (Ev.sbind (Ev.bind e1 (Ev.pos a3 (Ev.pos (by simp; omega) (Ev.bind e2 ?_)))))
   by_cases c : r2 < 2
   · refine Ev.pos c (Ev.pos (by simp) ?_)
     rw [w64 (x := 0 + 1) (by omega) (by omega), ← h1 c]
     exact h
   · refine Ev.neg c (Ev.pos (by simp) ?_)
     rw [w64 (x := 0 + 1) (by omega) (by omega), ← h2 c]
     exact h
  by_cases c : r2 < 2
  · refine ⟨-(rd [1, 2, 3, 5, 6, 7, 1, 10, 12, 3, 15, 4, 21, 1, 30, 8] r1), by omega, fun r q h => go _ r q (fun _ => (w64 (by omega) (by omega)).symm) (fun h => absurd c h) h⟩
  · exact ⟨_, by omega, fun r q h => go _ r q (fun h => absurd h c) (fun _ => rfl) h⟩
 by_cases c1 : r3 = 0
 · obtain ⟨r4, b1, b2, e4⟩ := pick_ev hb (n := 2) (p := p + 1 + 1 + 1 + 1) (by omega) (by omega) (by omega)
   have hr : -31 ≤ rd [0, 31] r4 ∧ rd [0, 31] r4 ≤ 31 := by
    rcases (by omega : r4 = 0 ∨ r4 = 1) with rfl | rfl <;> decide
   refine ⟨[rd [0, 31] r4], p + 1 + 1 + 1 + 1 + 1, .inr ⟨_, rfl, hr⟩, by omega, by omega, hs _ _ (Ev.succ ?_), fun h => by cases h⟩
   simp only [spec_l91Form.l0]
   exact Ev.neg (by omega) (Ev.bind e3 (Ev.pos c1 (Ev.sbind (Ev.bind e4 (Ev.pos b1 (Ev.pos (by simp; omega) (Ev.pos (by simp) (Ev.ret rfl))))))))
 · by_cases c2 : r3 = 1
   · refine ⟨[], p + 1 + 1 + 1 + 1, .inl rfl, by omega, by omega, hs _ _ (Ev.succ ?_), fun _ => ⟨by omega, fun h0 => ?_, fun hlt => ?_⟩⟩
     · simp only [spec_l91Form.l0]
       exact Ev.neg (by omega) (Ev.bind e3 (Ev.neg c1 (Ev.pos c2 (Ev.now _))))
     · have : Ev (fun k => spec_l6Rd_pick.f k b (p + 1 + 1 + 1) 40) (0, p + 1 + 1 + 1 + 1) := by
        unfold spec_l6Rd_pick.f
        refine Ev.neg (by omega) (Ev.succ ?_)
        simp only [spec_l6Rd_pick.j0]
        refine Ev.pos (by simp [h0]) ?_
        rw [w64 (by omega) (by omega)]
        exact Ev.now _
       have := Ev.one e3 this
       injection this with h1 _
       omega
     · by_cases h0 : b.length = 0
       · exfalso
         have : Ev (fun k => spec_l6Rd_pick.f k b (p + 1 + 1 + 1) 40) (0, p + 1 + 1 + 1 + 1) := by
          unfold spec_l6Rd_pick.f
          refine Ev.neg (by omega) (Ev.succ ?_)
          simp only [spec_l6Rd_pick.j0]
          refine Ev.pos (by simp [h0]) ?_
          rw [w64 (by omega) (by omega)]
          exact Ev.now _
         have := Ev.one e3 this
         injection this with h1 _
         omega
       · obtain ⟨_, h⟩ := pick_far hb (n := 40) (p := p + 1 + 1 + 1) (by omega) (by omega) (by omega) h0 (by omega)
         have := Ev.one e3 h
         injection this with h1 _
         rw [c2, show p + 1 + 1 + 1 = p + 3 by omega] at h1
         exact h1.symm
   · refine ⟨[y], p + 1 + 1 + 1 + 1, .inr ⟨y, rfl, by omega, by omega⟩, by omega, by omega, hs _ _ (Ev.succ ?_), fun h => by cases h⟩
     simp only [spec_l91Form.l0]
     exact Ev.neg (by omega) (Ev.bind e3 (Ev.neg c1 (Ev.neg c2 (Ev.now _))))
theorem mix_step {b : List Int} (h0 : b.length ≠ 0) {p : Int} (hp : 0 ≤ p) (j : Nat) :
 mixX b (p + 4 * (b.length : Int) * (j : Int)) = mixX b p + (116 * (b.length : Int) + 212) * (j : Int) := by
 have hj : 0 ≤ 4 * (b.length : Int) * (j : Int) := Int.mul_nonneg (by omega) (by omega)
 have hL : (b.length : Int) ≠ 0 := by omega
 have e1 : Int.tmod (p + 4 * (b.length : Int) * (j : Int)) b.length = Int.tmod p b.length := by
  rw [Int.tmod_eq_emod_of_nonneg (by omega), Int.tmod_eq_emod_of_nonneg hp, show 4 * (b.length : Int) * (j : Int) = (b.length : Int) * (4 * (j : Int)) by rw [Int.mul_comm 4, Int.mul_assoc], Int.add_mul_emod_self_left]
 have e2 : Int.tmod ((p + 4 * (b.length : Int) * (j : Int)) * 7 + 3) b.length = Int.tmod (p * 7 + 3) b.length := by
  rw [Int.tmod_eq_emod_of_nonneg (by omega), Int.tmod_eq_emod_of_nonneg (by omega), show (p + 4 * (b.length : Int) * (j : Int)) * 7 + 3 = p * 7 + 3 + (b.length : Int) * (28 * (j : Int)) by grind, Int.add_mul_emod_self_left]
 have e3 : Int.tdiv (p + 4 * (b.length : Int) * (j : Int)) b.length = Int.tdiv p b.length + 4 * (j : Int) := by
  rw [Int.tdiv_eq_ediv_of_nonneg (by omega), Int.tdiv_eq_ediv_of_nonneg hp, show 4 * (b.length : Int) * (j : Int) = (b.length : Int) * (4 * (j : Int)) by rw [Int.mul_comm 4, Int.mul_assoc], Int.add_mul_ediv_left _ _ hL]
 unfold mixX
 rw [e1, e2, e3]
 grind
/-- At one of the coming draws a term comes. -/
theorem l91_comes {b : List Int} (hb : BY b) {p : Int} (hp : 0 ≤ p) (hp2 : p ≤ 100000000000) :
 ∃ i : Nat, i ≤ 4200000000 ∧ ∀ r q, Ev (fun k => spec_l91Form.f k b (p + 4 * (i : Int)) 1) (r, q) → r ≠ [] := by
 have hl := hb.1
 by_cases h0 : b.length = 0
 · refine ⟨0, by omega, fun r q h hr => ?_⟩
   obtain ⟨r', q', _, _, _, h1, h2⟩ := l91One hb (p := p + 4 * ((0 : Nat) : Int)) (by omega) (by omega)
   have := Ev.one h h1
   injection this with h3 h4
   exact (h2 (h3 ▸ hr)).2.1 h0
 · have hL : (b.length : Int) ≤ 2000 := by omega
   obtain ⟨j, hj, hne⟩ := Nt.ends (L := b.length) (x := (mixX b (p + 4 * 500 + 3)).toNat) (by omega) hl
   have hLj : b.length * j ≤ 2000 * 2097400 := Nat.mul_le_mul hl hj
   refine ⟨500 + b.length * j, by omega, fun r q h hr => hne ?_⟩
   have ec : ((500 + b.length * j : Nat) : Int) = 500 + (b.length : Int) * (j : Int) := by rw [Int.natCast_add, Int.natCast_mul]; rfl
   have ea : 4 * (b.length : Int) * (j : Int) = 4 * ((b.length : Int) * (j : Int)) := Int.mul_assoc _ _ _
   have hcast : (b.length : Int) * (j : Int) ≤ 4194800000 := by rw [← Int.natCast_mul]; omega
   have hpos : 0 ≤ (b.length : Int) * (j : Int) := Int.mul_nonneg (by omega) (by omega)
   have ep : p + 4 * ((500 + b.length * j : Nat) : Int) + 3 = p + 4 * 500 + 3 + 4 * (b.length : Int) * (j : Int) := by rw [ec, ea]; omega
   obtain ⟨r', q', _, _, _, h1, h2⟩ := l91One hb (p := p + 4 * ((500 + b.length * j : Nat) : Int)) (by omega) (by omega)
   have := Ev.one h h1
   injection this with h3 h4
   have h5 := (h2 (h3 ▸ hr)).2.2 (by omega)
   obtain ⟨hm0, _⟩ := pick_far hb (n := 40) (p := p + 4 * 500 + 3) (by omega) (by omega) (by omega) h0 (by omega)
   rw [ep, mix_step h0 (by omega)] at h5
   have e : (mixX b (p + 4 * 500 + 3) + (116 * (b.length : Int) + 212) * (j : Int)).toNat = (mixX b (p + 4 * 500 + 3)).toNat + (116 * b.length + 212) * j := by
    have h6 : ((((116 * b.length + 212) * j : Nat)) : Int) = (116 * (b.length : Int) + 212) * (j : Int) := by rw [Int.natCast_mul, Int.natCast_add, Int.natCast_mul]; rfl
    rw [← h6]
    omega
   rw [e] at h5
   omega
theorem l92_step {b : List Int} (hb : BY b) {n : Int} {o : List Int} (ho : 0 < o.length) (ho2 : (o.length : Int) < n) (hn : n ≤ 4) : ∀ (i : Nat) (p : Int), 0 ≤ p → p + 4 * (i : Int) ≤ 500000000000 →
 (∀ r q, Ev (fun k => spec_l91Form.f k b (p + 4 * (i : Int)) 1) (r, q) → r ≠ []) →
 ∃ x q, (-31 ≤ x ∧ x ≤ 31) ∧ p ≤ q ∧ q ≤ p + 4 * (i : Int) + 5 ∧ ∀ res, Ev (fun k => spec_l92Form.l0 k n (o ++ [x]) b q) res → Ev (fun k => spec_l92Form.l0 k n o b p) res := by
 intro i
 induction i with
 | zero =>
  intro p hp hp2 hc
  obtain ⟨r, q, h1, h2, h3, h4, h5⟩ := l91One hb hp (by omega)
  have hr := hc r q (by simpa using h4)
  obtain ⟨x, rfl, hx⟩ := h1.resolve_left hr
  refine ⟨x, q, hx, by omega, by omega, fun res h => Ev.succ ?_⟩
  simp only [spec_l92Form.l0]
  exact Ev.pos ho2 (Ev.pos (by omega) (Ev.bind h4 (Ev.pos (by simp; omega) h)))
 | succ i ih =>
  intro p hp hp2 hc
  obtain ⟨r, q, h1, h2, h3, h4, h5⟩ := l91One hb hp (by omega)
  rcases h1 with rfl | ⟨x, rfl, hx⟩
  · have hq := (h5 rfl).1
    obtain ⟨x, q', hx, c1, c2, c3⟩ := ih q (by omega) (by omega) (fun r' q' h => hc r' q' (by
     rw [show p + 4 * ((i + 1 : Nat) : Int) = q + 4 * (i : Int) by omega]; exact h))
    refine ⟨x, q', hx, by omega, by omega, fun res h => Ev.succ ?_⟩
    simp only [spec_l92Form.l0]
    refine Ev.pos ho2 (Ev.pos (by omega) (Ev.bind h4 (Ev.pos (by simp; omega) ?_)))
    dsimp only
    rw [List.append_nil]
    exact c3 res h
  · refine ⟨x, q, hx, by omega, by omega, fun res h => Ev.succ ?_⟩
    simp only [spec_l92Form.l0]
    exact Ev.pos ho2 (Ev.pos (by omega) (Ev.bind h4 (Ev.pos (by simp; omega) h)))
/-- Terms of size 31 at most. -/
def Dz (l : List Int) : Prop := l.length ≤ 4 ∧ ∀ t ∈ l, -31 ≤ t ∧ t ≤ 31
theorem Dz.md {l : List Int} (h : Dz l) : Md l := ⟨by have := h.1; omega, fun t ht => by have := h.2 t ht; omega⟩
theorem Dz.set {l : List Int} (h : Dz l) {t : Int} (ht : -31 ≤ t ∧ t ≤ 31) (i : Nat) : Dz (l.set i t) := by
 refine ⟨by simpa using h.1, fun x hx => ?_⟩
 rcases List.mem_or_eq_of_mem_set hx with hx | rfl
 · exact h.2 x hx
 · exact ht
theorem l92_j2 {o : List Int} (h : Dz o) (h3 : o.length = 3) {b : List Int} (hb : BY b) {p : Int} (hp : 0 ≤ p) (hp2 : p ≤ 600000000000) (c : Bool) :
 ∃ f q, Dz f ∧ f.length = 3 ∧ p ≤ q ∧ q ≤ p + 1 ∧ Ev (fun k => spec_l92Form.j2 k o c b p) (f, q) := by
 cases c with
 | false =>
  refine ⟨o, p, h, h3, by omega, by omega, Ev.succ ?_⟩
  simp only [spec_l92Form.j2]
  exact Ev.neg (by simp) (Ev.now _)
 | true =>
  obtain ⟨r1, a1, a2, e1⟩ := pick_ev hb (n := 2) (p := p) (by omega) hp (by omega)
  obtain ⟨x, y, z, rfl⟩ : ∃ x y z, o = [x, y, z] := by
   match o, h3 with
   | [x, y, z], _ => exact ⟨x, y, z, rfl⟩
  have hx := h.2 x (by simp)
  have hy := h.2 y (by simp)
  have ex : rd [x, y, z] 0 = x := rfl
  have ey : rd [x, y, z] 1 = y := rfl
  have hxr : -62 ≤ x * (1 + r1) ∧ x * (1 + r1) ≤ 62 := by
   rcases (by omega : r1 = 0 ∨ r1 = 1) with rfl | rfl <;> omega
  obtain ⟨t, ht⟩ : ∃ t, t = -(x * (1 + r1)) - y := ⟨_, rfl⟩
  have go : ∀ f, (t = 0 → f = [x, y, z]) → (t ≠ 0 → ¬ (t.natAbs : Int) ≤ 30 → f = [x, y, z]) → (t ≠ 0 → (t.natAbs : Int) ≤ 30 → f = [x, y, t]) → Ev (fun k => spec_l92Form.j2 k [x, y, z] true b p) (f, p + 1) := by
   intro f f1 f2 f3
   refine Ev.succ ?_
   simp only [spec_l92Form.j2]
   refine Ev.pos (by simp) (Ev.pos (by simp) (Ev.bind e1 (Ev.pos (by simp) ?_)))
   dsimp only
   rw [ex, ey, w64 (x := 1 + r1) (by omega) (by omega), w64 (x := x * (1 + r1)) (by omega) (by omega), w64 (x := -(x * (1 + r1))) (by omega) (by omega), w64 (x := -(x * (1 + r1)) - y) (by omega) (by omega), ← ht]
   by_cases c1 : t = 0
   · exact Ev.pos c1 (Ev.ret (by rw [f1 c1]))
   · refine Ev.neg c1 (Ev.bind (by rw [spec_l1Size_eq (by omega)]; exact Ev.now _) ?_)
     by_cases c2 : (t.natAbs : Int) ≤ 30
     · exact Ev.pos c2 (Ev.pos (by simp) (Ev.ret (by rw [f3 c1 c2]; rfl)))
     · exact Ev.neg c2 (Ev.ret (by rw [f2 c1 c2]))
  by_cases c1 : t ≠ 0 ∧ (t.natAbs : Int) ≤ 30
  · have hb : -31 ≤ t ∧ t ≤ 31 := by
     have := c1.2
     omega
    refine ⟨[x, y, t], p + 1, h.set (i := 2) hb, rfl, by omega, by omega, go _ (fun e => absurd e c1.1) (fun _ e => absurd c1.2 e) (fun _ _ => rfl)⟩
  · refine ⟨[x, y, z], p + 1, h, rfl, by omega, by omega, go _ (fun _ => rfl) (fun _ _ => rfl) (fun e1 e2 => absurd ⟨e1, e2⟩ c1)⟩
theorem l92_j1 {o : List Int} (h : Dz o) {b : List Int} (hb : BY b) {p : Int} (hp : 0 ≤ p) (hp2 : p ≤ 500000000000) :
 ∃ f q, Dz f ∧ f.length = o.length ∧ p ≤ q ∧ q ≤ p + 2 ∧ Ev (fun k => spec_l92Form.j1 k o b p) (f, q) := by
 by_cases h3 : o.length = 3
 · obtain ⟨r1, a1, a2, e1⟩ := pick_ev hb (n := 2) (p := p) (by omega) hp (by omega)
   by_cases c : r1 = 0
   · obtain ⟨f, q, k1, k2, k3, k4, k5⟩ := l92_j2 h h3 hb (p := p + 1) (by omega) (by omega) (fv o)
     refine ⟨f, q, k1, by omega, by omega, by omega, Ev.succ ?_⟩
     simp only [spec_l92Form.j1]
     exact Ev.pos (by omega) (Ev.bind e1 (Ev.pos c (Ev.bind (spec_FormValid_ev h.md) k5)))
   · obtain ⟨f, q, k1, k2, k3, k4, k5⟩ := l92_j2 h h3 hb (p := p + 1) (by omega) (by omega) false
     refine ⟨f, q, k1, by omega, by omega, by omega, Ev.succ ?_⟩
     simp only [spec_l92Form.j1]
     exact Ev.pos (by omega) (Ev.bind e1 (Ev.neg c k5))
 · refine ⟨o, p, h, rfl, by omega, by omega, Ev.succ ?_⟩
   simp only [spec_l92Form.j1]
   refine Ev.neg (by omega) (Ev.succ ?_)
   simp only [spec_l92Form.j2]
   exact Ev.neg (by simp) (Ev.now _)
theorem l92_l {b : List Int} (hb : BY b) {n : Int} (hn : n ≤ 4) : ∀ (d : Nat) (o : List Int) (p : Int), 0 < o.length → Dz o → (o.length : Int) + d = n → 0 ≤ p → p + 17000000000 * d ≤ 90000000000 →
 ∃ f q, Dz f ∧ (f.length : Int) = n ∧ p ≤ q ∧ q ≤ p + 17000000000 * d + 2 ∧ Ev (fun k => spec_l92Form.l0 k n o b p) (f, q) := by
 intro d
 induction d with
 | zero =>
  intro o p ho hz hl hp hp2
  obtain ⟨f, q, k1, k2, k3, k4, k5⟩ := l92_j1 hz hb hp (by omega)
  refine ⟨f, q, k1, by omega, by omega, by omega, Ev.succ ?_⟩
  simp only [spec_l92Form.l0]
  exact Ev.neg (by omega) k5
 | succ d ih =>
  intro o p ho hz hl hp hp2
  obtain ⟨i, i1, i2⟩ := l91_comes hb hp (by omega)
  obtain ⟨x, q, hx, q1, q2, hs⟩ := l92_step hb ho (by omega) hn i p hp (by omega) i2
  obtain ⟨f, q', k1, k2, k3, k4, k5⟩ := ih (o ++ [x]) q (by simp) ⟨by simp; omega, fun t ht => by
   rcases List.mem_append.1 ht with ht | ht
   · exact hz.2 t ht
   · rw [List.mem_singleton.1 ht]; exact hx⟩ (by simp; omega) (by omega) (by omega)
  exact ⟨f, q', k1, k2, by omega, by omega, hs _ k5⟩
/-- A drawn form of so many terms, or none. -/
theorem spec_l92Form_ev {b : List Int} (hb : BY b) {n p : Int} (hn : 1 ≤ n) (hn4 : n ≤ 4) (hp : 0 ≤ p) (hp2 : p ≤ 1000000) :
 ∃ f q, Dz f ∧ (f = [] ∨ (f.length : Int) = n) ∧ p ≤ q ∧ q ≤ 100000000000 ∧ Ev (fun k => spec_l92Form.f k b p n) (f, q) := by
 obtain ⟨r, q, h1, h2, h3, h4, _⟩ := l91One hb hp (by omega)
 rcases h1 with rfl | ⟨x, rfl, hx⟩
 · refine ⟨[], q, ⟨by simp, by simp⟩, .inl rfl, by omega, by omega, ?_⟩
   unfold spec_l92Form.f
   refine Ev.bind h4 (Ev.succ ?_)
   simp only [spec_l92Form.l0]
   refine Ev.pos (by simp; omega) (Ev.neg (by simp) (Ev.succ ?_))
   simp only [spec_l92Form.j1]
   refine Ev.neg (by simp) (Ev.succ ?_)
   simp only [spec_l92Form.j2]
   exact Ev.neg (by simp) (Ev.now _)
 · obtain ⟨f, q', k1, k2, k3, k4, k5⟩ := l92_l hb hn4 (n - 1).toNat [x] q (by simp) ⟨by simp, fun t ht => by rw [List.mem_singleton.1 ht]; exact hx⟩ (by simp; omega) (by omega) (by omega)
   refine ⟨f, q', k1, .inr k2, by omega, by omega, ?_⟩
   unfold spec_l92Form.f
   exact Ev.bind h4 k5
theorem pl_ex {n : Int} (hn : 1 ≤ n) : ∃ L, Nt.IsPL n L := by
 classical
 refine ⟨((List.range (n.toNat + 1)).filter (fun p : Nat => decide (Nt.Pr (p : Int) ∧ (p : Int) ∣ n))).map (fun p : Nat => (p : Int)), ?_, fun p => ?_⟩
 · rw [List.pairwise_map]
   exact (List.pairwise_lt_range.filter _).imp (fun h => by omega)
 · simp only [List.mem_map, List.mem_filter, List.mem_range, decide_eq_true_eq]
   constructor
   · rintro ⟨q, ⟨_, h1, h2⟩, rfl⟩
     exact ⟨h1, h2⟩
   · rintro ⟨h1, h2⟩
     have := Int.le_of_dvd (by omega) h2
     have h3 := h1.1
     exact ⟨p.toNat, ⟨by omega, by rw [Int.toNat_of_nonneg (by omega)]; exact ⟨h1, h2⟩⟩, Int.toNat_of_nonneg (by omega)⟩
/-- The least prime that divides a number. -/
noncomputable def lp (g : Nat) : Int := (Classical.epsilon (fun L => Nt.IsPL (g : Int) L)).headD 1
theorem lp_eq {g : Nat} {L : List Int} (h : Nt.IsPL (g : Int) L) : lp g = L.headD 1 := by
 unfold lp
 rw [Nt.IsPL.uniq (Classical.epsilon_spec (p := fun L => Nt.IsPL (g : Int) L) ⟨L, h⟩) h]
theorem lp_of {g : Nat} {L : List Int} (h : Nt.IsPL (g : Int) L) (hg : 1 < g) : 0 < L.length ∧ rd L 0 = lp g ∧ Nt.Pr (lp g) ∧ lp g ∣ (g : Int) := by
 obtain ⟨p, hp, hd⟩ := Nt.pf (n := (g : Int)) (by omega)
 have hm := (h.2 p).2 ⟨hp, hd⟩
 match L, h, hm with
 | x :: r, h, hm =>
  have e := lp_eq h
  have hx := (h.2 x).1 (by simp)
  simp only [List.headD_cons] at e
  rw [e]
  exact ⟨by simp, rfl, hx.1, hx.2⟩
/-- The first two of three numbers that share a prime, told by the third one's place; and that prime. -/
noncomputable def two (a b c : Int) : Int × Int :=
 if 1 < Nat.gcd a.natAbs b.natAbs then (lp (Nat.gcd a.natAbs b.natAbs), 2)
 else if 1 < Nat.gcd c.natAbs a.natAbs then (lp (Nat.gcd c.natAbs a.natAbs), 1)
 else if 1 < Nat.gcd b.natAbs c.natAbs then (lp (Nat.gcd b.natAbs c.natAbs), 0)
 else (1, 0)
theorem dvd_gcd_abs {p : Int} {a b : Int} (h : p ∣ ((Nat.gcd a.natAbs b.natAbs : Nat) : Int)) : p ∣ a ∧ p ∣ b := by
 refine ⟨Int.dvd_natAbs.1 (Int.dvd_trans h ?_), Int.dvd_natAbs.1 (Int.dvd_trans h ?_)⟩
 · exact Int.ofNat_dvd.2 (Nat.gcd_dvd_left _ _)
 · exact Int.ofNat_dvd.2 (Nat.gcd_dvd_right _ _)
noncomputable def nrm : Nat → Int → Int → Int → Int → Int → Int → List Int × List Int
 | 0, a, b, c, m, n, o => ([a, b, c], [m, n, o])
 | f + 1, a, b, c, m, n, o =>
  if (two a b c).1 > 1 then
   if (two a b c).2 = 2 then
    if Int.tmod c (two a b c).1 = 0 then nrm f (Int.tdiv a (two a b c).1) (Int.tdiv b (two a b c).1) (Int.tdiv c (two a b c).1) m n o
    else nrm f (Int.tdiv a (two a b c).1) (Int.tdiv b (two a b c).1) (c * (two a b c).1) m n (o * (two a b c).1)
   else if (two a b c).2 = 1 then
    if Int.tmod b (two a b c).1 = 0 then nrm f (Int.tdiv a (two a b c).1) (Int.tdiv b (two a b c).1) (Int.tdiv c (two a b c).1) m n o
    else nrm f (Int.tdiv a (two a b c).1) (b * (two a b c).1) (Int.tdiv c (two a b c).1) m (n * (two a b c).1) o
   else
    if Int.tmod a (two a b c).1 = 0 then nrm f (Int.tdiv a (two a b c).1) (Int.tdiv b (two a b c).1) (Int.tdiv c (two a b c).1) m n o
    else nrm f (a * (two a b c).1) (Int.tdiv b (two a b c).1) (Int.tdiv c (two a b c).1) (m * (two a b c).1) n o
  else ([a, b, c], [m, n, o])
/-- What stays while terms are made normal. -/
def NI (t0 t1 t2 a b c m n o : Int) : Prop :=
 (a ≠ 0 ∧ b ≠ 0 ∧ c ≠ 0) ∧ (1 ≤ m ∧ 1 ≤ n ∧ 1 ≤ o) ∧ ∃ S, 1 ≤ S ∧ t0 * (m * m) = a * S ∧ t1 * (n * n) = b * S ∧ t2 * (o * o) = c * S ∧ (a * b * c).natAbs * S.natAbs ≤ 29791
theorem NI.rot {t0 t1 t2 a b c m n o : Int} (h : NI t0 t1 t2 a b c m n o) : NI t1 t2 t0 b c a n o m := by
 obtain ⟨⟨h1, h2, h3⟩, ⟨h4, h5, h6⟩, S, s1, s2, s3, s4, s5⟩ := h
 exact ⟨⟨h2, h3, h1⟩, ⟨h5, h6, h4⟩, S, s1, s3, s4, s2, by rw [show b * c * a = a * b * c by grind]; exact s5⟩
theorem abs_le_mul {x y : Int} (hy : y ≠ 0) : x.natAbs ≤ (x * y).natAbs := by
 rw [Int.natAbs_mul]
 exact Nat.le_mul_of_pos_right _ (by omega)
theorem NI.bd {t0 t1 t2 a b c m n o : Int} (h : NI t0 t1 t2 a b c m n o) : (a * b * c).natAbs ≤ 29791 ∧ a.natAbs ≤ 29791 ∧ m ≤ 29791 := by
 obtain ⟨⟨h1, h2, h3⟩, ⟨h4, h5, h6⟩, S, s1, s2, s3, s4, s5⟩ := h
 have hS : 1 ≤ S.natAbs := by omega
 have e1 : (a * b * c).natAbs ≤ (a * b * c).natAbs * S.natAbs := Nat.le_mul_of_pos_right _ hS
 have e2 : a.natAbs ≤ (a * b * c).natAbs := Nat.le_trans (abs_le_mul h2) (abs_le_mul h3)
 have e3 : (a * S).natAbs ≤ (a * b * c).natAbs * S.natAbs := by rw [Int.natAbs_mul]; exact Nat.mul_le_mul_right _ e2
 have ht : t0 ≠ 0 := by
  intro e
  rw [e, Int.zero_mul] at s2
  rcases Int.mul_eq_zero.1 s2.symm with h | h
  · exact h1 h
  · omega
 have e4 : (m * m).natAbs ≤ (t0 * (m * m)).natAbs := by rw [Int.mul_comm t0]; exact abs_le_mul ht
 have e5 : m.natAbs ≤ (m * m).natAbs := abs_le_mul (by omega)
 rw [s2] at e4
 omega
theorem NI.bds {t0 t1 t2 a b c m n o : Int} (h : NI t0 t1 t2 a b c m n o) : (a * b * c).natAbs ≤ 29791 ∧ (a.natAbs ≤ 29791 ∧ b.natAbs ≤ 29791 ∧ c.natAbs ≤ 29791) ∧ (m ≤ 29791 ∧ n ≤ 29791 ∧ o ≤ 29791) := by
 have h1 := h.bd
 have h2 := h.rot.bd
 have h3 := h.rot.rot.bd
 exact ⟨h1.1, ⟨h1.2.1, h2.2.1, h3.2.1⟩, ⟨h1.2.2, h2.2.2, h3.2.2⟩⟩
theorem NI.step {t0 t1 t2 a b c m n o p : Int} (h : NI t0 t1 t2 (p * a) (p * b) c m n o) (hp : 2 ≤ p) :
 (∀ c', c = p * c' → NI t0 t1 t2 a b c' m n o ∧ (a * b * c').natAbs < (p * a * (p * b) * c).natAbs) ∧ NI t0 t1 t2 a b (c * p) m n (o * p) ∧ (a * b * (c * p)).natAbs < (p * a * (p * b) * c).natAbs := by
 obtain ⟨⟨h1, h2, h3⟩, ⟨h4, h5, h6⟩, S, s1, s2, s3, s4, s5⟩ := h
 have ha : a ≠ 0 := fun e => h1 (by rw [e, Int.mul_zero])
 have hb : b ≠ 0 := fun e => h2 (by rw [e, Int.mul_zero])
 have hpS : 1 ≤ p * S := by
  have : 1 * 1 ≤ p * S := Int.mul_le_mul (by omega) s1 (by omega) (by omega)
  omega
 have pn : p.natAbs = p.toNat ∧ 2 ≤ p.natAbs := by omega
 have habc : 0 < (a * b * c).natAbs := Int.natAbs_pos.2 (Int.mul_ne_zero (Int.mul_ne_zero ha hb) h3)
 have E1 : (p * a * (p * b) * c).natAbs = p.natAbs * (p.natAbs * (a * b * c).natAbs) := by
  rw [← Int.natAbs_mul, ← Int.natAbs_mul]; congr 1; grind
 have E2 : (a * b * (c * p)).natAbs = p.natAbs * (a * b * c).natAbs := by
  rw [← Int.natAbs_mul]; congr 1; grind
 have E4 : (p * S).natAbs = p.natAbs * S.natAbs := Int.natAbs_mul _ _
 have lt1 : (a * b * c).natAbs < p.natAbs * (a * b * c).natAbs := by
  have : 2 * (a * b * c).natAbs ≤ p.natAbs * (a * b * c).natAbs := Nat.mul_le_mul_right _ pn.2
  omega
 have lt2 : p.natAbs * (a * b * c).natAbs < p.natAbs * (p.natAbs * (a * b * c).natAbs) := Nat.mul_lt_mul_of_pos_left lt1 (by omega)
 refine ⟨fun c' hc => ?_, ⟨⟨ha, hb, Int.mul_ne_zero h3 (by omega)⟩, ⟨h4, h5, ?_⟩, p * S, hpS, by rw [s2]; grind, by rw [s3]; grind, ?_, ?_⟩, by omega⟩
 · subst hc
   have hc' : c' ≠ 0 := fun e => h3 (by rw [e, Int.mul_zero])
   have E3 : (a * b * (p * c')).natAbs = p.natAbs * (a * b * c').natAbs := by
    rw [← Int.natAbs_mul]; congr 1; grind
   have le3 : (a * b * c').natAbs ≤ p.natAbs * (a * b * c').natAbs := Nat.le_mul_of_pos_left _ (by omega)
   refine ⟨⟨⟨ha, hb, hc'⟩, ⟨h4, h5, h6⟩, p * S, hpS, by rw [s2]; grind, by rw [s3]; grind, by rw [s4]; grind, ?_⟩, by omega⟩
   rw [E1, E3] at s5
   rw [E4]
   refine Nat.le_trans ?_ s5
   rw [show (a * b * c').natAbs * (p.natAbs * S.natAbs) = p.natAbs * (a * b * c').natAbs * S.natAbs by grind]
   exact Nat.mul_le_mul_right _ (Nat.le_trans (Nat.le_mul_of_pos_left _ (by omega)) (Nat.le_mul_of_pos_left _ (by omega)))
 · have : 1 * 1 ≤ o * p := Int.mul_le_mul h6 (by omega) (by omega) (by omega)
   omega
 · rw [show t2 * (o * p * (o * p)) = t2 * (o * o) * (p * p) by grind, s4]; grind
 · rw [E1] at s5
   rw [E2, E4]
   rw [show p.natAbs * (a * b * c).natAbs * (p.natAbs * S.natAbs) = p.natAbs * (p.natAbs * (a * b * c).natAbs) * S.natAbs by grind]
   exact s5
theorem tdiv_of {p x : Int} (hp : 2 ≤ p) : Int.tdiv (p * x) p = x := Int.mul_tdiv_cancel_left _ (by omega)
theorem two_step {a b c : Int} (ha : a ≠ 0) (hb : b ≠ 0) (hc : c ≠ 0) (ha2 : a.natAbs ≤ 1000000000000) (hb2 : b.natAbs ≤ 1000000000000) (hc2 : c.natAbs ≤ 1000000000000) :
 ((two a b c).1 = 1 ∧ (two a b c).2 = 0 ∧ Nat.gcd a.natAbs b.natAbs ≤ 1 ∧ Nat.gcd c.natAbs a.natAbs ≤ 1 ∧ Nat.gcd b.natAbs c.natAbs ≤ 1) ∨
  (Nt.Pr (two a b c).1 ∧ (((two a b c).2 = 2 ∧ (two a b c).1 ∣ a ∧ (two a b c).1 ∣ b) ∨ ((two a b c).2 = 1 ∧ (two a b c).1 ∣ c ∧ (two a b c).1 ∣ a) ∨ ((two a b c).2 = 0 ∧ (two a b c).1 ∣ b ∧ (two a b c).1 ∣ c))) := by
 have key : ∀ x y : Int, 1 < Nat.gcd x.natAbs y.natAbs → Nt.Pr (lp (Nat.gcd x.natAbs y.natAbs)) ∧ lp (Nat.gcd x.natAbs y.natAbs) ∣ x ∧ lp (Nat.gcd x.natAbs y.natAbs) ∣ y := by
  intro x y h
  obtain ⟨L, hL⟩ := pl_ex (n := ((Nat.gcd x.natAbs y.natAbs : Nat) : Int)) (by omega)
  obtain ⟨_, _, h1, h2⟩ := lp_of hL h
  exact ⟨h1, dvd_gcd_abs h2⟩
 unfold two
 by_cases c1 : 1 < Nat.gcd a.natAbs b.natAbs
 · rw [if_pos c1]
   obtain ⟨k1, k2, k3⟩ := key a b c1
   exact .inr ⟨k1, .inl ⟨rfl, k2, k3⟩⟩
 · rw [if_neg c1]
   by_cases c2 : 1 < Nat.gcd c.natAbs a.natAbs
   · rw [if_pos c2]
     obtain ⟨k1, k2, k3⟩ := key c a c2
     exact .inr ⟨k1, .inr (.inl ⟨rfl, k2, k3⟩)⟩
   · rw [if_neg c2]
     by_cases c3 : 1 < Nat.gcd b.natAbs c.natAbs
     · rw [if_pos c3]
       obtain ⟨k1, k2, k3⟩ := key b c c3
       exact .inr ⟨k1, .inr (.inr ⟨rfl, k2, k3⟩)⟩
     · rw [if_neg c3]
       exact .inl ⟨rfl, rfl, by omega, by omega, by omega⟩
/-- The greatest number that divides g and all of a list. -/
def gf : Nat → List Int → Nat
 | g, [] => g
 | g, x :: r => gf (Nat.gcd g x.natAbs) r
def gl (l : List Int) : Nat := gf 0 l
theorem gcd_mod (a b : Nat) : Nat.gcd a b = Nat.gcd b (a % b) := by rw [Nat.gcd_comm a b, Nat.gcd_rec b a, Nat.gcd_comm]
theorem gf_dvd : ∀ (l : List Int) (g : Nat), gf g l ∣ g ∧ ∀ x ∈ l, gf g l ∣ x.natAbs
 | [], g => ⟨Nat.dvd_refl _, by simp⟩
 | x :: r, g => by
  obtain ⟨h1, h2⟩ := gf_dvd r (Nat.gcd g x.natAbs)
  refine ⟨Nat.dvd_trans h1 (Nat.gcd_dvd_left _ _), fun y hy => ?_⟩
  rcases List.mem_cons.1 hy with rfl | hy
  · exact Nat.dvd_trans h1 (Nat.gcd_dvd_right _ _)
  · exact h2 y hy
theorem gf_zero : ∀ (l : List Int) (g : Nat), gf g l = 0 ↔ g = 0 ∧ ∀ x ∈ l, x = 0
 | [], g => by simp [gf]
 | x :: r, g => by
  simp only [gf]
  rw [gf_zero r, Nat.gcd_eq_zero_iff]
  constructor
  · rintro ⟨⟨h1, h2⟩, h3⟩
    exact ⟨h1, fun y hy => by
     rcases List.mem_cons.1 hy with rfl | hy
     · omega
     · exact h3 y hy⟩
  · rintro ⟨h1, h2⟩
    exact ⟨⟨h1, by have := h2 x (by simp); omega⟩, fun y hy => h2 y (by simp [hy])⟩
theorem gl_zero {l : List Int} : gl l = 0 ↔ ∀ x ∈ l, x = 0 := by unfold gl; rw [gf_zero]; simp
theorem gf_mul (c : Int) : ∀ (l : List Int) (g : Nat), gf (c.natAbs * g) (l.map (c * ·)) = c.natAbs * gf g l
 | [], g => rfl
 | x :: r, g => by
  simp only [gf, List.map_cons]
  rw [Int.natAbs_mul, Nat.gcd_mul_left, gf_mul c r]
theorem gl_mul (c : Int) (l : List Int) : gl (l.map (c * ·)) = c.natAbs * gl l := by
 have := gf_mul c l 0
 simpa [gl] using this
theorem impl_size_abs {t : Int} (h : t.natAbs ≤ 1000000000000000) : impl_size.f t = some (t.natAbs : Int) := by
 unfold impl_size.f
 rw [w64 (by omega) (by omega), smx_abs]
theorem tmod_nat (a b : Nat) : Int.tmod (a : Int) (b : Int) = ((a % b : Nat) : Int) := by
 rw [Int.tmod_eq_emod_of_nonneg (by omega)]; rfl
theorem impl_gcd_l1 (L : List Int) (len : Int) (i : Nat) (hi : i ≤ 1000000) (res : Int) : ∀ (d x y : Nat), y ≤ d → Ev (fun k => impl_gcd.l0 k ((Nat.gcd x y : Nat) : Int) L len ((i + 1 : Nat) : Int)) res → Ev (fun k => impl_gcd.l1 k (x : Int) (y : Int) L len (i : Int)) res := by
 intro d
 induction d with
 | zero =>
  intro x y hy h
  obtain rfl : y = 0 := by omega
  refine Ev.succ ?_
  simp only [impl_gcd.l1]
  rw [w64 (by omega) (by omega), cast_succ]
  exact Ev.pos (by omega) (by simpa using h)
 | succ d ih =>
  intro x y hy h
  refine Ev.succ ?_
  simp only [impl_gcd.l1]
  by_cases c : y = 0
  · subst c
    rw [w64 (by omega) (by omega), cast_succ]
    exact Ev.pos (by omega) (by simpa using h)
  · refine Ev.neg (by omega) ?_
    rw [tmod_nat]
    exact ih y (x % y) (by have := Nat.mod_lt x (Nat.pos_of_ne_zero c); omega) (by rw [← gcd_mod]; exact h)
/-- Integers of moderate size. -/
def Mid (l : List Int) : Prop := l.length ≤ 1000000 ∧ ∀ x ∈ l, x.natAbs ≤ 1000000000000
theorem impl_gcd_l (L : List Int) (hL : Mid L) : ∀ (r : List Int) (i g : Nat), L.drop i = r → Ev (fun k => impl_gcd.l0 k (g : Int) L (L.length : Int) (i : Int)) ((gf g r : Nat) : Int)
 | [], i, g, h => by
  have := drop_nil h
  refine Ev.succ ?_
  simp only [impl_gcd.l0]
  exact Ev.neg (by omega) (Ev.now _)
 | x :: r, i, g, h => by
  obtain ⟨h1, h2, h3⟩ := drop_cons h
  have hx := hL.2 x (h2 ▸ rd_mem h1)
  have := hL.1
  refine Ev.succ ?_
  simp only [impl_gcd.l0]
  rw [h2, impl_size_abs (by omega)]
  exact Ev.pos (by omega) (Ev.pos (by omega) (Ev.pos (by omega) (Ev.sbind (impl_gcd_l1 L _ i (by omega) _ _ _ _ (Nat.le_refl _) (impl_gcd_l L hL r (i + 1) _ h3)))))
theorem impl_gcd_ev {L : List Int} (hL : Mid L) : Ev (fun k => impl_gcd.f k L) ((gl L : Nat) : Int) := by
 unfold impl_gcd.f
 exact impl_gcd_l L hL L 0 0 rfl
theorem spec_l1Gcd_l : ∀ (d x y : Nat), y ≤ d → Ev (fun k => spec_l1Gcd.l0 k (x : Int) (y : Int)) ((Nat.gcd x y : Nat) : Int) := by
 intro d
 induction d with
 | zero =>
  intro x y hy
  obtain rfl : y = 0 := by omega
  refine Ev.succ ?_
  simp only [spec_l1Gcd.l0]
  exact Ev.pos (by omega) (Ev.ret (by simp))
 | succ d ih =>
  intro x y hy
  refine Ev.succ ?_
  simp only [spec_l1Gcd.l0]
  by_cases c : y = 0
  · subst c
    exact Ev.pos (by omega) (Ev.ret (by simp))
  · refine Ev.neg (by omega) ?_
    rw [tmod_nat, gcd_mod]
    exact ih y (x % y) (by have := Nat.mod_lt x (Nat.pos_of_ne_zero c); omega)
theorem spec_l1Gcd_ev {a b : Int} (ha : a.natAbs ≤ 1000000000000) (hb : b.natAbs ≤ 1000000000000) : Ev (fun k => spec_l1Gcd.f k a b) ((Nat.gcd a.natAbs b.natAbs : Nat) : Int) := by
 unfold spec_l1Gcd.f
 rw [spec_l1Size_eq ha, spec_l1Size_eq hb]
 exact Ev.sbind (Ev.sbind (spec_l1Gcd_l _ _ _ (Nat.le_refl _)))
theorem div_facts {n p : Int} (hp : 2 ≤ p) (hn : n ≠ 0) (h : Int.tmod n p = 0) : Int.tdiv n p ≠ 0 ∧ (Int.tdiv n p).natAbs < n.natAbs ∧ Nt.vl n p = Nt.vl (Int.tdiv n p) p + 1 ∧ Nt.un n p = Nt.un (Int.tdiv n p) p := by
 obtain ⟨c, rfl⟩ := Nt.tmod_zero_iff.1 h
 rw [Int.mul_tdiv_cancel_left _ (by omega)]
 have hc : c ≠ 0 := by intro e; subst e; simp at hn
 refine ⟨hc, ?_, ?_⟩
 · rw [Int.natAbs_mul]
   have h1 : 2 ≤ p.natAbs := by omega
   have := Nat.mul_le_mul_right c.natAbs h1
   have : 0 < c.natAbs := by omega
   omega
 · obtain ⟨h1, h2⟩ := Nt.vl_spec hp hc
   refine Nt.vl_eq hp hn h2 ?_
   rw [Int.pow_succ]
   generalize p ^ Nt.vl c p = X at *
   generalize Nt.un c p = U at *
   rw [h1]; grind
theorem div_none {n p : Int} (hp : 2 ≤ p) (hn : n ≠ 0) (h : ¬ Int.tmod n p = 0) : Nt.vl n p = 0 ∧ Nt.un n p = n :=
 Nt.vl_unit hp hn (fun hd => h (Nt.tmod_zero_iff.2 hd))
theorem vl_le_abs {n p : Int} (hp : 2 ≤ p) : ∀ (d : Nat) (n : Int), n ≠ 0 → n.natAbs ≤ d → Nt.vl n p ≤ n.natAbs
 | 0, n, hn, h => by omega
 | d + 1, n, hn, h => by
  by_cases ht : Int.tmod n p = 0
  · obtain ⟨h1, h2, h3, _⟩ := div_facts hp hn ht
    have := vl_le_abs (n := n) hp d (Int.tdiv n p) h1 (by omega)
    omega
  · rw [(div_none hp hn ht).1]; omega
theorem ssq_small {p : Int} (h0 : 0 ≤ p) (h : p ≤ 1000001) : 0 ≤ p * p ∧ p * p ≤ 1000002000001 := by
 have h1 : p * p ≤ 1000001 * 1000001 := Int.mul_le_mul h h (by omega) (by omega)
 have h2 := Int.mul_nonneg h0 h0
 omega
theorem ssq_lt {p n : Int} (h : p * p ≤ n) (hn : n ≤ 1000000000000) (h0 : 0 ≤ p) : p ≤ 1000000 := by
 rcases Int.lt_or_le 1000000 p with h' | h'
 · have : 1000001 * 1000001 ≤ p * p := Int.mul_le_mul (by omega) (by omega) (by omega) (by omega)
   omega
 · exact h'
theorem spec_l1Primes_in {L out : List Int} {p : Int} (h2 : 2 ≤ p) (h3 : p ≤ 1000001) : ∀ (d : Nat) (n : Int), n ≠ 0 → n.natAbs ≤ d → d ≤ 1000000000000 →
 Ev (fun k => spec_l1Primes.l0 k (Nt.un n p) out (p + 1)) L → Ev (fun k => spec_l1Primes.l1 k n out p) L := by
 intro d
 induction d with
 | zero => intro n h0 hd; omega
 | succ d ih =>
  intro n h0 hd hd2 h
  refine Ev.succ ?_
  simp only [spec_l1Primes.l1]
  by_cases ht : Int.tmod n p = 0
  · obtain ⟨a1, a2, a3, a4⟩ := div_facts h2 h0 ht
    rw [w64 (x := Int.tdiv n p) (by omega) (by omega)]
    refine Ev.neg (by omega) (Ev.pos ht (ih (Int.tdiv n p) a1 (by omega) (by omega) ?_))
    rw [← a4]; exact h
  · obtain ⟨a1, a2⟩ := div_none h2 h0 ht
    rw [w64 (x := p + 1) (by omega) (by omega)]
    refine Ev.neg (by omega) (Ev.neg ht ?_)
    rw [a2] at h; exact h
theorem spec_l1Primes_l {N : Int} (hN : N ≤ 1000000000000) : ∀ (d : Nat) (n p : Int) (out : List Int), (1000001 - p).toNat ≤ d → 2 ≤ p → p ≤ 1000001 → (out.length : Int) ≤ p → Nt.St N n p out →
 ∃ L, Nt.IsPL N L ∧ Ev (fun k => spec_l1Primes.l0 k n out p) L := by
 intro d
 induction d with
 | zero =>
  intro n p out hd h2 h3 ho hS
  have hs := ssq_small (p := p) (by omega) h3
  have hle : n < p * p := by
   have e : p = 1000001 := by omega
   subst e
   have := hS.2.1
   omega
  refine ⟨_, hS.last h2 hle, Ev.succ ?_⟩
  simp only [spec_l1Primes.l0]
  rw [w64 (by omega) (by omega)]
  refine Ev.neg (by omega) ?_
  by_cases hn : n > 1
  · exact Ev.pos hn (Ev.pos (by omega) (Ev.ret (if_pos hn).symm))
  · exact Ev.neg hn (Ev.ret (if_neg hn).symm)
 | succ d ih =>
  intro n p out hd h2 h3 ho hS
  have hs := ssq_small (p := p) (by omega) h3
  have b1 := hS.1
  have b2 := hS.2.1
  by_cases hle : p * p ≤ n
  · have hp6 := ssq_lt hle (by omega) (by omega)
    by_cases hdv : p ∣ n
    · obtain ⟨L, h4, h5⟩ := ih (Nt.un n p) (p + 1) (out ++ [p]) (by omega) (by omega) (by omega) (by simp; omega) (hS.step h2 hdv)
      refine ⟨L, h4, Ev.succ ?_⟩
      simp only [spec_l1Primes.l0]
      rw [w64 (x := p * p) (by omega) (by omega)]
      refine Ev.pos hle (Ev.neg (by omega) (Ev.pos (Nt.tmod_zero_iff.2 hdv) (Ev.pos (by omega) (Ev.succ ?_))))
      simp only [spec_l1Primes.j1]
      exact spec_l1Primes_in h2 h3 _ n (by omega) (Nat.le_refl _) (by omega) h5
    · obtain ⟨L, h4, h5⟩ := ih n (p + 1) out (by omega) (by omega) (by omega) (by omega) (hS.skip hdv)
      refine ⟨L, h4, Ev.succ ?_⟩
      simp only [spec_l1Primes.l0]
      rw [w64 (x := p * p) (by omega) (by omega)]
      refine Ev.pos hle (Ev.neg (by omega) (Ev.neg (fun h => hdv (Nt.tmod_zero_iff.1 h)) (Ev.succ ?_)))
      simp only [spec_l1Primes.j1]
      refine spec_l1Primes_in h2 h3 _ n (by omega) (Nat.le_refl _) (by omega) ?_
      rw [(div_none h2 (by omega) (fun h => hdv (Nt.tmod_zero_iff.1 h))).2]; exact h5
  · refine ⟨_, hS.last h2 (by omega), Ev.succ ?_⟩
    simp only [spec_l1Primes.l0]
    rw [w64 (by omega) (by omega)]
    refine Ev.neg (by omega) ?_
    by_cases hn : n > 1
    · exact Ev.pos hn (Ev.pos (by omega) (Ev.ret (if_pos hn).symm))
    · exact Ev.neg hn (Ev.ret (if_neg hn).symm)
theorem spl_abs {n : Int} {L : List Int} (h : Nt.IsPL (n.natAbs : Int) L) : Nt.IsPL n L := ⟨h.1, fun p => by rw [h.2, Int.dvd_natAbs]⟩
theorem spec_l1Primes_ev {n : Int} (hn : n ≠ 0) (hn2 : n.natAbs ≤ 1000000000000) : ∃ L, Nt.IsPL n L ∧ Ev (fun k => spec_l1Primes.f k n) L := by
 obtain ⟨L, h1, h2⟩ := spec_l1Primes_l (N := (n.natAbs : Int)) (by omega) _ (n.natAbs : Int) 2 [] (Nat.le_refl _) (by omega) (by omega) (by simp) (Nt.St.start (by omega))
 refine ⟨L, spl_abs h1, ?_⟩
 unfold spec_l1Primes.f
 rw [spec_l1Size_eq (by omega)]
 exact Ev.sbind h2
theorem spec_l5Two_ev {a b c : Int} (ha : a ≠ 0) (hb : b ≠ 0) (hc : c ≠ 0) (ha2 : a.natAbs ≤ 1000000000000) (hb2 : b.natAbs ≤ 1000000000000) (hc2 : c.natAbs ≤ 1000000000000) : Ev (fun k => spec_l5Two.f k [a, b, c]) (two a b c) := by
 have e0 : rd [a, b, c] 0 = a := rfl
 have e1 : rd [a, b, c] 1 = b := rfl
 have e2 : rd [a, b, c] 2 = c := rfl
 have hit : ∀ x y : Int, 1 < Nat.gcd x.natAbs y.natAbs → x ≠ 0 → x.natAbs ≤ 1000000000000 → ∃ L, Ev (fun k => spec_l1Primes.f k ((Nat.gcd x.natAbs y.natAbs : Nat) : Int)) L ∧ 0 < L.length ∧ rd L 0 = lp (Nat.gcd x.natAbs y.natAbs) := by
  intro x y h h0 h2
  have hle := Nat.gcd_le_left y.natAbs (show 0 < x.natAbs by omega)
  obtain ⟨L, l1, l2⟩ := spec_l1Primes_ev (n := ((Nat.gcd x.natAbs y.natAbs : Nat) : Int)) (by omega) (by omega)
  obtain ⟨p1, p2, _⟩ := lp_of l1 h
  exact ⟨L, l2, p1, p2⟩
 unfold spec_l5Two.f
 refine Ev.succ ?_
 simp only [spec_l5Two.l0]
 rw [show Int.tmod (wrap64 (2 + 1)) 3 = 0 by rw [w64 (by omega) (by omega)]; rfl, show Int.tmod (wrap64 (2 + 2)) 3 = 1 by rw [w64 (by omega) (by omega)]; rfl, show wrap64 (2 - 1) = 1 by rw [w64 (by omega) (by omega)]; rfl, e0, e1]
 refine Ev.pos (by omega) (Ev.pos (by omega) (Ev.pos (by simp) (Ev.pos (by omega) (Ev.pos (by simp) (Ev.bind (spec_l1Gcd_ev ha2 hb2) ?_)))))
 unfold two
 by_cases c1 : 1 < Nat.gcd a.natAbs b.natAbs
 · obtain ⟨L, l1, l2, l3⟩ := hit a b c1 ha ha2
   rw [if_pos c1]
   exact Ev.pos (by omega) (Ev.bind l1 (Ev.pos (by omega) (Ev.ret (by rw [l3]))))
 · rw [if_neg c1]
   refine Ev.neg (by omega) (Ev.succ ?_)
   simp only [spec_l5Two.l0]
   rw [show Int.tmod (wrap64 (1 + 1)) 3 = 2 by rw [w64 (by omega) (by omega)]; rfl, show Int.tmod (wrap64 (1 + 2)) 3 = 0 by rw [w64 (by omega) (by omega)]; rfl, show wrap64 (1 - 1) = 0 by rw [w64 (by omega) (by omega)]; rfl, e0, e2]
   refine Ev.pos (by omega) (Ev.pos (by omega) (Ev.pos (by simp) (Ev.pos (by omega) (Ev.pos (by simp) (Ev.bind (spec_l1Gcd_ev hc2 ha2) ?_)))))
   by_cases c2 : 1 < Nat.gcd c.natAbs a.natAbs
   · obtain ⟨L, l1, l2, l3⟩ := hit c a c2 hc hc2
     rw [if_pos c2]
     exact Ev.pos (by omega) (Ev.bind l1 (Ev.pos (by omega) (Ev.ret (by rw [l3]))))
   · rw [if_neg c2]
     refine Ev.neg (by omega) (Ev.succ ?_)
     simp only [spec_l5Two.l0]
     rw [show Int.tmod (wrap64 (0 + 1)) 3 = 1 by rw [w64 (by omega) (by omega)]; rfl, show Int.tmod (wrap64 (0 + 2)) 3 = 2 by rw [w64 (by omega) (by omega)]; rfl, show wrap64 (0 - 1) = -1 by rw [w64 (by omega) (by omega)]; rfl, e1, e2]
     refine Ev.pos (by omega) (Ev.pos (by omega) (Ev.pos (by simp) (Ev.pos (by omega) (Ev.pos (by simp) (Ev.bind (spec_l1Gcd_ev hb2 hc2) ?_)))))
     by_cases c3 : 1 < Nat.gcd b.natAbs c.natAbs
     · obtain ⟨L, l1, l2, l3⟩ := hit b c c3 hb hb2
       rw [if_pos c3]
       exact Ev.pos (by omega) (Ev.bind l1 (Ev.pos (by omega) (Ev.ret (by rw [l3]))))
     · rw [if_neg c3]
       refine Ev.neg (by omega) (Ev.succ ?_)
       simp only [spec_l5Two.l0]
       exact Ev.neg (by omega) (Ev.now _)
theorem sq_ne {p : Int} (hp : 2 ≤ p) : p * p ≠ 0 := Int.mul_ne_zero (by omega) (by omega)
/-- Dividing by a square once. -/
theorem core_step {N n r p : Int} (hN : N ≠ 0) (hN2 : N.natAbs ≤ 1000000000) (hp : 2 ≤ p) (h : N = n * (r * r)) (hr : 1 ≤ r) (hd : p * p ∣ n) :
 Int.tdiv n (p * p) ≠ 0 ∧ (Int.tdiv n (p * p)).natAbs < n.natAbs ∧ N = Int.tdiv n (p * p) * ((r * p) * (r * p)) ∧ 1 ≤ r * p ∧ Int.tdiv n (p * p) ∣ n := by
 obtain ⟨m, rfl⟩ := hd
 have hpp := sq_ne hp
 rw [Int.mul_tdiv_cancel_left _ hpp]
 have hm : m ≠ 0 := by intro e; subst e; simp at h; exact hN h
 have h4 : 2 * 2 ≤ p * p := Int.mul_le_mul hp hp (by omega) (by omega)
 refine ⟨hm, ?_, by rw [h]; grind, ?_, ⟨p * p, by rw [Int.mul_comm]⟩⟩
 · rw [Int.natAbs_mul]
   have : 4 * m.natAbs ≤ (p * p).natAbs * m.natAbs := Nat.mul_le_mul_right _ (by omega)
   omega
 · have : 1 * 1 ≤ r * p := Int.mul_le_mul hr (by omega) (by omega) (by omega)
   omega
theorem core_bd {N n r : Int} (hN : N ≠ 0) (hN2 : N.natAbs ≤ 1000000000) (h : N = n * (r * r)) (hr : 1 ≤ r) : r ≤ 100000 ∧ n ≠ 0 ∧ n.natAbs ≤ 1000000000 := by
 have hn : n ≠ 0 := by intro e; subst e; simp at h; exact hN h
 have e : N.natAbs = n.natAbs * (r.natAbs * r.natAbs) := by rw [← Int.natAbs_mul, ← Int.natAbs_mul, ← h]
 have a : 1 * (r.natAbs * r.natAbs) ≤ n.natAbs * (r.natAbs * r.natAbs) := Nat.mul_le_mul_right _ (by omega)
 have b : n.natAbs * (1 * 1) ≤ n.natAbs * (r.natAbs * r.natAbs) := Nat.mul_le_mul_left _ (Nat.mul_le_mul (by omega) (by omega))
 refine ⟨?_, hn, by omega⟩
 rcases Int.lt_or_le 100000 r with h' | h'
 · exfalso
   have : 100001 * 100001 ≤ r.natAbs * r.natAbs := Nat.mul_le_mul (by omega) (by omega)
   omega
 · exact h'
theorem spec_l1Core_l1 {N p : Int} (hN : N ≠ 0) (hN2 : N.natAbs ≤ 1000000000) (hp : 2 ≤ p) (hp2 : p ≤ 40000) (res : Int × Int) (B : Int → Prop)
 (hB : ∀ m n, B n → m ∣ n → B m)
 (hnext : ∀ n r, N = n * (r * r) → 1 ≤ r → B n → ¬ p * p ∣ n → Ev (fun k => spec_l1Core.l0 k n r (p + 1)) res) :
 ∀ (d : Nat) (n r : Int), n.natAbs ≤ d → N = n * (r * r) → 1 ≤ r → B n → Ev (fun k => spec_l1Core.l1 k n r p) res := by
 intro d
 induction d with
 | zero =>
  intro n r hd h hr
  have := (core_bd hN hN2 h hr).2.1
  omega
 | succ d ih =>
  intro n r hd h hr hb
  obtain ⟨b1, b2, b3⟩ := core_bd hN hN2 h hr
  have hpp : 0 ≤ p * p ∧ p * p ≤ 40000 * 40000 := ⟨Int.mul_nonneg (by omega) (by omega), Int.mul_le_mul hp2 hp2 (by omega) (by omega)⟩
  have hp0 := sq_ne hp
  refine Ev.succ ?_
  simp only [spec_l1Core.l1]
  rw [w64 (x := p * p) (by omega) (by omega)]
  refine Ev.neg hp0 ?_
  by_cases hdv : p * p ∣ n
  · obtain ⟨c1, c2, c3, c4, c5⟩ := core_step hN hN2 hp h hr hdv
    have hrp : r * p ≤ 100000 * 40000 := Int.mul_le_mul b1 hp2 (by omega) (by omega)
    rw [w64 (x := Int.tdiv n (p * p)) (by omega) (by omega), w64 (x := r * p) (by omega) (by omega)]
    exact Ev.pos (Nt.tmod_zero_iff.2 hdv) (ih _ _ (by omega) c3 c4 (hB _ _ hb c5))
  · rw [w64 (x := p + 1) (by omega) (by omega)]
    exact Ev.neg (fun e => hdv (Nt.tmod_zero_iff.1 e)) (hnext n r h hr hb hdv)
theorem spec_l1Core_l0 {N : Int} (hN : N ≠ 0) (hN2 : N.natAbs ≤ 1000000000) : ∀ (d : Nat) (p n r : Int), p + d = 40000 → 2 ≤ p → N = n * (r * r) → 1 ≤ r → (∀ q, 2 ≤ q → q < p → ¬ q * q ∣ n) →
 ∃ c s, Nt.IsCore N c s ∧ Ev (fun k => spec_l1Core.l0 k n r p) (c, s) := by
 intro d
 induction d with
 | zero =>
  intro p n r hd hp h hr hq
  obtain ⟨b1, b2, b3⟩ := core_bd hN hN2 h hr
  refine ⟨n, r, ⟨h, hr, fun q hq' hdv => ?_⟩, Ev.succ ?_⟩
  · by_cases c : q < p
    · exact hq q hq'.1 c hdv
    · have := Int.mul_le_mul (show 40000 ≤ q by omega) (show 40000 ≤ q by omega) (by omega) (by omega)
      have h2 := Int.le_of_dvd (show 0 < ((n.natAbs : Nat) : Int) by omega) (Int.dvd_natAbs.2 hdv)
      omega
  · simp only [spec_l1Core.l0]
    rw [spec_l1Size_eq (by omega), show p = 40000 by omega]
    exact Ev.sbind (Ev.neg (by unfold wrap64; omega) (Ev.now _))
 | succ d ih =>
  intro p n r hd hp h hr hq
  obtain ⟨b1, b2, b3⟩ := core_bd hN hN2 h hr
  have hpp : 0 ≤ p * p ∧ p * p ≤ 40000 * 40000 := ⟨Int.mul_nonneg (by omega) (by omega), Int.mul_le_mul (by omega) (by omega) (by omega) (by omega)⟩
  by_cases c : p * p ≤ (n.natAbs : Int)
  · -- the round goes on
    have key : ∀ (res : Int × Int), (∀ n' r', N = n' * (r' * r') → 1 ≤ r' → (∀ q, 2 ≤ q → q < p → ¬ q * q ∣ n') → ¬ p * p ∣ n' → Ev (fun k => spec_l1Core.l0 k n' r' (p + 1)) res) → Ev (fun k => spec_l1Core.l0 k n r p) res := by
     intro res hres
     refine Ev.succ ?_
     simp only [spec_l1Core.l0]
     rw [spec_l1Size_eq (by omega), w64 (x := p * p) (by omega) (by omega)]
     exact Ev.sbind (Ev.pos c (spec_l1Core_l1 hN hN2 hp (by omega) res (fun m => ∀ q, 2 ≤ q → q < p → ¬ q * q ∣ m) (fun m n hb hd q h1 h2 e => hb q h1 h2 (Int.dvd_trans e hd)) hres n.natAbs n r (Nat.le_refl _) h hr hq))
    obtain ⟨c0, s0, hc0⟩ := Nt.core_exists hN
    have all : ∀ n' r', N = n' * (r' * r') → 1 ≤ r' → (∀ q, 2 ≤ q → q < p → ¬ q * q ∣ n') → ¬ p * p ∣ n' → Ev (fun k => spec_l1Core.l0 k n' r' (p + 1)) (c0, s0) := by
     intro n' r' h1 h2 h3 h4
     obtain ⟨c1, s1, k1, k2⟩ := ih (p + 1) n' r' (by omega) (by omega) h1 h2 (fun q q1 q2 => by
      by_cases e : q = p
      · rw [e]; exact h4
      · exact h3 q q1 (by omega))
     obtain ⟨u1, u2⟩ := hc0.uniq hN k1
     rw [u1, u2]; exact k2
    exact ⟨c0, s0, hc0, key _ all⟩
  · refine ⟨n, r, ⟨h, hr, fun q hq' hdv => ?_⟩, Ev.succ ?_⟩
    · by_cases c' : q < p
      · exact hq q hq'.1 c' hdv
      · have := Int.mul_le_mul (show p ≤ q by omega) (show p ≤ q by omega) (by omega) (by omega)
        have h2 := Int.le_of_dvd (show 0 < ((n.natAbs : Nat) : Int) by omega) (Int.dvd_natAbs.2 hdv)
        omega
    · simp only [spec_l1Core.l0]
      rw [spec_l1Size_eq (by omega), w64 (x := p * p) (by omega) (by omega)]
      exact Ev.sbind (Ev.neg c (Ev.now _))
theorem spec_l1Core_ev {N : Int} (hN : N ≠ 0) (hN2 : N.natAbs ≤ 1000000000) : ∃ c s, Nt.IsCore N c s ∧ Ev (fun k => spec_l1Core.f k N) (c, s) := by
 unfold spec_l1Core.f
 exact spec_l1Core_l0 hN hN2 39998 2 N 1 (by omega) (by omega) (by simp) (by omega) (fun q h1 h2 => by omega)
theorem spec_l1Core_cor {N : Int} (hN : N ≠ 0) (hN2 : N.natAbs ≤ 1000000000) : Ev (fun k => spec_l1Core.f k N) (Nt.cor N, Nt.rt N) := by
 obtain ⟨c, s, h1, h2⟩ := spec_l1Core_ev hN hN2
 obtain ⟨u, v⟩ := Nt.cor_eq hN h1
 rw [← u, ← v]; exact h2
theorem NI_two {t0 t1 t2 a b c m n o : Int} (h : NI t0 t1 t2 a b c m n o) : Ev (fun k => spec_l5Two.f k [a, b, c]) (two a b c) ∧
 (((two a b c).1 = 1 ∧ (two a b c).2 = 0 ∧ Nat.gcd a.natAbs b.natAbs ≤ 1 ∧ Nat.gcd c.natAbs a.natAbs ≤ 1 ∧ Nat.gcd b.natAbs c.natAbs ≤ 1) ∨
  (Nt.Pr (two a b c).1 ∧ (((two a b c).2 = 2 ∧ (two a b c).1 ∣ a ∧ (two a b c).1 ∣ b) ∨ ((two a b c).2 = 1 ∧ (two a b c).1 ∣ c ∧ (two a b c).1 ∣ a) ∨ ((two a b c).2 = 0 ∧ (two a b c).1 ∣ b ∧ (two a b c).1 ∣ c)))) := by
 obtain ⟨_, ⟨b1, b2, b3⟩, _⟩ := h.bds
 exact ⟨spec_l5Two_ev h.1.1 h.1.2.1 h.1.2.2 (by omega) (by omega) (by omega), two_step h.1.1 h.1.2.1 h.1.2.2 (by omega) (by omega) (by omega)⟩
theorem spec_l5Normal_l {t0 t1 t2 : Int} : ∀ (f : Nat) (a b c m n o : Int), NI t0 t1 t2 a b c m n o → (a * b * c).natAbs ≤ f →
 Ev (fun k => spec_l5Normal.l1 k [a, b, c] [m, n, o] (two a b c).1 (two a b c).2) (nrm f a b c m n o) := by
 intro f
 induction f with
 | zero =>
  intro a b c m n o h hf
  have := Int.natAbs_pos.2 (Int.mul_ne_zero (Int.mul_ne_zero h.1.1 h.1.2.1) h.1.2.2)
  omega
 | succ f ih =>
  intro a b c m n o h hf
  obtain ⟨_, hcase⟩ := NI_two h
  obtain ⟨hb0, ⟨hb1, hb2, hb3⟩, hb4⟩ := h.bds
  simp only [nrm]
  generalize two a b c = q at *
  obtain ⟨p, t⟩ := q
  dsimp only at *
  rcases hcase with ⟨rfl, rfl, _⟩ | ⟨hp, hcase⟩
  · refine Ev.succ ?_
    simp only [spec_l5Normal.l1]
    rw [if_neg (by omega)]
    exact Ev.neg (by omega) (Ev.now _)
  · have hp2 : 2 ≤ p := hp.1
    refine Ev.succ ?_
    simp only [spec_l5Normal.l1]
    rw [if_pos (show p > 1 by omega)]
    refine Ev.pos (by omega) ?_
    have go : ∀ {a b c m n o : Int} {R : List Int × List Int}, NI t0 t1 t2 a b c m n o → Ev (fun k => spec_l5Normal.l1 k [a, b, c] [m, n, o] (two a b c).1 (two a b c).2) R →
     Ev (fun k => (spec_l5Two.f k [a, b, c]).bind fun bt => spec_l5Normal.l1 k [a, b, c] [m, n, o] bt.1 bt.2) R := fun h hR => Ev.bind (NI_two h).1 hR
    rcases hcase with ⟨rfl, ⟨a', rfl⟩, ⟨b', rfl⟩⟩ | ⟨rfl, ⟨c', rfl⟩, ⟨a', rfl⟩⟩ | ⟨rfl, ⟨b', rfl⟩, ⟨c', rfl⟩⟩
    · obtain ⟨s1, s2, s3⟩ := h.step hp2
      have bb := s2.bds
      have ab : a'.natAbs ≤ 29791 ∧ b'.natAbs ≤ 29791 := ⟨bb.2.1.1, bb.2.1.2.1⟩
      rw [if_pos rfl, show Int.tmod (wrap64 (2 + 1)) 3 = 0 by rw [w64 (by omega) (by omega)]; rfl, show Int.tmod (wrap64 (2 + 2)) 3 = 1 by rw [w64 (by omega) (by omega)]; rfl]
      rw [show rd [p * a', p * b', c] 0 = p * a' from rfl, tdiv_of hp2, w64 (x := a') (by omega) (by omega)]
      refine Ev.pos (by omega) (Ev.pos (by simp) (Ev.neg (by omega) (Ev.sbind ?_)))
      show Ev (fun k => _) _
      rw [show [p * a', p * b', c].set (0 : Int).toNat a' = [a', p * b', c] from rfl, show rd [a', p * b', c] 1 = p * b' from rfl, tdiv_of hp2, w64 (x := b') (by omega) (by omega)]
      refine Ev.pos (by omega) (Ev.pos (by simp) (Ev.sbind ?_))
      show Ev (fun k => _) _
      rw [show [a', p * b', c].set (1 : Int).toNat b' = [a', b', c] from rfl, show rd [a', b', c] 2 = c from rfl]
      refine Ev.pos (by omega) (Ev.pos (by simp) ?_)
      by_cases hd : Int.tmod c p = 0
      · obtain ⟨c', rfl⟩ := Int.dvd_of_tmod_eq_zero hd
        obtain ⟨s4, s5⟩ := s1 c' rfl
        have cb := s4.bds.2.1.2.2
        rw [if_pos hd]
        (try simp only [tdiv_of hp2])
        rw [w64 (x := c') (by omega) (by omega)]
        exact Ev.pos hd (Ev.sbind (go s4 (ih _ _ _ _ _ _ s4 (by omega))))
      · rw [if_neg hd]
        (try simp only [tdiv_of hp2])
        rw [w64 (x := c * p) (by omega) (by omega), show rd [m, n, o] 2 = o from rfl, w64 (x := o * p) (by have := s2.2.1; omega) (by omega)]
        exact Ev.neg hd (Ev.sbind (Ev.pos (by simp) (go s2 (ih _ _ _ _ _ _ s2 (by omega)))))
    · have h' := h.rot.rot
      obtain ⟨s1, s2, s3⟩ := h'.step hp2
      have s2' := s2.rot
      have bb := s2'.bds
      have e1 : (p * a' * b * (p * c')).natAbs = (p * c' * (p * a') * b).natAbs := by congr 1; grind
      rw [if_neg (by omega), if_pos rfl, show Int.tmod (wrap64 (1 + 1)) 3 = 2 by rw [w64 (by omega) (by omega)]; rfl, show Int.tmod (wrap64 (1 + 2)) 3 = 0 by rw [w64 (by omega) (by omega)]; rfl]
      rw [show rd [p * a', b, p * c'] 2 = p * c' from rfl, tdiv_of hp2, w64 (x := c') (by omega) (by omega)]
      refine Ev.pos (by omega) (Ev.pos (by simp) (Ev.neg (by omega) (Ev.sbind ?_)))
      show Ev (fun k => _) _
      rw [show [p * a', b, p * c'].set (2 : Int).toNat c' = [p * a', b, c'] from rfl, show rd [p * a', b, c'] 0 = p * a' from rfl, tdiv_of hp2, w64 (x := a') (by omega) (by omega)]
      refine Ev.pos (by omega) (Ev.pos (by simp) (Ev.sbind ?_))
      show Ev (fun k => _) _
      rw [show [p * a', b, c'].set (0 : Int).toNat a' = [a', b, c'] from rfl, show rd [a', b, c'] 1 = b from rfl]
      refine Ev.pos (by omega) (Ev.pos (by simp) ?_)
      by_cases hd : Int.tmod b p = 0
      · obtain ⟨b', rfl⟩ := Int.dvd_of_tmod_eq_zero hd
        obtain ⟨s4, s5⟩ := s1 b' rfl
        have s4' := s4.rot
        have cb := s4'.bds.2.1
        have e2 : (a' * b' * c').natAbs = (c' * a' * b').natAbs := by congr 1; grind
        rw [if_pos hd]
        (try simp only [tdiv_of hp2])
        rw [w64 (x := b') (by omega) (by omega)]
        exact Ev.pos hd (Ev.sbind (go s4' (ih _ _ _ _ _ _ s4' (by omega))))
      · have e2 : (a' * (b * p) * c').natAbs = (c' * a' * (b * p)).natAbs := by congr 1; grind
        rw [if_neg hd]
        (try simp only [tdiv_of hp2])
        rw [w64 (x := b * p) (by omega) (by omega), show rd [m, n, o] 1 = n from rfl, w64 (x := n * p) (by have := s2'.2.1; omega) (by omega)]
        exact Ev.neg hd (Ev.sbind (Ev.pos (by simp) (go s2' (ih _ _ _ _ _ _ s2' (by omega)))))
    · have h' := h.rot
      obtain ⟨s1, s2, s3⟩ := h'.step hp2
      have s2' := s2.rot.rot
      have bb := s2'.bds
      have e1 : (a * (p * b') * (p * c')).natAbs = (p * b' * (p * c') * a).natAbs := by congr 1; grind
      rw [if_neg (by omega), if_neg (by omega), show Int.tmod (wrap64 (0 + 1)) 3 = 1 by rw [w64 (by omega) (by omega)]; rfl, show Int.tmod (wrap64 (0 + 2)) 3 = 2 by rw [w64 (by omega) (by omega)]; rfl]
      rw [show rd [a, p * b', p * c'] 1 = p * b' from rfl, tdiv_of hp2, w64 (x := b') (by omega) (by omega)]
      refine Ev.pos (by omega) (Ev.pos (by simp) (Ev.neg (by omega) (Ev.sbind ?_)))
      show Ev (fun k => _) _
      rw [show [a, p * b', p * c'].set (1 : Int).toNat b' = [a, b', p * c'] from rfl, show rd [a, b', p * c'] 2 = p * c' from rfl, tdiv_of hp2, w64 (x := c') (by omega) (by omega)]
      refine Ev.pos (by omega) (Ev.pos (by simp) (Ev.sbind ?_))
      show Ev (fun k => _) _
      rw [show [a, b', p * c'].set (2 : Int).toNat c' = [a, b', c'] from rfl, show rd [a, b', c'] 0 = a from rfl]
      refine Ev.pos (by omega) (Ev.pos (by simp) ?_)
      by_cases hd : Int.tmod a p = 0
      · obtain ⟨a', rfl⟩ := Int.dvd_of_tmod_eq_zero hd
        obtain ⟨s4, s5⟩ := s1 a' rfl
        have s4' := s4.rot.rot
        have cb := s4'.bds.2.1
        have e2 : (a' * b' * c').natAbs = (b' * c' * a').natAbs := by congr 1; grind
        rw [if_pos hd]
        (try simp only [tdiv_of hp2])
        rw [w64 (x := a') (by omega) (by omega)]
        exact Ev.pos hd (Ev.sbind (go s4' (ih _ _ _ _ _ _ s4' (by omega))))
      · have e2 : (a * p * b' * c').natAbs = (b' * c' * (a * p)).natAbs := by congr 1; grind
        rw [if_neg hd]
        (try simp only [tdiv_of hp2])
        rw [w64 (x := a * p) (by omega) (by omega), show rd [m, n, o] 0 = m from rfl, w64 (x := m * p) (by have := s2'.2.1; omega) (by omega)]
        exact Ev.neg hd (Ev.sbind (Ev.pos (by simp) (go s2' (ih _ _ _ _ _ _ s2' (by omega)))))
theorem nrm_ni {t0 t1 t2 : Int} : ∀ (f : Nat) (a b c m n o : Int), NI t0 t1 t2 a b c m n o → (a * b * c).natAbs ≤ f →
 ∃ a' b' c' m' n' o', nrm f a b c m n o = ([a', b', c'], [m', n', o']) ∧ NI t0 t1 t2 a' b' c' m' n' o' ∧ (a' * b' * c').natAbs ≤ (a * b * c).natAbs ∧
  (Nat.gcd a'.natAbs b'.natAbs ≤ 1 ∧ Nat.gcd c'.natAbs a'.natAbs ≤ 1 ∧ Nat.gcd b'.natAbs c'.natAbs ≤ 1) := by
 intro f
 induction f with
 | zero =>
  intro a b c m n o h hf
  have := Int.natAbs_pos.2 (Int.mul_ne_zero (Int.mul_ne_zero h.1.1 h.1.2.1) h.1.2.2)
  omega
 | succ f ih =>
  intro a b c m n o h hf
  obtain ⟨_, hcase⟩ := NI_two h
  simp only [nrm]
  generalize two a b c = q at *
  obtain ⟨p, t⟩ := q
  dsimp only at *
  have next : ∀ {a1 b1 c1 m1 n1 o1 : Int}, NI t0 t1 t2 a1 b1 c1 m1 n1 o1 → (a1 * b1 * c1).natAbs < (a * b * c).natAbs → ∃ a' b' c' m' n' o', nrm f a1 b1 c1 m1 n1 o1 = ([a', b', c'], [m', n', o']) ∧ NI t0 t1 t2 a' b' c' m' n' o' ∧ (a' * b' * c').natAbs ≤ (a * b * c).natAbs ∧ (Nat.gcd a'.natAbs b'.natAbs ≤ 1 ∧ Nat.gcd c'.natAbs a'.natAbs ≤ 1 ∧ Nat.gcd b'.natAbs c'.natAbs ≤ 1) := by
   intro a1 b1 c1 m1 n1 o1 h1 h2
   obtain ⟨a', b', c', m', n', o', k1, k2, k3, k4⟩ := ih _ _ _ _ _ _ h1 (by omega)
   exact ⟨a', b', c', m', n', o', k1, k2, by omega, k4⟩
  rcases hcase with ⟨rfl, rfl, g1, g2, g3⟩ | ⟨hp, hcase⟩
  · rw [if_neg (by omega)]
    exact ⟨a, b, c, m, n, o, rfl, h, Nat.le_refl _, g1, g2, g3⟩
  · have hp2 : 2 ≤ p := hp.1
    rw [if_pos (show p > 1 by omega)]
    rcases hcase with ⟨rfl, ⟨a', rfl⟩, ⟨b', rfl⟩⟩ | ⟨rfl, ⟨c', rfl⟩, ⟨a', rfl⟩⟩ | ⟨rfl, ⟨b', rfl⟩, ⟨c', rfl⟩⟩
    · obtain ⟨s1, s2, s3⟩ := h.step hp2
      rw [if_pos rfl]
      simp only [tdiv_of hp2]
      by_cases hd : Int.tmod c p = 0
      · obtain ⟨c', rfl⟩ := Int.dvd_of_tmod_eq_zero hd
        obtain ⟨s4, s5⟩ := s1 c' rfl
        rw [if_pos hd, tdiv_of hp2]
        exact next s4 s5
      · rw [if_neg hd]
        exact next s2 s3
    · obtain ⟨s1, s2, s3⟩ := h.rot.rot.step hp2
      have e1 : (p * a' * b * (p * c')).natAbs = (p * c' * (p * a') * b).natAbs := by congr 1; grind
      rw [if_neg (by omega), if_pos rfl]
      simp only [tdiv_of hp2]
      by_cases hd : Int.tmod b p = 0
      · obtain ⟨b', rfl⟩ := Int.dvd_of_tmod_eq_zero hd
        obtain ⟨s4, s5⟩ := s1 b' rfl
        have e2 : (a' * b' * c').natAbs = (c' * a' * b').natAbs := by congr 1; grind
        rw [if_pos hd, tdiv_of hp2]
        exact next s4.rot (by omega)
      · have e2 : (a' * (b * p) * c').natAbs = (c' * a' * (b * p)).natAbs := by congr 1; grind
        rw [if_neg hd]
        exact next s2.rot (by omega)
    · obtain ⟨s1, s2, s3⟩ := h.rot.step hp2
      have e1 : (a * (p * b') * (p * c')).natAbs = (p * b' * (p * c') * a).natAbs := by congr 1; grind
      rw [if_neg (by omega), if_neg (by omega)]
      simp only [tdiv_of hp2]
      by_cases hd : Int.tmod a p = 0
      · obtain ⟨a', rfl⟩ := Int.dvd_of_tmod_eq_zero hd
        obtain ⟨s4, s5⟩ := s1 a' rfl
        have e2 : (a' * b' * c').natAbs = (b' * c' * a').natAbs := by congr 1; grind
        rw [if_pos hd, tdiv_of hp2]
        exact next s4.rot.rot (by omega)
      · have e2 : (a * p * b' * c').natAbs = (b' * c' * (a * p)).natAbs := by congr 1; grind
        rw [if_neg hd]
        exact next s2.rot.rot (by omega)
/-- The normal terms of three terms. -/
noncomputable def nm3 (x y z : Int) : List Int × List Int := nrm 29791 (Nt.cor x) (Nt.cor y) (Nt.cor z) (1 * Nt.rt y * Nt.rt z) (1 * Nt.rt x * Nt.rt z) (1 * Nt.rt x * Nt.rt y)
theorem ni_start {x y z : Int} (hx : x ≠ 0) (hy : y ≠ 0) (hz : z ≠ 0) (bx : x.natAbs ≤ 31) (by' : y.natAbs ≤ 31) (bz : z.natAbs ≤ 31) :
 NI x y z (Nt.cor x) (Nt.cor y) (Nt.cor z) (1 * Nt.rt y * Nt.rt z) (1 * Nt.rt x * Nt.rt z) (1 * Nt.rt x * Nt.rt y) := by
 obtain ⟨e1, r1, _⟩ := Nt.cor_core hx
 obtain ⟨e2, r2, _⟩ := Nt.cor_core hy
 obtain ⟨e3, r3, _⟩ := Nt.cor_core hz
 have p12 : 1 * 1 ≤ Nt.rt x * Nt.rt y := Int.mul_le_mul r1 r2 (by omega) (by omega)
 have p13 : 1 * 1 ≤ Nt.rt x * Nt.rt z := Int.mul_le_mul r1 r3 (by omega) (by omega)
 have p23 : 1 * 1 ≤ Nt.rt y * Nt.rt z := Int.mul_le_mul r2 r3 (by omega) (by omega)
 have p123 : 1 * 1 ≤ Nt.rt x * Nt.rt y * Nt.rt z := Int.mul_le_mul (by omega) r3 (by omega) (by omega)
 have pS : 1 * 1 ≤ (Nt.rt x * Nt.rt y * Nt.rt z) * (Nt.rt x * Nt.rt y * Nt.rt z) := Int.mul_le_mul (by omega) (by omega) (by omega) (by omega)
 refine ⟨⟨Nt.cor_nz hx, Nt.cor_nz hy, Nt.cor_nz hz⟩, ⟨by rw [Int.one_mul]; omega, by rw [Int.one_mul]; omega, by rw [Int.one_mul]; omega⟩, (Nt.rt x * Nt.rt y * Nt.rt z) * (Nt.rt x * Nt.rt y * Nt.rt z), by omega, ?_, ?_, ?_, ?_⟩
 · conv => lhs; rw [e1]
   grind
 · conv => lhs; rw [e2]
   grind
 · conv => lhs; rw [e3]
   grind
 · rw [← Int.natAbs_mul]
   have : Nt.cor x * Nt.cor y * Nt.cor z * (Nt.rt x * Nt.rt y * Nt.rt z * (Nt.rt x * Nt.rt y * Nt.rt z)) = x * y * z := by
    conv => rhs; rw [e1, e2, e3]
    grind
   rw [this, Int.natAbs_mul, Int.natAbs_mul]
   exact Nat.mul_le_mul (Nat.mul_le_mul bx by') bz
theorem spec_l5Normal_ev {x y z : Int} (hx : x ≠ 0) (hy : y ≠ 0) (hz : z ≠ 0) (bx : x.natAbs ≤ 31) (by' : y.natAbs ≤ 31) (bz : z.natAbs ≤ 31) :
 Ev (fun k => spec_l5Normal.f k [x, y, z]) (nm3 x y z) := by
 have hs := ni_start hx hy hz bx by' bz
 obtain ⟨_, r1, _⟩ := Nt.cor_core hx
 obtain ⟨_, r2, _⟩ := Nt.cor_core hy
 obtain ⟨_, r3, _⟩ := Nt.cor_core hz
 have l1 := ((Nt.cor_core hx).root_le hx).1
 have l2 := ((Nt.cor_core hy).root_le hy).1
 have l3 := ((Nt.cor_core hz).root_le hz).1
 have sq : ∀ r : Int, 1 ≤ r → r.natAbs * r.natAbs ≤ 31 → r ≤ 5 := by
  intro r h1 h2
  rcases Nat.lt_or_ge r.natAbs 6 with h | h
  · omega
  · have := Nat.mul_le_mul h h; omega
 have q1 := sq _ r1 (by omega)
 have q2 := sq _ r2 (by omega)
 have q3 := sq _ r3 (by omega)
 obtain ⟨_, _, ⟨m1, m2, m3⟩⟩ := hs.bds
 have mp := hs.2.1
 have cx := Nt.cor_le hx
 have cy := Nt.cor_le hy
 have cz := Nt.cor_le hz
 unfold spec_l5Normal.f
 refine Ev.succ ?_
 simp only [spec_l5Normal.l0]
 rw [show rd [x, y, z] 0 = x from rfl, show Int.tmod (wrap64 (0 + 1)) 3 = 1 by rw [w64 (by omega) (by omega)]; rfl, show Int.tmod (wrap64 (0 + 2)) 3 = 2 by rw [w64 (by omega) (by omega)]; rfl, show wrap64 (0 + 1) = 1 by rw [w64 (by omega) (by omega)]; rfl]
 refine Ev.pos (by omega) (Ev.pos (by omega) (Ev.pos (by simp) (Ev.bind (spec_l1Core_cor hx (by omega)) ?_)))
 dsimp only
 refine Ev.pos (by simp) (Ev.pos (by omega) (Ev.pos (by simp) (Ev.sbind ?_)))
 show Ev (fun k => _) _
 rw [show rd [(1 : Int), 1, 1] 1 = 1 from rfl, w64 (x := 1 * Nt.rt x) (by omega) (by omega), show [(1 : Int), 1, 1].set (1 : Int).toNat (1 * Nt.rt x) = [1, 1 * Nt.rt x, 1] from rfl]
 refine Ev.pos (by omega) (Ev.pos (by simp) ?_)
 rw [show rd [1, 1 * Nt.rt x, 1] 2 = 1 from rfl, w64 (x := 1 * Nt.rt x) (by omega) (by omega), show [1, 1 * Nt.rt x, 1].set (2 : Int).toNat (1 * Nt.rt x) = [1, 1 * Nt.rt x, 1 * Nt.rt x] from rfl]
 refine Ev.succ ?_
 simp only [spec_l5Normal.l0]
 rw [show rd [x, y, z] 1 = y from rfl, show Int.tmod (wrap64 (1 + 1)) 3 = 2 by rw [w64 (by omega) (by omega)]; rfl, show Int.tmod (wrap64 (1 + 2)) 3 = 0 by rw [w64 (by omega) (by omega)]; rfl, show wrap64 (1 + 1) = 2 by rw [w64 (by omega) (by omega)]; rfl]
 refine Ev.pos (by omega) (Ev.pos (by omega) (Ev.pos (by simp) (Ev.bind (spec_l1Core_cor hy (by omega)) ?_)))
 dsimp only
 refine Ev.pos (by simp) (Ev.pos (by omega) (Ev.pos (by simp) (Ev.sbind ?_)))
 show Ev (fun k => _) _
 rw [show rd [1, 1 * Nt.rt x, 1 * Nt.rt x] 2 = 1 * Nt.rt x from rfl, w64 (x := 1 * Nt.rt x * Nt.rt y) (by omega) (by omega), show [1, 1 * Nt.rt x, 1 * Nt.rt x].set (2 : Int).toNat (1 * Nt.rt x * Nt.rt y) = [1, 1 * Nt.rt x, 1 * Nt.rt x * Nt.rt y] from rfl]
 refine Ev.pos (by omega) (Ev.pos (by simp) ?_)
 rw [show rd [1, 1 * Nt.rt x, 1 * Nt.rt x * Nt.rt y] 0 = 1 from rfl, w64 (x := 1 * Nt.rt y) (by omega) (by omega), show [1, 1 * Nt.rt x, 1 * Nt.rt x * Nt.rt y].set (0 : Int).toNat (1 * Nt.rt y) = [1 * Nt.rt y, 1 * Nt.rt x, 1 * Nt.rt x * Nt.rt y] from rfl]
 refine Ev.succ ?_
 simp only [spec_l5Normal.l0]
 rw [show rd [x, y, z] 2 = z from rfl, show Int.tmod (wrap64 (2 + 1)) 3 = 0 by rw [w64 (by omega) (by omega)]; rfl, show Int.tmod (wrap64 (2 + 2)) 3 = 1 by rw [w64 (by omega) (by omega)]; rfl, show wrap64 (2 + 1) = 3 by rw [w64 (by omega) (by omega)]; rfl]
 refine Ev.pos (by omega) (Ev.pos (by omega) (Ev.pos (by simp) (Ev.bind (spec_l1Core_cor hz (by omega)) ?_)))
 dsimp only
 refine Ev.pos (by simp) (Ev.pos (by omega) (Ev.pos (by simp) (Ev.sbind ?_)))
 show Ev (fun k => _) _
 rw [show rd [1 * Nt.rt y, 1 * Nt.rt x, 1 * Nt.rt x * Nt.rt y] 0 = 1 * Nt.rt y from rfl, w64 (x := 1 * Nt.rt y * Nt.rt z) (by omega) (by omega), show [1 * Nt.rt y, 1 * Nt.rt x, 1 * Nt.rt x * Nt.rt y].set (0 : Int).toNat (1 * Nt.rt y * Nt.rt z) = [1 * Nt.rt y * Nt.rt z, 1 * Nt.rt x, 1 * Nt.rt x * Nt.rt y] from rfl]
 refine Ev.pos (by omega) (Ev.pos (by simp) ?_)
 rw [show rd [1 * Nt.rt y * Nt.rt z, 1 * Nt.rt x, 1 * Nt.rt x * Nt.rt y] 1 = 1 * Nt.rt x from rfl, w64 (x := 1 * Nt.rt x * Nt.rt z) (by omega) (by omega), show [1 * Nt.rt y * Nt.rt z, 1 * Nt.rt x, 1 * Nt.rt x * Nt.rt y].set (1 : Int).toNat (1 * Nt.rt x * Nt.rt z) = [1 * Nt.rt y * Nt.rt z, 1 * Nt.rt x * Nt.rt z, 1 * Nt.rt x * Nt.rt y] from rfl]
 refine Ev.succ ?_
 simp only [spec_l5Normal.l0]
 refine Ev.neg (by omega) (Ev.bind (NI_two hs).1 ?_)
 exact spec_l5Normal_l 29791 _ _ _ _ _ _ hs hs.bds.1
/-- Normal terms and what belongs to them. -/
theorem nm3_ni {x y z : Int} (hx : x ≠ 0) (hy : y ≠ 0) (hz : z ≠ 0) (bx : x.natAbs ≤ 31) (by' : y.natAbs ≤ 31) (bz : z.natAbs ≤ 31) :
 ∃ a b c m n o, nm3 x y z = ([a, b, c], [m, n, o]) ∧ NI x y z a b c m n o ∧ (a * b * c).natAbs ≤ (Nt.cor x * Nt.cor y * Nt.cor z).natAbs ∧ (Nat.gcd a.natAbs b.natAbs ≤ 1 ∧ Nat.gcd c.natAbs a.natAbs ≤ 1 ∧ Nat.gcd b.natAbs c.natAbs ≤ 1) := by
 have hs := ni_start hx hy hz bx by' bz
 exact nrm_ni 29791 _ _ _ _ _ _ hs hs.bds.1
theorem sq_lts {x y : Int} (h0 : 0 ≤ x) (h : x < y) : x * x < y * y := by
 have h1 : x * x ≤ x * y := Int.mul_le_mul_of_nonneg_left (by omega) h0
 have h2 : x * y < y * y := Int.mul_lt_mul_of_pos_right h (by omega)
 omega
/-- A zero within the bounds of the search. -/
def Good (a b c x y z : Int) : Prop := 0 ≤ x ∧ 0 ≤ y ∧ 0 ≤ z ∧ x * x ≤ ((b * c).natAbs : Int) ∧ y * y ≤ ((a * c).natAbs : Int) ∧ (x ≠ 0 ∨ y ≠ 0) ∧ a * (x * x) + b * (y * y) + c * (z * z) = 0
/-- None has come so far. -/
def NB (a b c x y : Int) : Prop := ∀ x' y' z', Good a b c x' y' z' → ¬ (x' < x ∨ (x' = x ∧ y' < y))
/-- The first zero, or none. -/
def IsFirst (a b c : Int) (res : List Int × Bool) : Prop :=
 (∃ x y z, res = ([x, y, z], true) ∧ Good a b c x y z ∧ NB a b c x y) ∨ (res = ([], false) ∧ ∀ x y z, ¬ Good a b c x y z)
theorem IsFirst.uniq {a b c : Int} (hc : c ≠ 0) {r s : List Int × Bool} (h : IsFirst a b c r) (h' : IsFirst a b c s) : r = s := by
 rcases h with ⟨x, y, z, rfl, g, n⟩ | ⟨rfl, n⟩ <;> rcases h' with ⟨x', y', z', rfl, g', n'⟩ | ⟨rfl, n'⟩
 · have h1 := n _ _ _ g'
   have h2 := n' _ _ _ g
   obtain rfl : x = x' := by omega
   obtain rfl : y = y' := by omega
   obtain ⟨_, _, z0, _, _, _, e⟩ := g
   obtain ⟨_, _, z0', _, _, _, e'⟩ := g'
   have e2 : c * (z * z) = c * (z' * z') := by omega
   have e3 := Int.eq_of_mul_eq_mul_left hc e2
   have : z = z' := by
    rcases Int.lt_trichotomy z z' with h | h | h
    · have : z * z < z' * z' := sq_lts z0 h
      omega
    · exact h
    · have : z' * z' < z * z := sq_lts z0' h
      omega
   rw [this]
 · exact absurd g (n' _ _ _)
 · exact absurd g' (n _ _ _)
 · rfl
theorem sq_mono {x y : Int} (hx : 0 ≤ x) (h : x * x < y * y) (hy : 0 ≤ y) : x < y := by
 rcases Int.lt_or_le x y with h1 | h1
 · exact h1
 · have := Int.mul_le_mul h1 h1 hy hx
   omega
theorem NB.next {a b c x y : Int} (h : NB a b c x y) (hn : ∀ z, ¬ Good a b c x y z) : NB a b c x (y + 1) := by
 intro x' y' z' g hlt
 have h1 := h x' y' z' g
 by_cases e : x' = x ∧ y' = y
 · obtain ⟨rfl, rfl⟩ := e
   exact hn z' g
 · omega
theorem NB.row {a b c x y : Int} (h : NB a b c x y) (hy : 0 ≤ y) (hn : ((a * c).natAbs : Int) < y * y) : NB a b c (x + 1) 0 := by
 intro x' y' z' g hlt
 have h1 := h x' y' z' g
 obtain ⟨_, y0, _, _, hy', _⟩ := g
 have := sq_mono y0 (show y' * y' < y * y by omega) hy
 omega
theorem NB.last {a b c x : Int} (h : NB a b c x 0) (hx : 0 ≤ x) (hn : ((b * c).natAbs : Int) < x * x) : ∀ x y z, ¬ Good a b c x y z := by
 intro x' y' z' g
 have h1 := h x' y' z' g
 obtain ⟨x0, _, _, hx', _⟩ := g
 have := sq_mono x0 (show x' * x' < x * x by omega) hx
 omega
theorem NB.start (a b c : Int) : NB a b c 0 0 := by
 intro x' y' z' g hlt
 have := g.1
 have := g.2.1
 omega
theorem sq174 {x : Int} (h0 : 0 ≤ x) (h : x * x ≤ 30000) : x ≤ 173 := by
 rcases Int.lt_or_le x 174 with h1 | h1
 · omega
 · have := Int.mul_le_mul h1 h1 (by omega) h0
   omega
/-- What the search asks of a pair. -/
theorem good_iff {a b c x y : Int} (hc : c ≠ 0) (h0 : 0 ≤ x) (h1 : 0 ≤ y) (hx : x * x ≤ ((b * c).natAbs : Int)) (hy : y * y ≤ ((a * c).natAbs : Int)) (z : Int) :
 Good a b c x y z ↔ 0 ≤ z ∧ (x ≠ 0 ∨ y ≠ 0) ∧ Int.tmod (-(a * x * x) - b * y * y) c = 0 ∧ Int.tdiv (-(a * x * x) - b * y * y) c = z * z := by
 have e : a * (x * x) + b * (y * y) + c * (z * z) = 0 ↔ -(a * x * x) - b * y * y = c * (z * z) := by
  rw [Int.mul_assoc a x x, Int.mul_assoc b y y]; omega
 unfold Good
 rw [e]
 constructor
 · rintro ⟨_, _, z0, _, _, hn, h⟩
   rw [h]
   exact ⟨z0, hn, Int.mul_tmod_right _ _, Int.mul_tdiv_cancel_left _ hc⟩
 · rintro ⟨z0, hn, h2, h3⟩
   refine ⟨h0, h1, z0, hx, hy, hn, ?_⟩
   have := Int.mul_tdiv_add_tmod (-(a * x * x) - b * y * y) c
   rw [h2, h3] at this
   omega
theorem axx_bd {a x : Int} (ha : a.natAbs ≤ 30000) (h0 : 0 ≤ x) (h : x ≤ 174) : (a * x).natAbs ≤ 5220000 ∧ (a * x * x).natAbs ≤ 908280000 := by
 have h1 : (a * x).natAbs ≤ 30000 * 174 := by rw [Int.natAbs_mul]; exact Nat.mul_le_mul ha (by omega)
 have h2 : (a * x * x).natAbs ≤ 30000 * 174 * 174 := by rw [Int.natAbs_mul]; exact Nat.mul_le_mul h1 (by omega)
 omega
theorem quot_bd {n c : Int} {m : Nat} (h : n.natAbs ≤ m) : (Int.tdiv n c).natAbs ≤ m := by
 rw [Int.natAbs_tdiv]
 exact Nat.le_trans (Nat.div_le_self _ _) h
theorem spec_l5Root_l {n : Int} (hn0 : 0 ≤ n) : ∀ (d : Nat) (lo hi : Int), (hi - lo).toNat ≤ d → 0 ≤ lo → lo ≤ hi → hi ≤ 1048576 → (∀ z, 0 ≤ z → z < lo → z * z < n) → (∀ z, hi < z → n < z * z) →
 ∃ r, ((0 ≤ r ∧ r * r = n) ∨ (r = -1 ∧ ∀ z, 0 ≤ z → z * z ≠ n)) ∧ Ev (fun k => spec_l5Root.l0 k n lo hi) r := by
 intro d
 induction d with
 | zero =>
  intro lo hi hd h0 h1 h2 h3 h4
  obtain rfl : lo = hi := by omega
  have hs : 0 ≤ lo * lo ∧ lo * lo ≤ 1048576 * 1048576 := ⟨Int.mul_nonneg h0 h0, Int.mul_le_mul h2 h2 h0 (by omega)⟩
  by_cases c : lo * lo = n
  · refine ⟨lo, .inl ⟨h0, c⟩, Ev.succ ?_⟩
    simp only [spec_l5Root.l0]
    rw [w64 (x := lo * lo) (by omega) (by omega)]
    exact Ev.neg (by omega) (Ev.pos c (Ev.now _))
  · refine ⟨-1, .inr ⟨rfl, fun z hz e => ?_⟩, Ev.succ ?_⟩
    · rcases Int.lt_trichotomy z lo with h | h | h
      · have := h3 z hz h; omega
      · subst h; exact c e
      · have := h4 z h; omega
    · simp only [spec_l5Root.l0]
      rw [w64 (x := lo * lo) (by omega) (by omega)]
      exact Ev.neg (by omega) (Ev.neg c (Ev.now _))
 | succ d ih =>
  intro lo hi hd h0 h1 h2 h3 h4
  by_cases c0 : lo < hi
  · obtain ⟨m, hm⟩ : ∃ m, m = (lo + hi) / 2 := ⟨_, rfl⟩
    have hm1 : lo ≤ m ∧ m < hi := by omega
    have hs : 0 ≤ m * m ∧ m * m ≤ 1048576 * 1048576 := ⟨Int.mul_nonneg (by omega) (by omega), Int.mul_le_mul (by omega) (by omega) (by omega) (by omega)⟩
    have e1 : wrap64 (Int.tdiv (wrap64 (lo + hi)) 2) = m := by
     rw [w64 (x := lo + hi) (by omega) (by omega), Int.tdiv_eq_ediv_of_nonneg (by omega), ← hm, w64 (by omega) (by omega)]
    by_cases c : m * m < n
    · obtain ⟨r, r1, r2⟩ := ih (m + 1) hi (by omega) (by omega) (by omega) h2 (fun z z0 hz => by
       have := Int.mul_le_mul (show z ≤ m by omega) (show z ≤ m by omega) z0 (by omega)
       omega) h4
      refine ⟨r, r1, Ev.succ ?_⟩
      simp only [spec_l5Root.l0]
      rw [e1, w64 (x := m * m) (by omega) (by omega), w64 (x := m + 1) (by omega) (by omega)]
      exact Ev.pos c0 (Ev.pos c r2)
    · obtain ⟨r, r1, r2⟩ := ih lo m (by omega) h0 (by omega) (by omega) h3 (fun z hz => by
       have := sq_lts (x := m) (y := z) (by omega) (by omega)
       omega)
      refine ⟨r, r1, Ev.succ ?_⟩
      simp only [spec_l5Root.l0]
      rw [e1, w64 (x := m * m) (by omega) (by omega)]
      exact Ev.pos c0 (Ev.neg c r2)
  · exact ih lo hi (by omega) h0 h1 h2 h3 h4
theorem spec_l5Root_ev {n : Int} (hn0 : 0 ≤ n) (hn : n ≤ 1000000000000) : ∃ r, ((0 ≤ r ∧ r * r = n) ∨ (r = -1 ∧ ∀ z, 0 ≤ z → z * z ≠ n)) ∧ Ev (fun k => spec_l5Root.f k n) r := by
 unfold spec_l5Root.f
 exact spec_l5Root_l hn0 1048576 0 1048576 (by omega) (by omega) (by omega) (by omega) (fun z h0 h => by omega) (fun z h => by
  have := sq_lts (x := 1048576) (y := z) (by omega) (by omega)
  omega)
section
variable {a b c : Int} (hc : c ≠ 0) (ha : a.natAbs ≤ 30000) (hb : b.natAbs ≤ 30000) (hbc : (b * c).natAbs ≤ 30000) (hac : (a * c).natAbs ≤ 30000)
include hc ha hb hbc hac
theorem spec_l5Search_l1 {x : Int} (h0 : 0 ≤ x) (hx : x * x ≤ ((b * c).natAbs : Int)) (hnext : NB a b c (x + 1) 0 → ∃ res, IsFirst a b c res ∧ Ev (fun k => spec_l5Search.l0 k a b c (x + 1)) res) :
 ∀ (d : Nat) (y : Int), (175 - y).toNat ≤ d → 0 ≤ y → y ≤ 174 → NB a b c x y → ∃ res, IsFirst a b c res ∧ Ev (fun k => spec_l5Search.l1 k a b c x y) res := by
 have hx173 := sq174 h0 (by omega)
 intro d
 induction d with
 | zero => intro y hd h1 h2 _; omega
 | succ d ih =>
  intro y hd h1 h2 hN
  have hyy : 0 ≤ y * y ∧ y * y ≤ 174 * 174 := ⟨Int.mul_nonneg h1 h1, Int.mul_le_mul h2 h2 h1 (by omega)⟩
  by_cases c1 : y * y ≤ ((a * c).natAbs : Int)
  · have hy173 := sq174 h1 (by omega)
    obtain ⟨a1, a2⟩ := axx_bd ha h0 (by omega)
    obtain ⟨b1, b2⟩ := axx_bd hb h1 (by omega)
    obtain ⟨n, hn⟩ : ∃ n, n = -(a * x * x) - b * y * y := ⟨_, rfl⟩
    have hnb : n.natAbs ≤ 1816560000 := by omega
    have hq := quot_bd (c := c) hnb
    have hg := good_iff hc h0 h1 hx c1
    rw [← hn] at hg
    have start : ∀ R, Ev (fun k => if Int.tmod n c = 0 then (if Int.tdiv n c < 0 then spec_l5Search.j2 k a b c x y n true else if x = 0 then spec_l5Search.j2 k a b c x y n (y == 0) else spec_l5Search.j2 k a b c x y n false) else spec_l5Search.j2 k a b c x y n true) R → Ev (fun k => spec_l5Search.l1 k a b c x y) R := by
     intro R h
     refine Ev.succ ?_
     simp only [spec_l5Search.l1]
     rw [w64 (x := a * c) (by omega) (by omega), spec_l1Size_eq (by omega), w64 (x := y * y) (by omega) (by omega), w64 (x := a * x) (by omega) (by omega), w64 (x := b * y) (by omega) (by omega), w64 (x := a * x * x) (by omega) (by omega), w64 (x := b * y * y) (by omega) (by omega), w64 (x := -(a * x * x)) (by omega) (by omega), w64 (x := -(a * x * x) - b * y * y) (by omega) (by omega), ← hn, w64 (x := Int.tdiv n c) (by omega) (by omega)]
     exact Ev.sbind (Ev.pos c1 (Ev.neg hc h))
    have skip : (∀ z, ¬ Good a b c x y z) → ∃ res, IsFirst a b c res ∧ Ev (fun k => spec_l5Search.j2 k a b c x y n true) res := by
     intro hno
     obtain ⟨res, r1, r2⟩ := ih (y + 1) (by omega) (by omega) (by omega) (hN.next hno)
     refine ⟨res, r1, Ev.succ ?_⟩
     simp only [spec_l5Search.j2]
     rw [w64 (x := y + 1) (by omega) (by omega)]
     exact Ev.pos (by simp) r2
    by_cases k1 : Int.tmod n c = 0
    · by_cases k2 : Int.tdiv n c < 0
      · obtain ⟨res, r1, r2⟩ := skip (fun z g => by
         have := ((hg z).1 g).2.2.2
         have := Int.mul_nonneg g.2.2.1 g.2.2.1
         omega)
        exact ⟨res, r1, start res (Ev.pos k1 (Ev.pos k2 r2))⟩
      · by_cases k3 : x = 0 ∧ y = 0
        · obtain ⟨res, r1, r2⟩ := skip (fun z g => by
           have := ((hg z).1 g).2.1
           omega)
          refine ⟨res, r1, start res (Ev.pos k1 (Ev.neg k2 (Ev.pos k3.1 ?_)))⟩
          rw [show (y == 0) = true by simp [k3.2]]
          exact r2
        · have look : ∃ res, IsFirst a b c res ∧ Ev (fun k => spec_l5Search.j2 k a b c x y n false) res := by
           obtain ⟨r, r1, r2⟩ := spec_l5Root_ev (n := Int.tdiv n c) (by omega) (by omega)
           rcases r1 with ⟨z0, hz⟩ | ⟨rfl, hz⟩
           · have g : Good a b c x y r := (hg r).2 ⟨z0, by omega, k1, hz.symm⟩
             refine ⟨([x, y, r], true), .inl ⟨x, y, r, rfl, g, hN⟩, Ev.succ ?_⟩
             simp only [spec_l5Search.j2]
             rw [w64 (x := Int.tdiv n c) (by omega) (by omega)]
             exact Ev.neg (by simp) (Ev.neg hc (Ev.bind r2 (Ev.pos z0 (Ev.now _))))
           · obtain ⟨res, s1, s2⟩ := ih (y + 1) (by omega) (by omega) (by omega) (hN.next (fun z g => hz z g.2.2.1 ((hg z).1 g).2.2.2.symm))
             refine ⟨res, s1, Ev.succ ?_⟩
             simp only [spec_l5Search.j2]
             rw [w64 (x := Int.tdiv n c) (by omega) (by omega), w64 (x := y + 1) (by omega) (by omega)]
             exact Ev.neg (by simp) (Ev.neg hc (Ev.bind r2 (Ev.neg (by omega) s2)))
          obtain ⟨res, r1, r2⟩ := look
          refine ⟨res, r1, start res (Ev.pos k1 (Ev.neg k2 ?_))⟩
          by_cases k4 : x = 0
          · refine Ev.pos k4 ?_
            rw [show (y == 0) = false by simp; omega]
            exact r2
          · exact Ev.neg k4 r2
    · obtain ⟨res, r1, r2⟩ := skip (fun z g => k1 ((hg z).1 g).2.2.1)
      exact ⟨res, r1, start res (Ev.neg k1 r2)⟩
  · obtain ⟨res, r1, r2⟩ := hnext (hN.row h1 (by omega))
    refine ⟨res, r1, Ev.succ ?_⟩
    simp only [spec_l5Search.l1]
    rw [w64 (x := a * c) (by omega) (by omega), spec_l1Size_eq (by omega), w64 (x := y * y) (by omega) (by omega), w64 (x := x + 1) (by omega) (by omega)]
    exact Ev.sbind (Ev.neg c1 r2)
theorem spec_l5Search_l0 : ∀ (d : Nat) (x : Int), (175 - x).toNat ≤ d → 0 ≤ x → x ≤ 174 → NB a b c x 0 → ∃ res, IsFirst a b c res ∧ Ev (fun k => spec_l5Search.l0 k a b c x) res := by
 intro d
 induction d with
 | zero => intro x hd h1 h2 _; omega
 | succ d ih =>
  intro x hd h1 h2 hN
  have hxx : 0 ≤ x * x ∧ x * x ≤ 174 * 174 := ⟨Int.mul_nonneg h1 h1, Int.mul_le_mul h2 h2 h1 (by omega)⟩
  by_cases c1 : x * x ≤ ((b * c).natAbs : Int)
  · have := sq174 h1 (by omega)
    obtain ⟨res, r1, r2⟩ := spec_l5Search_l1 hc ha hb hbc hac h1 c1 (ih (x + 1) (by omega) (by omega) (by omega)) 175 0 (by omega) (by omega) (by omega) hN
    refine ⟨res, r1, Ev.succ ?_⟩
    simp only [spec_l5Search.l0]
    rw [w64 (x := b * c) (by omega) (by omega), spec_l1Size_eq (by omega), w64 (x := x * x) (by omega) (by omega)]
    exact Ev.sbind (Ev.pos c1 r2)
  · refine ⟨([], false), .inr ⟨rfl, hN.last h1 (by omega)⟩, Ev.succ ?_⟩
    simp only [spec_l5Search.l0]
    rw [w64 (x := b * c) (by omega) (by omega), spec_l1Size_eq (by omega), w64 (x := x * x) (by omega) (by omega)]
    exact Ev.sbind (Ev.neg c1 (Ev.now _))
theorem spec_l5Search_ev : ∃ res, IsFirst a b c res ∧ Ev (fun k => spec_l5Search.f k [a, b, c]) res := by
 obtain ⟨res, r1, r2⟩ := spec_l5Search_l0 hc ha hb hbc hac 175 0 (by omega) (by omega) (by omega) (NB.start a b c)
 refine ⟨res, r1, ?_⟩
 unfold spec_l5Search.f
 exact Ev.pos (by simp) (Ev.pos (by simp) (Ev.pos (by simp) r2))
end
/-- The sign of the first integer that is not 0. -/
def sg : List Int → Int
 | [] => 1
 | x :: r => if x = 0 then sg r else if x < 0 then -1 else 1
theorem sg_pm : ∀ l : List Int, sg l = 1 ∨ sg l = -1
 | [] => .inl rfl
 | x :: r => by
  unfold sg
  split
  · exact sg_pm r
  · split <;> simp
/-- The plain vector. -/
def pln (l : List Int) : List Int := l.map fun x => sg l * (x / (gl l : Nat))
theorem pln_length (l : List Int) : (pln l).length = l.length := by simp [pln]
theorem gl_dvd {l : List Int} {x : Int} (h : x ∈ l) : ((gl l : Nat) : Int) ∣ x := by
 have := (gf_dvd l 0).2 x h
 exact Int.ofNat_dvd_left.2 this
theorem div_back {l : List Int} {x : Int} (h : x ∈ l) (h0 : gl l ≠ 0) : x = (gl l : Nat) * (x / (gl l : Nat)) := by
 rw [Int.mul_ediv_cancel' (gl_dvd h)]
theorem tdiv_sign {l : List Int} {x s : Int} (h : x ∈ l) (h0 : gl l ≠ 0) : Int.tdiv (s * x) (gl l : Nat) = s * (x / (gl l : Nat)) := by
 obtain ⟨q, hq⟩ := gl_dvd h
 have e : x / (gl l : Nat) = q := by rw [hq, Int.mul_ediv_cancel_left _ (by omega)]
 rw [e, hq, show s * ((gl l : Nat) * q) = (gl l : Nat) * (s * q) by grind, Int.mul_tdiv_cancel_left _ (by omega)]
theorem tdiv_sign' {l : List Int} {x s : Int} (h : x ∈ l) (h0 : gl l ≠ 0) (hs : s = 1 ∨ s = -1) : Int.tdiv x (s * (gl l : Nat)) = s * (x / (gl l : Nat)) := by
 rw [← tdiv_sign h h0]
 rcases hs with rfl | rfl
 · simp
 · rw [show (-1 : Int) * (gl l : Nat) = -(gl l : Nat) by omega, show (-1 : Int) * x = -x by omega, Int.tdiv_neg, Int.neg_tdiv]
theorem pln_bd {l : List Int} (h0 : gl l ≠ 0) {m : Nat} (h : ∀ x ∈ l, x.natAbs ≤ m) : ∀ x ∈ pln l, x.natAbs ≤ m := by
 intro y hy
 unfold pln at hy
 obtain ⟨x, hx, rfl⟩ := List.mem_map.1 hy
 have hb := h x hx
 have e := congrArg Int.natAbs (div_back hx h0)
 rw [Int.natAbs_mul, Int.natAbs_natCast] at e
 have h1 : (x / (gl l : Nat)).natAbs ≤ gl l * (x / (gl l : Nat)).natAbs := Nat.le_mul_of_pos_left _ (by omega)
 have : (sg l * (x / (gl l : Nat))).natAbs = (x / (gl l : Nat)).natAbs := by
  rcases sg_pm l with e | e <;> rw [e] <;> simp
 omega
theorem pln_back {l : List Int} (h0 : gl l ≠ 0) : l = (pln l).map ((sg l * (gl l : Nat)) * ·) := by
 unfold pln
 rw [List.map_map]
 refine (List.map_id l).symm.trans (List.map_congr_left fun x hx => ?_)
 have e := div_back hx h0
 have hs : sg l * sg l = 1 := by rcases sg_pm l with e | e <;> rw [e] <;> rfl
 simp only [id, Function.comp]
 calc x = (gl l : Nat) * (x / (gl l : Nat)) := e
  _ = (sg l * sg l) * ((gl l : Nat) * (x / (gl l : Nat))) := by rw [hs, Int.one_mul]
  _ = _ := by grind
theorem pln_gl {l : List Int} (h0 : gl l ≠ 0) : gl (pln l) = 1 := by
 have h := congrArg gl (pln_back h0)
 rw [gl_mul] at h
 have e : (sg l * ((gl l : Nat) : Int)).natAbs = gl l := by
  rcases sg_pm l with e | e <;> rw [e] <;> simp
 rw [e] at h
 have : gl l * 1 = gl l * gl (pln l) := by omega
 exact (Nat.eq_of_mul_eq_mul_left (by omega) this).symm
theorem sg_mul {c : Int} (hc : c ≠ 0) : ∀ l : List Int, (∃ x ∈ l, x ≠ 0) → sg (l.map (c * ·)) = (if c < 0 then -1 else 1) * sg l
 | [], h => by obtain ⟨x, hx, _⟩ := h; simp at hx
 | x :: r, h => by
  by_cases e : x = 0
  · subst e
    have : ∃ x ∈ r, x ≠ 0 := by
     obtain ⟨y, hy, h0⟩ := h
     rcases List.mem_cons.1 hy with rfl | hy
     · exact absurd rfl h0
     · exact ⟨y, hy, h0⟩
    have := sg_mul hc r this
    simpa [sg] using this
  · have hcx : c * x ≠ 0 := Int.mul_ne_zero hc e
    simp only [sg, List.map_cons]
    rw [if_neg hcx, if_neg e]
    rcases Int.lt_or_gt_of_ne hc with h1 | h1 <;> rcases Int.lt_or_gt_of_ne e with h2 | h2
    · have := Int.mul_pos_of_neg_of_neg h1 h2
      rw [if_neg (by omega), if_pos h1, if_pos h2]; rfl
    · have := Int.mul_neg_of_neg_of_pos h1 h2
      rw [if_pos this, if_pos h1, if_neg (by omega)]; rfl
    · have := Int.mul_neg_of_pos_of_neg h1 h2
      rw [if_pos this, if_neg (by omega), if_pos h2]; rfl
    · have := Int.mul_pos h1 h2
      rw [if_neg (by omega), if_neg (by omega), if_neg (by omega)]; rfl
theorem gl_some {l : List Int} : gl l ≠ 0 ↔ ∃ x ∈ l, x ≠ 0 := by
 constructor
 · intro h
   refine Classical.byContradiction fun hn => h (gl_zero.2 fun x hx => Classical.byContradiction fun hx0 => hn ⟨x, hx, hx0⟩)
 · rintro ⟨x, hx, h0⟩ h
   exact h0 (gl_zero.1 h x hx)
theorem pln_sg {l : List Int} (h0 : gl l ≠ 0) : sg (pln l) = 1 := by
 have h := congrArg sg (pln_back h0)
 have hp : gl (pln l) ≠ 0 := by rw [pln_gl h0]; omega
 have hc : sg l * ((gl l : Nat) : Int) ≠ 0 := by rcases sg_pm l with e | e <;> rw [e] <;> omega
 rw [sg_mul hc _ (gl_some.1 hp)] at h
 rcases sg_pm l with e | e <;> rcases sg_pm (pln l) with f | f <;> rw [e, f] at h
 · exact f
 · rw [if_neg (by omega)] at h; omega
 · exact f
 · rw [if_pos (by omega)] at h; omega
theorem pln_pln {l : List Int} (h0 : gl l ≠ 0) : pln (pln l) = pln l := by
 have h1 := pln_gl h0
 have h2 := pln_sg h0
 show (pln l).map (fun x => sg (pln l) * (x / ((gl (pln l) : Nat) : Int))) = pln l
 rw [h1, h2]
 refine (List.map_congr_left fun x _ => ?_).trans (List.map_id _)
 simp
theorem pln_mul {c : Int} (hc : c ≠ 0) {l : List Int} (h0 : gl l ≠ 0) : pln (l.map (c * ·)) = pln l := by
 have hs := sg_mul hc l (gl_some.1 h0)
 have hg := gl_mul c l
 unfold pln
 rw [hs, hg, List.map_map]
 refine List.map_congr_left fun x hx => ?_
 have e := div_back hx h0
 obtain ⟨q, hq⟩ : ∃ q, q = x / (gl l : Nat) := ⟨_, rfl⟩
 rw [← hq] at e ⊢
 simp only [Function.comp]
 have hG : ((gl l : Nat) : Int) ≠ 0 := by omega
 have key : c * x / ((c.natAbs * gl l : Nat) : Int) = (if c < 0 then -1 else 1) * q := by
  rw [Int.natCast_mul, e]
  rcases Int.lt_or_gt_of_ne hc with h1 | h1
  · rw [if_pos h1]
    have : (c.natAbs : Int) = -c := by omega
    rw [this, show c * ((gl l : Nat) * q) = (-c * (gl l : Nat)) * (-1 * q) by grind, Int.mul_ediv_cancel_left _ (Int.mul_ne_zero (by omega) hG)]
  · rw [if_neg (by omega)]
    have : (c.natAbs : Int) = c := by omega
    rw [this, show c * ((gl l : Nat) * q) = (c * (gl l : Nat)) * (1 * q) by grind, Int.mul_ediv_cancel_left _ (Int.mul_ne_zero (by omega) hG)]
 rw [key]
 split <;> grind
theorem impl_plain_l1 (L : List Int) (hL : Mid L) (h0 : gl L ≠ 0) (s : Int) (hs : s = 1 ∨ s = -1) : ∀ (r o : List Int) (i : Nat), L.drop i = r → o.length ≤ i →
 Ev (fun k => impl_plain.l1 k (s * ((gl L : Nat) : Int)) o L (L.length : Int) (i : Int)) (o ++ r.map fun x => s * (x / (gl L : Nat)))
 | [], o, i, h, ho => by
  have := drop_nil h
  refine Ev.succ ?_
  simp only [impl_plain.l1]
  exact Ev.neg (by omega) (Ev.ret (by simp))
 | x :: r, o, i, h, ho => by
  obtain ⟨h1, h2, h3⟩ := drop_cons h
  have hx : x ∈ L := h2 ▸ rd_mem h1
  have hb := hL.2 x hx
  have hl := hL.1
  have hd0 : s * ((gl L : Nat) : Int) ≠ 0 := by rcases hs with e | e <;> rw [e] <;> omega
  have hq : (s * (x / (gl L : Nat))).natAbs ≤ 1000000000000 := by
   have e := congrArg Int.natAbs (div_back hx h0)
   rw [Int.natAbs_mul, Int.natAbs_natCast] at e
   have h1 : (x / (gl L : Nat)).natAbs ≤ gl L * (x / (gl L : Nat)).natAbs := Nat.le_mul_of_pos_left _ (by omega)
   rcases hs with rfl | rfl
   · rw [Int.one_mul]; omega
   · rw [Int.natAbs_mul]; simp only [Int.reduceNeg, Int.natAbs_neg, Int.natAbs_one, Nat.one_mul]; omega
  refine Ev.succ ?_
  simp only [impl_plain.l1]
  rw [h2, tdiv_sign' hx h0 hs, w64 (x := s * (x / (gl L : Nat))) (by omega) (by omega), w64 (x := (i : Int) + 1) (by omega) (by omega), cast_succ]
  refine Ev.pos (by omega) (Ev.pos (by omega) (Ev.pos (by omega) (Ev.neg hd0 (Ev.pos (by omega) ?_))))
  exact Ev.to (impl_plain_l1 L hL h0 s hs r _ (i + 1) h3 (by simp; omega)) (by simp)
theorem gl_bd {L : List Int} (hL : Mid L) (h0 : gl L ≠ 0) : gl L ≤ 1000000000000 := by
 obtain ⟨x, hx, hx0⟩ := gl_some.1 h0
 have h1 := (gf_dvd L 0).2 x hx
 have h2 := hL.2 x hx
 have := Nat.le_of_dvd (by omega) h1
 unfold gl
 omega
theorem impl_plain_l0 (L : List Int) (hL : Mid L) (h0 : gl L ≠ 0) : ∀ (r : List Int) (i : Nat), L.drop i = r →
 Ev (fun k => impl_plain.l0 k L ((gl L : Nat) : Int) L (L.length : Int) (i : Int)) (L.map fun x => sg r * (x / (gl L : Nat)))
 | [], i, h => by
  have := drop_nil h
  refine Ev.succ ?_
  simp only [impl_plain.l0]
  refine Ev.neg (by omega) (Ev.succ ?_)
  simp only [impl_plain.j1]
  have := impl_plain_l1 L hL h0 1 (.inl rfl) L [] 0 rfl (by simp)
  simpa [sg] using this
 | x :: r, i, h => by
  obtain ⟨h1, h2, h3⟩ := drop_cons h
  have hl := hL.1
  have hg := gl_bd hL h0
  refine Ev.succ ?_
  simp only [impl_plain.l0]
  rw [h2, w64 (x := (i : Int) + 1) (by omega) (by omega), cast_succ]
  refine Ev.pos (by omega) (Ev.pos (by omega) (Ev.pos (by omega) ?_))
  by_cases c : x = 0
  · refine Ev.pos c (Ev.to (impl_plain_l0 L hL h0 r (i + 1) h3) ?_)
    simp [sg, c]
  · refine Ev.neg c ?_
    by_cases c2 : x < 0
    · refine Ev.pos c2 (Ev.succ ?_)
      simp only [impl_plain.j1]
      have := impl_plain_l1 L hL h0 (-1) (.inr rfl) L [] 0 rfl (by simp)
      rw [w64 (by omega) (by omega)]
      simpa [sg, c, c2] using this
    · refine Ev.neg c2 (Ev.succ ?_)
      simp only [impl_plain.j1]
      have := impl_plain_l1 L hL h0 1 (.inl rfl) L [] 0 rfl (by simp)
      simpa [sg, c, c2] using this
theorem impl_plain_ev {L : List Int} (hL : Mid L) (h0 : gl L ≠ 0) : Ev (fun k => impl_plain.f k L) (pln L) := by
 unfold impl_plain.f
 exact Ev.bind (impl_gcd_ev hL) (impl_plain_l0 L hL h0 L 0 rfl)
theorem gf_bd (L : List Int) (hL : Mid L) {g : Nat} (hg : g ≤ 1000000000000) {x : Int} (hx : x ∈ L) : Nat.gcd g x.natAbs ≤ 1000000000000 := by
 have := hL.2 x hx
 by_cases h : g = 0
 · subst h; simpa using this
 · exact Nat.le_trans (Nat.gcd_le_left _ (by omega)) hg
theorem spec_l5Plain_l1 (L : List Int) (hL : Mid L) (h0 : gl L ≠ 0) (s : Int) (hs : s = 1 ∨ s = -1) : ∀ (r o : List Int) (i : Nat), L.drop i = r → o.length ≤ i →
 Ev (fun k => spec_l5Plain.l1 k L ((gl L : Nat) : Int) s o (i : Int)) (o ++ r.map fun x => s * (x / (gl L : Nat)))
 | [], o, i, h, ho => by
  have := drop_nil h
  refine Ev.succ ?_
  simp only [spec_l5Plain.l1]
  exact Ev.neg (by omega) (Ev.ret (by simp))
 | x :: r, o, i, h, ho => by
  obtain ⟨h1, h2, h3⟩ := drop_cons h
  have hx : x ∈ L := h2 ▸ rd_mem h1
  have hb := hL.2 x hx
  have hl := hL.1
  have hsx : -1000000000000 ≤ s * x ∧ s * x ≤ 1000000000000 := by rcases hs with e | e <;> rw [e] <;> omega
  have hq : (s * (x / (gl L : Nat))).natAbs ≤ 1000000000000 := by
   have e := congrArg Int.natAbs (div_back hx h0)
   rw [Int.natAbs_mul, Int.natAbs_natCast] at e
   have h1 : (x / (gl L : Nat)).natAbs ≤ gl L * (x / (gl L : Nat)).natAbs := Nat.le_mul_of_pos_left _ (by omega)
   rcases hs with rfl | rfl
   · rw [Int.one_mul]; omega
   · rw [Int.natAbs_mul]; simp only [Int.reduceNeg, Int.natAbs_neg, Int.natAbs_one, Nat.one_mul]; omega
  refine Ev.succ ?_
  simp only [spec_l5Plain.l1]
  rw [h2, w64 (x := s * x) (by omega) (by omega), tdiv_sign hx h0, w64 (x := s * (x / (gl L : Nat))) (by omega) (by omega), w64 (x := (i : Int) + 1) (by omega) (by omega), cast_succ]
  refine Ev.pos (by omega) (Ev.pos (by omega) (Ev.neg (by omega) (Ev.pos (by omega) ?_)))
  exact Ev.to (spec_l5Plain_l1 L hL h0 s hs r _ (i + 1) h3 (by simp; omega)) (by simp)
theorem spec_l5Plain_l0 (L : List Int) (hL : Mid L) (res : List Int) : ∀ (r : List Int) (i g : Nat) (s : Int) (b : Bool), L.drop i = r → g ≤ 1000000000000 → (b = true → s = 1) →
 Ev (fun k => spec_l5Plain.l1 k L ((gf g r : Nat) : Int) (if b = true then sg r else s) [] 0) res → Ev (fun k => spec_l5Plain.l0 k L (g : Int) s b (i : Int)) res
 | [], i, g, s, b, h, hg, hb, hr => by
  have := drop_nil h
  refine Ev.succ ?_
  simp only [spec_l5Plain.l0]
  refine Ev.neg (by omega) ?_
  cases b with
  | false => exact hr
  | true => rw [hb rfl]; exact hr
 | x :: r, i, g, s, b, h, hg, hb, hr => by
  obtain ⟨h1, h2, h3⟩ := drop_cons h
  have hx : x ∈ L := h2 ▸ rd_mem h1
  have hxb := hL.2 x hx
  have hl := hL.1
  have hg2 := gf_bd L hL hg hx
  refine Ev.succ ?_
  simp only [spec_l5Plain.l0]
  rw [h2]
  refine Ev.pos (by omega) (Ev.pos (by omega) (Ev.bind (spec_l1Gcd_ev (a := (g : Int)) (by omega) hxb) ?_))
  rw [Int.natAbs_natCast]
  have next : ∀ (s' : Int) (b' : Bool), (b' = true → s' = 1) → (if b' = true then sg r else s') = (if b = true then sg (x :: r) else s) →
   Ev (fun k => spec_l5Plain.l0 k L ((Nat.gcd g x.natAbs : Nat) : Int) s' b' ((i + 1 : Nat) : Int)) res := by
   intro s' b' hb' he
   refine spec_l5Plain_l0 L hL res r (i + 1) _ s' b' h3 hg2 hb' ?_
   rw [he]; exact hr
  by_cases c : x = 0
  · refine Ev.pos c (Ev.succ ?_)
    simp only [spec_l5Plain.j1]
    rw [w64 (x := (i : Int) + 1) (by omega) (by omega), cast_succ]
    refine Ev.neg (by simp) (next s b hb ?_)
    simp [sg, c]
  · refine Ev.neg c (Ev.succ ?_)
    simp only [spec_l5Plain.j1]
    rw [h2, w64 (x := (i : Int) + 1) (by omega) (by omega), cast_succ]
    cases b with
    | false => exact Ev.neg (by simp) (next s false hb rfl)
    | true =>
     refine Ev.pos (by simp) (Ev.pos (by omega) (Ev.pos (by omega) ?_))
     by_cases c2 : x < 0
     · exact Ev.pos c2 (next (-1) false (by simp) (by simp [sg, c, c2]))
     · refine Ev.neg c2 (next s false (by simp) ?_)
       rw [hb rfl]
       simp [sg, c, c2]
theorem spec_l5Plain_ev {L : List Int} (hL : Mid L) (h0 : gl L ≠ 0) : Ev (fun k => spec_l5Plain.f k L) (pln L) := by
 unfold spec_l5Plain.f
 refine spec_l5Plain_l0 L hL _ L 0 0 1 true rfl (by omega) (fun _ => rfl) ?_
 rw [if_pos rfl]
 exact Ev.to (spec_l5Plain_l1 L hL h0 (sg L) (sg_pm L) L [] 0 rfl (by simp)) (by simp [pln])
theorem Good.bd {a b c x y z : Int} (hc : c ≠ 0) (h : Good a b c x y z) (hp : (a * b * c).natAbs ≤ 29791) (ha : a ≠ 0) (hb : b ≠ 0) : x ≤ 173 ∧ y ≤ 173 ∧ z ≤ 59582 := by
 obtain ⟨h1, h2, h3, h4, h5, h6, h7⟩ := h
 have e1 : (b * c).natAbs ≤ (a * b * c).natAbs := by rw [show a * b * c = b * c * a by grind]; exact abs_le_mul ha
 have e2 : (a * c).natAbs ≤ (a * b * c).natAbs := by rw [show a * b * c = a * c * b by grind]; exact abs_le_mul hb
 have hxx := Int.mul_nonneg h1 h1
 have hyy := Int.mul_nonneg h2 h2
 have k1 : (a * (x * x)).natAbs ≤ 29791 := by
  have h : (x * x).natAbs ≤ (b * c).natAbs := by omega
  have := Nat.mul_le_mul_left a.natAbs h
  rw [← Int.natAbs_mul, ← Int.natAbs_mul, show a * (b * c) = a * b * c by grind] at this
  omega
 have k2 : (b * (y * y)).natAbs ≤ 29791 := by
  have h : (y * y).natAbs ≤ (a * c).natAbs := by omega
  have := Nat.mul_le_mul_left b.natAbs h
  rw [← Int.natAbs_mul, ← Int.natAbs_mul, show b * (a * c) = a * b * c by grind] at this
  omega
 have k3 : (z * z).natAbs ≤ (c * (z * z)).natAbs := by rw [Int.mul_comm c]; exact abs_le_mul hc
 have k4 : z.natAbs ≤ 59582 := by
  by_cases e : z = 0
  · omega
  · have := abs_le_mul (x := z) e
    omega
 exact ⟨sq174 h1 (by omega), sq174 h2 (by omega), by omega⟩
theorem mul_mid {m x : Int} (hm : 1 ≤ m) (hm2 : m ≤ 29791) (hx : 0 ≤ x) (hx2 : x ≤ 59582) : 0 ≤ m * x ∧ m * x ≤ 2000000000 ∧ (x ≠ 0 → m * x ≠ 0) := by
 have h1 := Int.mul_nonneg (show 0 ≤ m by omega) hx
 have h2 : m * x ≤ 29791 * 59582 := Int.mul_le_mul hm2 hx2 hx (by omega)
 exact ⟨h1, by omega, fun h => Int.mul_ne_zero (by omega) h⟩
theorem spec_l5Three_ev {x y z : Int} (hx : x ≠ 0) (hy : y ≠ 0) (hz : z ≠ 0) (bx : x.natAbs ≤ 31) (by' : y.natAbs ≤ 31) (bz : z.natAbs ≤ 31) :
 ∃ res, (res = (([] : List Int), false) ∨ ∃ p q r : Int, res = ([p, q, r], true) ∧ gl [p, q, r] ≠ 0 ∧ p.natAbs ≤ 2000000000 ∧ q.natAbs ≤ 2000000000 ∧ r.natAbs ≤ 2000000000) ∧ Ev (fun k => spec_l5Three.f k [x, y, z]) res := by
 obtain ⟨a, b, c, m, n, o, e, hni, _⟩ := nm3_ni hx hy hz bx by' bz
 obtain ⟨⟨ha, hb, hc⟩, ⟨hm, hn, ho⟩, _⟩ := id hni
 obtain ⟨hp, ⟨ba, bb, bc⟩, ⟨bm, bn, bo⟩⟩ := hni.bds
 have e1 : (b * c).natAbs ≤ (a * b * c).natAbs := by rw [show a * b * c = b * c * a by grind]; exact abs_le_mul ha
 have e2 : (a * c).natAbs ≤ (a * b * c).natAbs := by rw [show a * b * c = a * c * b by grind]; exact abs_le_mul hb
 have hN := spec_l5Normal_ev hx hy hz bx by' bz
 rw [e] at hN
 obtain ⟨res, r1, r2⟩ := spec_l5Search_ev (a := a) (b := b) hc (by omega) (by omega) (by omega) (by omega)
 rcases r1 with ⟨u, v, w, rfl, g, _⟩ | ⟨rfl, _⟩
 · obtain ⟨u2, v2, w2⟩ := g.bd hc hp ha hb
   obtain ⟨u0, v0, w0, _, _, huv, _⟩ := g
   obtain ⟨m1, m2, m3⟩ := mul_mid hm bm u0 (by omega)
   obtain ⟨n1, n2, n3⟩ := mul_mid hn bn v0 (by omega)
   obtain ⟨o1, o2, o3⟩ := mul_mid ho bo w0 (by omega)
   have hg : gl [m * u, n * v, o * w] ≠ 0 := gl_some.2 (huv.elim (fun h => ⟨m * u, by simp, m3 h⟩) (fun h => ⟨n * v, by simp, n3 h⟩))
   have hM : Mid [m * u, n * v, o * w] := ⟨by simp, by
    intro t ht
    simp only [List.mem_cons, List.not_mem_nil, or_false] at ht
    rcases ht with rfl | rfl | rfl <;> omega⟩
   have hb := pln_bd hg (m := 2000000000) (by
    intro t ht
    simp only [List.mem_cons, List.not_mem_nil, or_false] at ht
    rcases ht with rfl | rfl | rfl <;> omega)
   have hgp := pln_gl hg
   obtain ⟨p, q, r, hpq⟩ : ∃ p q r, pln [m * u, n * v, o * w] = [p, q, r] := ⟨_, _, _, rfl⟩
   refine ⟨([p, q, r], true), .inr ⟨p, q, r, rfl, by rw [← hpq, hgp]; omega, ?_, ?_, ?_⟩, ?_⟩
   · exact hb p (by rw [hpq]; simp)
   · exact hb q (by rw [hpq]; simp)
   · exact hb r (by rw [hpq]; simp)
   · unfold spec_l5Three.f
     refine Ev.bind hN (Ev.bind r2 (Ev.pos rfl (Ev.pos (by simp) (Ev.pos (by simp) (Ev.pos (by simp) (Ev.pos (by simp) (Ev.pos (by simp) (Ev.pos (by simp) ?_))))))))
     dsimp only
     rw [show rd [m, n, o] 0 = m from rfl, show rd [m, n, o] 1 = n from rfl, show rd [m, n, o] 2 = o from rfl, show rd [u, v, w] 0 = u from rfl, show rd [u, v, w] 1 = v from rfl, show rd [u, v, w] 2 = w from rfl]
     rw [w64 (x := m * u) (by omega) (by omega), w64 (x := n * v) (by omega) (by omega), w64 (x := o * w) (by omega) (by omega)]
     exact Ev.bind (spec_l5Plain_ev hM hg) (Ev.ret (by rw [hpq]))
 · refine ⟨([], false), .inl rfl, ?_⟩
   unfold spec_l5Three.f
   exact Ev.bind hN (Ev.bind r2 (Ev.neg (by simp) (Ev.now _)))
/-- What is found is a vector, not all 0, of moderate size, or nothing. -/
def FR (res : List Int × Bool) : Prop := res = ([], false) ∨ (res.2 = true ∧ res.1.length ≤ 4 ∧ ∀ x ∈ res.1, x.natAbs ≤ 100000000000)
theorem FR.plain {l : List Int} (hl : l.length ≤ 4) (hb : ∀ x ∈ l, x.natAbs ≤ 100000000000) (h0 : gl l ≠ 0) : Mid l ∧ FR (pln l, true) :=
 ⟨⟨by omega, fun x hx => by have := hb x hx; omega⟩, .inr ⟨rfl, by rw [pln_length]; exact hl, pln_bd h0 hb⟩⟩
section
variable {s t u v : Int} (hs : s ≠ 0 ∧ s.natAbs ≤ 31) (ht : t ≠ 0 ∧ t.natAbs ≤ 31) (hu : u ≠ 0 ∧ u.natAbs ≤ 31) (hv : v ≠ 0 ∧ v.natAbs ≤ 31)
include hs ht hu hv
set_option maxHeartbeats 2000000 in
theorem spec_l5Four_j2 {x y : Int} (hx : 0 ≤ x ∧ x ≤ 3) (hy : 0 ≤ y ∧ y ≤ 3) (hn : ¬ (x = 0 ∧ y = 0)) (hnext : ∃ res, FR res ∧ Ev (fun k => spec_l5Four.l1 k [s, t, u, v] x (wrap64 (y + 1))) res) :
 ∃ res, FR res ∧ Ev (fun k => spec_l5Four.j2 k [s, t, u, v] x y false) res := by
 have bsx : (s * x).natAbs ≤ 93 := by rw [Int.natAbs_mul]; exact Nat.mul_le_mul hs.2 (show x.natAbs ≤ 3 by omega)
 have bsxx : (s * x * x).natAbs ≤ 279 := by rw [Int.natAbs_mul]; exact Nat.mul_le_mul bsx (show x.natAbs ≤ 3 by omega)
 have bty : (t * y).natAbs ≤ 93 := by rw [Int.natAbs_mul]; exact Nat.mul_le_mul ht.2 (show y.natAbs ≤ 3 by omega)
 have btyy : (t * y * y).natAbs ≤ 279 := by rw [Int.natAbs_mul]; exact Nat.mul_le_mul bty (show y.natAbs ≤ 3 by omega)
 obtain ⟨q, hq⟩ : ∃ q, q = s * x * x + t * y * y := ⟨_, rfl⟩
 have start : ∀ R, Ev (fun k => if q = 0 then ((spec_l5Plain.f k [x, y, 0, 0]).bind fun t => some (t, true)) else ((spec_l1Core.f k q).bind fun bt => ((spec_l1Size.f bt.1).bind fun t' => (if t' > 30 then spec_l5Four.l1 k [s, t, u, v] x (wrap64 (y + 1)) else ((spec_l5Three.f k [u, v, bt.1]).bind fun bu => (if bu.2 = true then (if 2 < (bu.1.length : Int) then (if 0 < (bu.1.length : Int) then (if 1 < (bu.1.length : Int) then ((spec_l5Plain.f k [wrap64 (x * rd bu.1 2), wrap64 (y * rd bu.1 2), wrap64 (bt.2 * rd bu.1 0), wrap64 (bt.2 * rd bu.1 1)]).bind fun t => some (t, true)) else none) else none) else none) else spec_l5Four.l1 k [s, t, u, v] x (wrap64 (y + 1)))))))) R →
  Ev (fun k => spec_l5Four.j2 k [s, t, u, v] x y false) R := by
  intro R h
  refine Ev.succ ?_
  simp only [spec_l5Four.j2]
  rw [show rd [s, t, u, v] 0 = s from rfl, show rd [s, t, u, v] 1 = t from rfl, show rd [s, t, u, v] 2 = u from rfl, show rd [s, t, u, v] 3 = v from rfl]
  rw [w64 (x := s * x) (by omega) (by omega), w64 (x := t * y) (by omega) (by omega), w64 (x := s * x * x) (by omega) (by omega), w64 (x := t * y * y) (by omega) (by omega), w64 (x := s * x * x + t * y * y) (by omega) (by omega), ← hq]
  refine Ev.neg (by simp) (Ev.pos (by simp) (Ev.pos (by simp) ?_))
  have h2 : (2 : Int) < (([s, t, u, v] : List Int).length : Int) := by simp
  have h3 : (3 : Int) < (([s, t, u, v] : List Int).length : Int) := by simp
  simp only [if_pos h2, if_pos h3]
  exact h
 by_cases c1 : q = 0
 · have h0 : gl [x, y, 0, 0] ≠ 0 := gl_some.2 (by
    by_cases e : x = 0
    · exact ⟨y, by simp, fun e' => hn ⟨e, e'⟩⟩
    · exact ⟨x, by simp, e⟩)
   obtain ⟨p1, p2⟩ := FR.plain (l := [x, y, 0, 0]) (by simp) (by
    intro z hz
    simp only [List.mem_cons, List.not_mem_nil, or_false] at hz
    rcases hz with rfl | rfl | rfl | rfl <;> omega) h0
   exact ⟨_, p2, start _ (Ev.pos c1 (Ev.bind (spec_l5Plain_ev p1 h0) (Ev.now _)))⟩
 · have hcl := ((Nt.cor_core c1).root_le c1).1
   have hcb := Nt.cor_le c1
   have hr1 := (Nt.cor_core c1).2.1
   have hr : Nt.rt q ≤ 23 := by
    rcases Nat.lt_or_ge (Nt.rt q).natAbs 24 with h | h
    · omega
    · have := Nat.mul_le_mul h h; omega
   by_cases c2 : ((Nt.cor q).natAbs : Int) > 30
   · obtain ⟨res, r1, r2⟩ := hnext
     exact ⟨res, r1, start res (Ev.neg c1 (Ev.bind (spec_l1Core_cor c1 (by omega)) (Ev.bind (by rw [spec_l1Size_eq (by omega)]; exact Ev.now _) (Ev.pos c2 r2))))⟩
   · obtain ⟨res, r1, r2⟩ := spec_l5Three_ev hu.1 hv.1 (Nt.cor_nz c1) hu.2 hv.2 (by omega)
     rcases r1 with rfl | ⟨p, q', r, rfl, g, b1, b2, b3⟩
     · obtain ⟨res, s1, s2⟩ := hnext
       exact ⟨res, s1, start res (Ev.neg c1 (Ev.bind (spec_l1Core_cor c1 (by omega)) (Ev.bind (by rw [spec_l1Size_eq (by omega)]; exact Ev.now _) (Ev.neg c2 (Ev.bind r2 (Ev.neg (by simp) s2))))))⟩
     · have mb : ∀ {k w : Int}, 0 ≤ k → k ≤ 23 → w.natAbs ≤ 2000000000 → (k * w).natAbs ≤ 46000000000 := by
        intro k w h1 h2 h3
        rw [Int.natAbs_mul]
        exact Nat.mul_le_mul (show k.natAbs ≤ 23 by omega) h3
       have d1 := mb hx.1 (by omega) b3
       have d2 := mb hy.1 (by omega) b3
       have d3 := mb (show 0 ≤ Nt.rt q by omega) hr b1
       have d4 := mb (show 0 ≤ Nt.rt q by omega) hr b2
       have h0 : gl [x * r, y * r, Nt.rt q * p, Nt.rt q * q'] ≠ 0 := gl_some.2 (by
        by_cases er : r = 0
        · obtain ⟨z, hz, z0⟩ := gl_some.1 g
          simp only [List.mem_cons, List.not_mem_nil, or_false] at hz
          rcases hz with rfl | rfl | rfl
          · exact ⟨Nt.rt q * z, by simp, Int.mul_ne_zero (by omega) z0⟩
          · exact ⟨Nt.rt q * z, by simp, Int.mul_ne_zero (by omega) z0⟩
          · exact absurd er z0
        · by_cases e : x = 0
          · exact ⟨y * r, by simp, Int.mul_ne_zero (fun e' => hn ⟨e, e'⟩) er⟩
          · exact ⟨x * r, by simp, Int.mul_ne_zero e er⟩)
       obtain ⟨p1, p2⟩ := FR.plain (l := [x * r, y * r, Nt.rt q * p, Nt.rt q * q']) (by simp) (by
        intro z hz
        simp only [List.mem_cons, List.not_mem_nil, or_false] at hz
        rcases hz with rfl | rfl | rfl | rfl <;> omega) h0
       refine ⟨_, p2, start _ (Ev.neg c1 (Ev.bind (spec_l1Core_cor c1 (by omega)) (Ev.bind (by rw [spec_l1Size_eq (by omega)]; exact Ev.now _) (Ev.neg c2 (Ev.bind r2 (Ev.pos rfl (Ev.pos (by simp) (Ev.pos (by simp) (Ev.pos (by simp) ?_)))))))))⟩
       dsimp only
       rw [show rd [p, q', r] 0 = p from rfl, show rd [p, q', r] 1 = q' from rfl, show rd [p, q', r] 2 = r from rfl, w64 (x := x * r) (by omega) (by omega), w64 (x := y * r) (by omega) (by omega), w64 (x := Nt.rt q * p) (by omega) (by omega), w64 (x := Nt.rt q * q') (by omega) (by omega)]
       exact Ev.bind (spec_l5Plain_ev p1 h0) (Ev.now _)
theorem spec_l5Four_l1 {x : Int} (hx : 0 ≤ x ∧ x ≤ 3) (hnext : ∃ res, FR res ∧ Ev (fun k => spec_l5Four.l0 k [s, t, u, v] (x + 1)) res) : ∀ (d : Nat) (y : Int), 0 ≤ y → y + d = 4 → ∃ res, FR res ∧ Ev (fun k => spec_l5Four.l1 k [s, t, u, v] x y) res := by
 intro d
 induction d with
 | zero =>
  intro y h0 h4
  obtain ⟨res, r1, r2⟩ := hnext
  refine ⟨res, r1, Ev.succ ?_⟩
  simp only [spec_l5Four.l1]
  rw [w64 (x := x + 1) (by omega) (by omega)]
  exact Ev.neg (by omega) r2
 | succ d ih =>
  intro y h0 h4
  have next : ∃ res, FR res ∧ Ev (fun k => spec_l5Four.l1 k [s, t, u, v] x (wrap64 (y + 1))) res := by
   rw [w64 (by omega) (by omega)]
   exact ih (y + 1) (by omega) (by omega)
  by_cases c : x = 0 ∧ y = 0
  · obtain ⟨res, r1, r2⟩ := next
    refine ⟨res, r1, Ev.succ ?_⟩
    simp only [spec_l5Four.l1]
    refine Ev.pos (by omega) (Ev.pos c.1 (Ev.succ ?_))
    simp only [spec_l5Four.j2]
    exact Ev.pos (by simp [c.2]) r2
  · obtain ⟨res, r1, r2⟩ := spec_l5Four_j2 hs ht hu hv hx (y := y) (by omega) c next
    refine ⟨res, r1, Ev.succ ?_⟩
    simp only [spec_l5Four.l1]
    refine Ev.pos (by omega) ?_
    by_cases e : x = 0
    · refine Ev.pos e ?_
      rw [show (y == 0) = false by simp; omega]
      exact r2
    · exact Ev.neg e r2
theorem spec_l5Four_l0 : ∀ (d : Nat) (x : Int), 0 ≤ x → x + d = 4 → ∃ res, FR res ∧ Ev (fun k => spec_l5Four.l0 k [s, t, u, v] x) res := by
 intro d
 induction d with
 | zero =>
  intro x h0 h4
  refine ⟨([], false), .inl rfl, Ev.succ ?_⟩
  simp only [spec_l5Four.l0]
  exact Ev.neg (by omega) (Ev.now _)
 | succ d ih =>
  intro x h0 h4
  obtain ⟨res, r1, r2⟩ := spec_l5Four_l1 hs ht hu hv (x := x) (by omega) (ih (x + 1) (by omega) (by omega)) 4 0 (by omega) (by omega)
  refine ⟨res, r1, Ev.succ ?_⟩
  simp only [spec_l5Four.l0]
  exact Ev.pos (by omega) r2
end
/-- The reference's search for a zero ends. -/
theorem spec_ZeroFind_ends {f : List Int} (hf : Md f) : ∃ res, FR res ∧ Ev (fun k => spec_ZeroFind.f k f) res := by
 have no : FR (([] : List Int), false) := .inl rfl
 unfold spec_ZeroFind.f
 by_cases hv : fv f = true
 · obtain ⟨h1, h2⟩ := fv_iff.1 hv
   match f, h1, h2, hf, hv with
   | [x], h1, _, hf, hv =>
    exact ⟨_, no, Ev.bind (spec_FormValid_ev hf) (Ev.pos hv (Ev.neg (by simp) (Ev.neg (by simp) (Ev.neg (by simp) (Ev.now _)))))⟩
   | [x, y], h1, _, hf, hv =>
    have hx := h1 x (by simp)
    have hy := h1 y (by simp)
    have cx := Nt.cor_le hx.1
    have cy := Nt.cor_le hy.1
    have lx := ((Nt.cor_core hx.1).root_le hx.1).1
    have ly := ((Nt.cor_core hy.1).root_le hy.1).1
    have rx := (Nt.cor_core hx.1).2.1
    have ry := (Nt.cor_core hy.1).2.1
    have bx : (Nt.rt x).natAbs ≤ 30 := by
     have := abs_le_mul (x := Nt.rt x) (y := Nt.rt x) (by omega)
     rw [Int.natAbs_mul] at this; omega
    have by' : (Nt.rt y).natAbs ≤ 30 := by
     have := abs_le_mul (x := Nt.rt y) (y := Nt.rt y) (by omega)
     rw [Int.natAbs_mul] at this; omega
    have start : ∀ R, Ev (fun k => if wrap64 (Nt.cor x + Nt.cor y) = 0 then ((spec_l5Plain.f k [Nt.rt y, Nt.rt x]).bind fun t => some (t, true)) else some (([] : List Int), false)) R → Ev (fun k => (spec_FormValid.f k [x, y]).bind fun t296 => (if t296 = true then (if (([x, y] : List Int).length : Int) = 2 then (if 0 < (([x, y] : List Int).length : Int) then ((spec_l1Core.f k (rd [x, y] 0)).bind fun bt301 => (if 1 < (([x, y] : List Int).length : Int) then ((spec_l1Core.f k (rd [x, y] 1)).bind fun bt304 => (if (wrap64 (bt301.1 + bt304.1)) = 0 then ((spec_l5Plain.f k (([bt304.2, bt301.2] : List Int))).bind fun t309 => (some (t309, true))) else (some ((([] : List Int)), false)))) else (none))) else (none)) else (if (([x, y] : List Int).length : Int) = 3 then ((spec_l5Three.f k [x, y]).bind fun bt315 => (some (bt315.1, bt315.2))) else (if (([x, y] : List Int).length : Int) = 4 then ((spec_l5Four.f k [x, y]).bind fun bt319 => (some (bt319.1, bt319.2))) else (some ((([] : List Int)), false))))) else (some ((([] : List Int)), false)))) R :=
     fun R h => Ev.bind (spec_FormValid_ev hf) (Ev.pos hv (Ev.pos (by simp) (Ev.pos (by simp) (Ev.bind (spec_l1Core_cor (N := x) hx.1 (by omega)) (Ev.pos (by simp) (Ev.bind (spec_l1Core_cor (N := y) hy.1 (by omega)) h))))))
    by_cases c : wrap64 (Nt.cor x + Nt.cor y) = 0
    · have h0 : gl [Nt.rt y, Nt.rt x] ≠ 0 := gl_some.2 ⟨Nt.rt y, by simp, by omega⟩
      obtain ⟨p1, p2⟩ := FR.plain (l := [Nt.rt y, Nt.rt x]) (by simp) (by
       intro z hz
       simp only [List.mem_cons, List.not_mem_nil, or_false] at hz
       rcases hz with rfl | rfl <;> omega) h0
      exact ⟨_, p2, start _ (Ev.pos c (Ev.bind (spec_l5Plain_ev p1 h0) (Ev.now _)))⟩
    · exact ⟨_, no, start _ (Ev.neg c (Ev.now _))⟩
   | [x, y, z], h1, _, hf, hv =>
    have hx := h1 x (by simp)
    have hy := h1 y (by simp)
    have hz := h1 z (by simp)
    obtain ⟨res, r1, r2⟩ := spec_l5Three_ev hx.1 hy.1 hz.1 (by omega) (by omega) (by omega)
    refine ⟨res, ?_, Ev.bind (spec_FormValid_ev hf) (Ev.pos hv (Ev.neg (by simp) (Ev.pos (by simp) (Ev.bind r2 (Ev.now _)))))⟩
    rcases r1 with rfl | ⟨p, q, r, rfl, _, b1, b2, b3⟩
    · exact no
    · refine .inr ⟨rfl, by simp, ?_⟩
      intro t ht
      simp only [List.mem_cons, List.not_mem_nil, or_false] at ht
      rcases ht with rfl | rfl | rfl <;> omega
   | [s, t, u, v], h1, _, hf, hv =>
    have hs := h1 s (by simp)
    have ht := h1 t (by simp)
    have hu := h1 u (by simp)
    have hv' := h1 v (by simp)
    obtain ⟨res, r1, r2⟩ := spec_l5Four_l0 (s := s) (t := t) (u := u) (v := v) ⟨hs.1, by omega⟩ ⟨ht.1, by omega⟩ ⟨hu.1, by omega⟩ ⟨hv'.1, by omega⟩ 4 0 (by omega) (by omega)
    refine ⟨res, r1, Ev.bind (spec_FormValid_ev hf) (Ev.pos hv (Ev.neg (by simp) (Ev.neg (by simp) (Ev.pos (by simp) ?_))))⟩
    unfold spec_l5Four.f
    exact Ev.bind r2 (Ev.now _)
 · exact ⟨_, no, Ev.bind (spec_FormValid_ev hf) (Ev.neg hv (Ev.now _))⟩
theorem l91Vector_l {b : List Int} (hb : BY b) (f : List Int) (n : Int) (hn : 0 ≤ n) (hn2 : n ≤ 1000) (hf : f.length ≤ 100) : ∀ (d : Nat) (o : List Int) (i : Nat) (p : Int), i + d = f.length → o.length = i → (∀ x ∈ o, -n ≤ x ∧ x ≤ n) → 0 ≤ p → p + d ≤ 1000000000000 →
 ∃ r, r.length = f.length ∧ (∀ x ∈ r, -n ≤ x ∧ x ≤ n) ∧ Ev (fun k => spec_l91Vector.l0 k f n o (i : Int) b p) (r, p + d) := by
 intro d
 induction d with
 | zero =>
  intro o i p hi ho hx hp hp2
  refine ⟨o, by omega, hx, Ev.succ ?_⟩
  simp only [spec_l91Vector.l0]
  exact Ev.neg (by omega) (Ev.ret (by simp))
 | succ d ih =>
  intro o i p hi ho hx hp hp2
  obtain ⟨r1, a1, a2, e1⟩ := pick_ev hb (n := 2 * n + 1) (p := p) (by omega) hp (by omega)
  obtain ⟨r, h1, h2, h3⟩ := ih (o ++ [r1 - n]) (i + 1) (p + 1) (by omega) (by simp [ho]) (by
   intro x h
   rcases List.mem_append.1 h with h | h
   · exact hx x h
   · rw [List.mem_singleton.1 h]; omega) (by omega) (by omega)
  refine ⟨r, h1, h2, Ev.succ ?_⟩
  simp only [spec_l91Vector.l0]
  rw [w64 (x := 2 * n) (by omega) (by omega), w64 (x := 2 * n + 1) (by omega) (by omega)]
  refine Ev.pos (by omega) (Ev.bind e1 (Ev.pos (by omega) ?_))
  dsimp only
  rw [w64 (x := r1 - n) (by omega) (by omega), w64 (x := (i : Int) + 1) (by omega) (by omega), cast_succ]
  refine Ev.to h3 ?_
  congr 1; omega
theorem spec_l91Vector_ev {b : List Int} (hb : BY b) {f : List Int} {n p : Int} (hn : 0 ≤ n) (hn2 : n ≤ 1000) (hf : f.length ≤ 100) (hp : 0 ≤ p) (hp2 : p ≤ 900000000000) :
 ∃ r, r.length = f.length ∧ (∀ x ∈ r, -n ≤ x ∧ x ≤ n) ∧ Ev (fun k => spec_l91Vector.f k b p f n) (r, p + f.length) := by
 unfold spec_l91Vector.f
 exact l91Vector_l hb f n hn hn2 hf f.length [] 0 p (by omega) rfl (by simp) hp (by omega)
theorem l92Zero_l (f v : List Int) (hv : v.length ≤ 4 ∧ ∀ x ∈ v, x.natAbs ≤ 100000000000) (c : Int) (hc : -3 ≤ c ∧ c ≤ 3) (b : List Int) (p : Int) : ∀ (r o : List Int) (i : Nat), v.drop i = r → o.length ≤ i →
 Ev (fun k => spec_l92Zero.l0 k f v o c (i : Int) b p) (f, o ++ r.map (c * ·), p)
 | [], o, i, h, ho => by
  have := drop_nil h
  refine Ev.succ ?_
  simp only [spec_l92Zero.l0]
  exact Ev.neg (by omega) (Ev.ret (by simp))
 | x :: r, o, i, h, ho => by
  obtain ⟨h1, h2, h3⟩ := drop_cons h
  have hx := hv.2 x (h2 ▸ rd_mem h1)
  have hl := hv.1
  have hb : (c * x).natAbs ≤ 3 * 100000000000 := by rw [Int.natAbs_mul]; exact Nat.mul_le_mul (by omega) hx
  refine Ev.succ ?_
  simp only [spec_l92Zero.l0]
  rw [h2, w64 (x := c * x) (by omega) (by omega), w64 (x := (i : Int) + 1) (by omega) (by omega), cast_succ]
  refine Ev.pos (by omega) (Ev.pos (by omega) (Ev.pos (by omega) ?_))
  exact Ev.to (l92Zero_l f v hv c hc b p r _ (i + 1) h3 (by simp; omega)) (by simp)
/-- A form and a vector are drawn. -/
theorem spec_l92Zero_ev {b : List Int} (hb : BY b) {p : Int} (hp : 0 ≤ p) (hp2 : p ≤ 1000) :
 ∃ f v q, Dz f ∧ Mid v ∧ v.length ≤ 4 ∧ Ev (fun k => spec_l92Zero.f k b p) (f, v, q) := by
 obtain ⟨r0, a1, a2, e0⟩ := pick_ev hb (n := 3) (p := p) (by omega) hp (by omega)
 obtain ⟨f, q, f1, f2, f3, f4, f5⟩ := spec_l92Form_ev hb (n := 2 + r0) (p := p + 1) (by omega) (by omega) (by omega) (by omega)
 obtain ⟨res, s1, s2⟩ := spec_ZeroFind_ends f1.md
 have vec : ∀ q', q ≤ q' → q' ≤ q + 10 → ∀ w : List Int, ∃ v q2, Mid v ∧ v.length ≤ 4 ∧ Ev (fun k => spec_l92Zero.j0 k f w false b q') (f, v, q2) := by
  intro q' h1 h2 w
  obtain ⟨v, v1, v2, v3⟩ := spec_l91Vector_ev hb (f := f) (n := 4) (p := q') (by omega) (by omega) (by have := f1.1; omega) (by omega) (by omega)
  refine ⟨v, q' + f.length, ⟨by have := f1.1; omega, fun x hx => by have := v2 x hx; omega⟩, by have := f1.1; omega, Ev.succ ?_⟩
  simp only [spec_l92Zero.j0]
  exact Ev.neg (by simp) (Ev.bind v3 (Ev.now _))
 have head : ∀ R, Ev (fun k => if res.2 = true then ((spec_l6Rd_pick.f k b q 4).bind fun bt => spec_l92Zero.j0 k f res.1 (decide (bt.1 > 0)) b bt.2) else spec_l92Zero.j0 k f res.1 false b q) R → Ev (fun k => spec_l92Zero.f k b p) R := by
  intro R h
  unfold spec_l92Zero.f
  refine Ev.bind e0 ?_
  dsimp only
  rw [w64 (x := 2 + r0) (by omega) (by omega)]
  exact Ev.bind f5 (Ev.bind s2 h)
 rcases s1 with rfl | ⟨h1, h2, h3⟩
 · obtain ⟨v, q2, v1, v2, v3⟩ := vec q (by omega) (by omega) []
   exact ⟨f, v, q2, f1, v1, v2, head _ (Ev.neg (by simp) v3)⟩
 · obtain ⟨r1, b1, b2, e1⟩ := pick_ev hb (n := 4) (p := q) (by omega) (by omega) (by omega)
   by_cases c : r1 > 0
   · obtain ⟨r2, b3, b4, e2⟩ := pick_ev hb (n := 5) (p := q + 1) (by omega) (by omega) (by omega)
     have hc : -3 ≤ rd [1, 2, -1, -3, 1] r2 ∧ rd [1, 2, -1, -3, 1] r2 ≤ 3 := by
      have : ∀ n ∈ List.range 5, -3 ≤ rd [1, 2, -1, -3, 1] (n : Int) ∧ rd [1, 2, -1, -3, 1] (n : Int) ≤ 3 := by unfold rd; decide
      have := this r2.toNat (by simp; omega)
      rwa [Int.toNat_of_nonneg b3] at this
     have hl := l92Zero_l f res.1 ⟨h2, h3⟩ _ hc b (q + 1 + 1) res.1 [] 0 rfl (by simp)
     refine ⟨f, res.1.map (rd [1, 2, -1, -3, 1] r2 * ·), q + 1 + 1, f1, ⟨by simp; omega, fun x hx => ?_⟩, by simp; omega, head _ (Ev.pos h1 (Ev.bind e1 ?_))⟩
     · obtain ⟨y, hy, rfl⟩ := List.mem_map.1 hx
       have := h3 y hy
       have : (rd [1, 2, -1, -3, 1] r2 * y).natAbs ≤ 3 * 100000000000 := by rw [Int.natAbs_mul]; exact Nat.mul_le_mul (by omega) this
       omega
     · rw [show decide (r1 > 0) = true by simpa using c]
       refine Ev.succ ?_
       simp only [spec_l92Zero.j0]
       exact Ev.pos (by simp) (Ev.sbind (Ev.bind e2 (Ev.pos b3 (Ev.pos (by simp; omega) hl))))
   · obtain ⟨v, q2, v1, v2, v3⟩ := vec (q + 1) (by omega) (by omega) res.1
     refine ⟨f, v, q2, f1, v1, v2, head _ (Ev.pos h1 (Ev.bind e1 ?_))⟩
     rw [show decide (r1 > 0) = false by simpa using c]
     exact v3
theorem impl_FormValid_l (xs : List Int) (hx : Md xs) : ∀ (r : List Int) (i : Nat), xs.drop i = r → Ev (fun k => impl_FormValid.l0 k xs xs (xs.length : Int) (i : Int)) (r.all okT && decide (1 ≤ xs.length ∧ xs.length ≤ 4))
 | [], i, h => by
  have := drop_nil h
  refine Ev.succ ?_
  simp only [impl_FormValid.l0]
  refine Ev.neg (by omega) ?_
  by_cases h1 : (xs.length : Int) ≥ 1
  · exact Ev.pos h1 (Ev.ret (by simp only [List.all_nil, Bool.true_and, decide_eq_decide]; omega))
  · exact Ev.neg h1 (Ev.ret (by simp only [List.all_nil, Bool.true_and]; symm; rw [decide_eq_false_iff_not]; omega))
 | t :: r, i, h => by
  obtain ⟨h1, h2, h3⟩ := drop_cons h
  have hb := hx.2 t (h2 ▸ rd_mem h1)
  have hl := hx.1
  refine Ev.succ ?_
  simp only [impl_FormValid.l0]
  rw [h2]
  refine Ev.pos (by omega) (Ev.pos (by omega) (Ev.pos (by omega) ?_))
  by_cases h0 : t = 0
  · exact Ev.pos h0 (Ev.ret (by simp [okT, h0]))
  · refine Ev.neg h0 ?_
    unfold impl_size.f
    rw [w64 (by omega) (by omega)]
    refine Ev.sbind ?_
    have hm : mx t (-t) = if t < 0 then -t else t := by unfold mx; split <;> split <;> omega
    rw [hm]
    by_cases hs : (if t < 0 then -t else t) > 30
    · refine Ev.pos hs (Ev.ret ?_)
      have : okT t = false := by unfold okT; simp; intro _ _; split at hs <;> omega
      simp [this]
    · refine Ev.neg hs ?_
      have : okT t = true := okT_iff.2 ⟨h0, by split at hs <;> omega, by split at hs <;> omega⟩
      rw [w64 (by omega) (by omega), cast_succ]
      refine Ev.to (impl_FormValid_l xs hx r (i + 1) h3) ?_
      simp [this]
theorem impl_FormValid_ev {xs : List Int} (hx : Md xs) : Ev (fun k => impl_FormValid.f k xs) (fv xs) := by
 unfold impl_FormValid.f
 exact impl_FormValid_l xs hx xs 0 rfl
/-- Does a vector fit? -/
def okV (m : Int) (x : Int) : Bool := decide (-m ≤ x ∧ x ≤ m)
def vOk (f v : List Int) (m : Int) : Bool := v.all (okV m) && decide (v.length = f.length)
theorem vOk_iff {f v : List Int} {m : Int} : vOk f v m = true ↔ (∀ x ∈ v, -m ≤ x ∧ x ≤ m) ∧ v.length = f.length := by
 unfold vOk okV; simp
theorem beq_dec (a b : Nat) : ((a : Int) == (b : Int)) = decide (a = b) := by
 by_cases h : a = b
 · subst h; simp
 · simp only [h, decide_false, beq_eq_false_iff_ne, ne_eq]; omega
theorem impl_vectorOk_l (f v : List Int) (m : Int) (hm : 0 ≤ m) (hm2 : m ≤ 1000000) (hl : v.length ≤ 1000000) : ∀ (r : List Int) (i : Nat), v.drop i = r → Ev (fun k => impl_vectorOk.l0 k f v m v (v.length : Int) (i : Int)) (r.all (okV m) && decide (v.length = f.length))
 | [], i, h => by
  have := drop_nil h
  refine Ev.succ ?_
  simp only [impl_vectorOk.l0]
  refine Ev.neg (by omega) (Ev.ret ?_)
  rw [beq_dec]; simp
 | t :: r, i, h => by
  obtain ⟨h1, h2, h3⟩ := drop_cons h
  refine Ev.succ ?_
  simp only [impl_vectorOk.l0]
  rw [h2, w64 (x := -m) (by omega) (by omega)]
  refine Ev.pos (by omega) (Ev.pos (by omega) (Ev.pos (by omega) ?_))
  by_cases c : -m ≤ t ∧ t ≤ m
  · refine Ev.neg (by omega) (Ev.neg (by omega) ?_)
    rw [w64 (by omega) (by omega), cast_succ]
    refine Ev.to (impl_vectorOk_l f v m hm hm2 hl r (i + 1) h3) ?_
    have : okV m t = true := by unfold okV; simpa using c
    simp [this]
  · have : okV m t = false := by unfold okV; simpa using c
    by_cases c1 : t < -m
    · exact Ev.pos c1 (Ev.ret (by simp [this]))
    · exact Ev.neg c1 (Ev.pos (by omega) (Ev.ret (by simp [this])))
theorem impl_vectorOk_ev {f v : List Int} {m : Int} (hm : 0 ≤ m) (hm2 : m ≤ 1000000) (hl : v.length ≤ 1000000) : Ev (fun k => impl_vectorOk.f k f v m) (vOk f v m) := by
 unfold impl_vectorOk.f
 exact impl_vectorOk_l f v m hm hm2 hl v 0 rfl
/-- The sum of terms and two vectors. -/
def pr3 : List Int → List Int → List Int → Int
 | t :: f, x :: v, y :: w => t * x * y + pr3 f v w
 | _, _, _ => 0
theorem abs_mul3 {t x y m n : Int} (ht : t.natAbs ≤ m.toNat) (hx : x.natAbs ≤ n.toNat) (hy : y.natAbs ≤ n.toNat) : (t * x * y).natAbs ≤ m.toNat * n.toNat * n.toNat := by
 rw [Int.natAbs_mul, Int.natAbs_mul]
 exact Nat.mul_le_mul (Nat.mul_le_mul ht hx) hy
/-- What the walk may lean on: terms and vectors are small. -/
def Sml (f v w : List Int) : Prop := f.length ≤ 4 ∧ v.length = f.length ∧ w.length = f.length ∧ (∀ t ∈ f, -31 ≤ t ∧ t ≤ 31) ∧ (∀ x ∈ v, -1000000 ≤ x ∧ x ≤ 1000000) ∧ (∀ x ∈ w, -1000000 ≤ x ∧ x ≤ 1000000)
theorem Sml.of {f v w : List Int} (hf : fv f = true) {m : Int} (hm : m ≤ 1000000) (hv : vOk f v m = true) (hw : vOk f w m = true) : Sml f v w := by
 obtain ⟨f1, f2, f3⟩ := fv_iff.1 hf
 obtain ⟨v1, v2⟩ := vOk_iff.1 hv
 obtain ⟨w1, w2⟩ := vOk_iff.1 hw
 exact ⟨f3, v2, w2, fun t ht => by have := f1 t ht; omega, fun t ht => by have := v1 t ht; omega, fun t ht => by have := w1 t ht; omega⟩
theorem mul3_bd {t x y : Int} (ht : -31 ≤ t ∧ t ≤ 31) (hx : -1000000 ≤ x ∧ x ≤ 1000000) (hy : -1000000 ≤ y ∧ y ≤ 1000000) : (-31000000 ≤ t * x ∧ t * x ≤ 31000000) ∧ (-31000000000000 ≤ t * x * y ∧ t * x * y ≤ 31000000000000) := by
 have h1 : (t * x).natAbs ≤ 31 * 1000000 := by rw [Int.natAbs_mul]; exact Nat.mul_le_mul (by omega) (by omega)
 have h2 : (t * x * y).natAbs ≤ 31 * 1000000 * 1000000 := by rw [Int.natAbs_mul]; exact Nat.mul_le_mul h1 (by omega)
 omega
theorem impl_pair_l (f v w : List Int) (hs : Sml f v w) : ∀ (r rv rw : List Int) (i : Nat) (n : Int), f.drop i = r → v.drop i = rv → w.drop i = rw → -31000000000000 * (i : Int) ≤ n → n ≤ 31000000000000 * (i : Int) →
 Ev (fun k => impl_pair.l0 k v w n f (f.length : Int) (i : Int)) (n + pr3 r rv rw)
 | [], rv, rw', i, n, h, h', h'', _, _ => by
  have := drop_nil h
  refine Ev.succ ?_
  simp only [impl_pair.l0]
  exact Ev.neg (by omega) (Ev.ret (by simp [pr3]))
 | t :: r, [], _, i, n, h, h', h'', _, _ => by
  obtain ⟨h1, _, _⟩ := drop_cons h
  have := drop_nil h'
  have := hs.2.1
  omega
 | t :: r, _ :: _, [], i, n, h, h', h'', _, _ => by
  obtain ⟨h1, _, _⟩ := drop_cons h
  have := drop_nil h''
  have := hs.2.2.1
  omega
 | t :: r, x :: rv, y :: rw', i, n, h, h', h'', hn1, hn2 => by
  obtain ⟨h1, h2, h3⟩ := drop_cons h
  obtain ⟨v1, v2, v3⟩ := drop_cons h'
  obtain ⟨w1, w2, w3⟩ := drop_cons h''
  obtain ⟨s1, s2, s3, s4, s5, s6⟩ := hs
  obtain ⟨⟨b1, b2⟩, b3, b4⟩ := mul3_bd (s4 t (h2 ▸ rd_mem h1)) (s5 x (v2 ▸ rd_mem v1)) (s6 y (w2 ▸ rd_mem w1))
  refine Ev.succ ?_
  simp only [impl_pair.l0]
  rw [h2, v2, w2]
  refine Ev.pos (by omega) (Ev.pos (by omega) (Ev.pos (by omega) (Ev.pos (by omega) (Ev.pos (by omega) ?_))))
  rw [w64 (x := (i : Int) + 1) (by omega) (by omega), w64 (x := t * x) (by omega) (by omega), w64 (x := t * x * y) (by omega) (by omega), w64 (x := n + t * x * y) (by omega) (by omega), cast_succ]
  refine Ev.to (impl_pair_l f v w ⟨s1, s2, s3, s4, s5, s6⟩ r rv rw' (i + 1) (n + t * x * y) h3 v3 w3 (by omega) (by omega)) ?_
  simp only [pr3]; omega
theorem impl_pair_ev {f v w : List Int} (hs : Sml f v w) : Ev (fun k => impl_pair.f k f v w) (pr3 f v w) := by
 unfold impl_pair.f
 exact Ev.to (impl_pair_l f v w hs f v w 0 0 rfl rfl rfl (by omega) (by omega)) (by omega)
theorem pr3_bd : ∀ {f v w : List Int}, Sml f v w → -31000000000000 * (f.length : Int) ≤ pr3 f v w ∧ pr3 f v w ≤ 31000000000000 * (f.length : Int)
 | [], v, w, _ => by simp [pr3]
 | t :: f, [], w, h => by have := h.2.1; simp at this
 | t :: f, x :: v, [], h => by have := h.2.2.1; simp at this
 | t :: f, x :: v, y :: w, ⟨s1, s2, s3, s4, s5, s6⟩ => by
  have ih := pr3_bd (f := f) (v := v) (w := w) ⟨by simp at s1; omega, by simpa using s2, by simpa using s3, fun t h => s4 t (by simp [h]), fun t h => s5 t (by simp [h]), fun t h => s6 t (by simp [h])⟩
  have := (mul3_bd (s4 t (by simp)) (s5 x (by simp)) (s6 y (by simp))).2
  simp only [pr3, List.length_cons]
  omega
/-- A form, and a zero of it. -/
def zis (f v : List Int) : Bool := fv f && vOk f v 1000000 && decide (gl v ≠ 0) && decide (pr3 f v v = 0)
theorem zis_iff {f v : List Int} : zis f v = true ↔ fv f = true ∧ vOk f v 1000000 = true ∧ gl v ≠ 0 ∧ pr3 f v v = 0 := by
 unfold zis
 simp only [Bool.and_eq_true, decide_eq_true_eq, and_assoc]
theorem zis_eq {f v : List Int} {b : Bool} (h : b = true ↔ fv f = true ∧ vOk f v 1000000 = true ∧ gl v ≠ 0 ∧ pr3 f v v = 0) : b = zis f v := by
 rw [Bool.eq_iff_iff, h, zis_iff]
theorem impl_ZeroIs_ev {f v : List Int} (hf : Md f) (hv : Mid v) : Ev (fun k => impl_ZeroIs.f k f v) (zis f v) := by
 have no : ¬ (fv f = true ∧ vOk f v 1000000 = true) → Ev (fun k => impl_ZeroIs.j0 k f v true) (zis f v) := by
  intro h
  refine Ev.succ ?_
  simp only [impl_ZeroIs.j0]
  refine Ev.pos (by simp) (Ev.ret (zis_eq ?_))
  constructor
  · intro e; cases e
  · rintro ⟨h1, h2, _⟩; exact absurd ⟨h1, h2⟩ h
 unfold impl_ZeroIs.f
 refine Ev.bind (impl_FormValid_ev hf) ?_
 by_cases h1 : fv f = true
 · refine Ev.pos h1 (Ev.bind (impl_vectorOk_ev (by omega) (by omega) hv.1) ?_)
   by_cases h2 : vOk f v 1000000 = true
   · rw [h2]
     refine Ev.succ ?_
     simp only [impl_ZeroIs.j0]
     refine Ev.neg (by simp) (Ev.bind (impl_gcd_ev hv) ?_)
     by_cases h3 : gl v = 0
     · refine Ev.pos (by omega) (Ev.ret (zis_eq ?_))
       constructor
       · intro e; cases e
       · rintro ⟨_, _, h, _⟩; exact absurd h3 h
     · refine Ev.neg (by omega) (Ev.bind (impl_pair_ev (Sml.of h1 (by omega) h2 h2)) (Ev.ret (zis_eq ?_)))
       simp [h1, h2, h3]
   · rw [show vOk f v 1000000 = false by simpa using h2]
     exact no (fun h => h2 h.2)
 · exact Ev.neg h1 (no (fun h => h1 h.1))
theorem zis_mid {f v : List Int} (h : zis f v = true) : Mid v ∧ v.length ≤ 4 := by
 obtain ⟨h1, h2, _⟩ := zis_iff.1 h
 obtain ⟨b1, b2⟩ := vOk_iff.1 h2
 have := (fv_iff.1 h1).2
 exact ⟨⟨by omega, fun x hx => by have := b1 x hx; omega⟩, by omega⟩
theorem pr3_scale (c d : Int) : ∀ f v w : List Int, pr3 f (v.map (c * ·)) (w.map (d * ·)) = c * d * pr3 f v w
 | [], v, w => by cases v <;> cases w <;> simp [pr3]
 | t :: f, [], w => by simp [pr3]
 | t :: f, x :: v, [] => by simp [pr3]
 | t :: f, x :: v, y :: w => by
  simp only [pr3, List.map_cons]
  rw [pr3_scale c d f v w]
  grind
/-- The plain vector of a zero is one. -/
theorem zis_pln {f v : List Int} (h : zis f v = true) : zis f (pln v) = true := by
 obtain ⟨h1, h2, h3, h4⟩ := zis_iff.1 h
 obtain ⟨b1, b2⟩ := vOk_iff.1 h2
 refine zis_iff.2 ⟨h1, vOk_iff.2 ⟨fun x hx => ?_, by rw [pln_length]; exact b2⟩, by rw [pln_gl h3]; omega, ?_⟩
 · have := pln_bd h3 (m := 1000000) (fun y hy => by have := b1 y hy; omega) x hx
   omega
 · rw [pln_back h3, pr3_scale] at h4
   rcases Int.mul_eq_zero.1 h4 with h5 | h5
   · have hne : sg v * ((gl v : Nat) : Int) ≠ 0 := by rcases sg_pm v with e | e <;> rw [e] <;> omega
     rcases Int.mul_eq_zero.1 h5 with h6 | h6 <;> exact absurd h6 hne
   · exact h5
/-- The plain zero of a zero, and whether it is one. -/
def zpl (f v : List Int) : List Int × Bool := if zis f v = true then (pln v, true) else ([], false)
theorem impl_ZeroPlain_ev {f v : List Int} (hf : Md f) (hv : Mid v) : Ev (fun k => impl_ZeroPlain.f k f v) (zpl f v) := by
 unfold impl_ZeroPlain.f zpl
 refine Ev.bind (impl_ZeroIs_ev hf hv) ?_
 by_cases h : zis f v = true
 · rw [if_pos h]
   exact Ev.pos h (Ev.bind (impl_plain_ev hv (zis_iff.1 h).2.2.1) (Ev.now _))
 · rw [if_neg h]
   exact Ev.neg h (Ev.now _)
/-- The greatest size. -/
def hg : Nat → List Int → Nat
 | m, [] => m
 | m, x :: r => hg (max m x.natAbs) r
theorem hg_mul (c : Int) : ∀ (l : List Int) (m : Nat), hg (c.natAbs * m) (l.map (c * ·)) = c.natAbs * hg m l
 | [], _ => rfl
 | x :: r, m => by
  simp only [hg, List.map_cons]
  rw [Int.natAbs_mul, ← hg_mul c r, Nat.mul_max_mul_left]
theorem hg_ge : ∀ (l : List Int) (m : Nat), m ≤ hg m l ∧ ∀ x ∈ l, x.natAbs ≤ hg m l
 | [], m => ⟨Nat.le_refl _, by simp⟩
 | x :: r, m => by
  obtain ⟨h1, h2⟩ := hg_ge r (max m x.natAbs)
  refine ⟨by simp only [hg]; omega, fun y hy => ?_⟩
  simp only [hg]
  rcases List.mem_cons.1 hy with rfl | hy
  · omega
  · exact h2 y hy
theorem hg_some : ∀ (l : List Int) (m : Nat), hg m l = m ∨ ∃ x ∈ l, x.natAbs = hg m l
 | [], m => .inl rfl
 | x :: r, m => by
  simp only [hg]
  rcases hg_some r (max m x.natAbs) with h | ⟨y, hy, h⟩
  · rw [h]
    by_cases c : x.natAbs ≤ m
    · exact .inl (by omega)
    · exact .inr ⟨x, by simp, by omega⟩
  · exact .inr ⟨y, by simp [hy], h⟩
def zht (f v : List Int) : Int := if zis f v = true then ((hg 0 v : Nat) : Int) else -1
theorem mx_nat (m : Nat) (x : Int) : mx (m : Int) (x.natAbs : Int) = ((max m x.natAbs : Nat) : Int) := by rw [mx_eq]; omega
theorem impl_ZeroHeight_l (v : List Int) (hv : Mid v) : ∀ (r : List Int) (i m : Nat), v.drop i = r → Ev (fun k => impl_ZeroHeight.l0 k (m : Int) v (v.length : Int) (i : Int)) ((hg m r : Nat) : Int)
 | [], i, m, h => by
  have := drop_nil h
  refine Ev.succ ?_
  simp only [impl_ZeroHeight.l0]
  exact Ev.neg (by omega) (Ev.now _)
 | x :: r, i, m, h => by
  obtain ⟨h1, h2, h3⟩ := drop_cons h
  have hx := hv.2 x (h2 ▸ rd_mem h1)
  have hl := hv.1
  refine Ev.succ ?_
  simp only [impl_ZeroHeight.l0]
  rw [h2, impl_size_abs (by omega), w64 (x := (i : Int) + 1) (by omega) (by omega), cast_succ]
  refine Ev.pos (by omega) (Ev.pos (by omega) (Ev.pos (by omega) (Ev.sbind ?_)))
  rw [mx_nat]
  exact impl_ZeroHeight_l v hv r (i + 1) _ h3
theorem impl_ZeroHeight_ev {f v : List Int} (hf : Md f) (hv : Mid v) : Ev (fun k => impl_ZeroHeight.f k f v) (zht f v) := by
 unfold impl_ZeroHeight.f zht
 refine Ev.bind (impl_ZeroIs_ev hf hv) ?_
 by_cases h : zis f v = true
 · rw [if_pos h]
   exact Ev.pos h (impl_ZeroHeight_l v hv v 0 0 rfl)
 · rw [if_neg h]
   exact Ev.neg h (Ev.now _)
theorem spec_l4Vector_l (f v : List Int) (hf : Md f) (m : Int) (hm : 0 ≤ m) (hm2 : m ≤ 1000000) (hl : v.length ≤ 1000000) : ∀ (r : List Int) (i : Nat), v.drop i = r → Ev (fun k => spec_l4Vector.l0 k f v m (i : Int)) (fv f && (r.all (okV m) && decide (v.length = f.length)))
 | [], i, h => by
  have := drop_nil h
  refine Ev.succ ?_
  simp only [spec_l4Vector.l0]
  refine Ev.neg (by omega) (Ev.bind (spec_FormValid_ev hf) ?_)
  by_cases hv : fv f = true
  · refine Ev.pos hv (Ev.ret ?_)
    rw [beq_dec, hv]; simp
  · refine Ev.neg hv (Ev.ret ?_)
    simp [hv]
 | t :: r, i, h => by
  obtain ⟨h1, h2, h3⟩ := drop_cons h
  refine Ev.succ ?_
  simp only [spec_l4Vector.l0]
  rw [h2, w64 (x := -m) (by omega) (by omega), l6In_eq]
  refine Ev.pos (by omega) (Ev.pos (by omega) (Ev.sbind ?_))
  by_cases c : -m ≤ t ∧ t ≤ m
  · refine Ev.pos (by simpa using c) ?_
    rw [w64 (by omega) (by omega), cast_succ]
    refine Ev.to (spec_l4Vector_l f v hf m hm hm2 hl r (i + 1) h3) ?_
    have : okV m t = true := by unfold okV; simpa using c
    simp [this]
  · have : okV m t = false := by unfold okV; simpa using c
    exact Ev.neg (by simpa using c) (Ev.ret (by simp [this]))
theorem spec_l4Vector_ev {f v : List Int} (hf : Md f) {m : Int} (hm : 0 ≤ m) (hm2 : m ≤ 1000000) (hl : v.length ≤ 1000000) : Ev (fun k => spec_l4Vector.f k f v m) (fv f && vOk f v m) := by
 unfold spec_l4Vector.f
 exact spec_l4Vector_l f v hf m hm hm2 hl v 0 rfl
theorem spec_l4Value_l (f v : List Int) (hs : Sml f v v) : ∀ (r rv : List Int) (i : Nat) (n : Int), f.drop i = r → v.drop i = rv → -31000000000000 * (i : Int) ≤ n → n ≤ 31000000000000 * (i : Int) →
 Ev (fun k => spec_l4Value.l0 k f v n (i : Int)) (n + pr3 r rv rv)
 | [], rv, i, n, h, h', _, _ => by
  have := drop_nil h
  refine Ev.succ ?_
  simp only [spec_l4Value.l0]
  exact Ev.neg (by omega) (Ev.ret (by simp [pr3]))
 | t :: r, [], i, n, h, h', _, _ => by
  obtain ⟨h1, _, _⟩ := drop_cons h
  have := drop_nil h'
  have := hs.2.1
  omega
 | t :: r, x :: rv, i, n, h, h', hn1, hn2 => by
  obtain ⟨h1, h2, h3⟩ := drop_cons h
  obtain ⟨v1, v2, v3⟩ := drop_cons h'
  obtain ⟨s1, s2, s3, s4, s5, s6⟩ := hs
  obtain ⟨⟨b1, b2⟩, b3, b4⟩ := mul3_bd (s4 t (h2 ▸ rd_mem h1)) (s5 x (v2 ▸ rd_mem v1)) (s6 x (v2 ▸ rd_mem v1))
  refine Ev.succ ?_
  simp only [spec_l4Value.l0]
  rw [h2, v2]
  refine Ev.pos (by omega) (Ev.pos (by omega) (Ev.pos (by omega) ?_))
  rw [w64 (x := (i : Int) + 1) (by omega) (by omega), w64 (x := t * x) (by omega) (by omega), w64 (x := t * x * x) (by omega) (by omega), w64 (x := n + t * x * x) (by omega) (by omega), cast_succ]
  refine Ev.to (spec_l4Value_l f v ⟨s1, s2, s3, s4, s5, s6⟩ r rv (i + 1) (n + t * x * x) h3 v3 (by omega) (by omega)) ?_
  simp only [pr3]; omega
theorem spec_l4Value_ev {f v : List Int} (hs : Sml f v v) : Ev (fun k => spec_l4Value.f k f v) (pr3 f v v) := by
 unfold spec_l4Value.f
 exact Ev.to (spec_l4Value_l f v hs f v 0 0 rfl rfl (by omega) (by omega)) (by omega)
theorem spec_l5Some_l (v : List Int) (hv : v.length ≤ 1000000) : ∀ (r : List Int) (i : Nat), v.drop i = r → Ev (fun k => spec_l5Some.l0 k v (i : Int)) (decide (∃ x ∈ r, x ≠ 0))
 | [], i, h => by
  have := drop_nil h
  refine Ev.succ ?_
  simp only [spec_l5Some.l0]
  exact Ev.neg (by omega) (Ev.ret (by simp))
 | x :: r, i, h => by
  obtain ⟨h1, h2, h3⟩ := drop_cons h
  refine Ev.succ ?_
  simp only [spec_l5Some.l0]
  rw [h2, w64 (by omega) (by omega), cast_succ]
  refine Ev.pos (by omega) (Ev.pos (by omega) ?_)
  by_cases c : x = 0
  · exact Ev.pos c (Ev.to (spec_l5Some_l v hv r (i + 1) h3) (by simp [c]))
  · exact Ev.neg c (Ev.ret (by simp [c]))
theorem spec_ZeroIs_ev {f v : List Int} (hf : Md f) (hv : v.length ≤ 1000000) : Ev (fun k => spec_ZeroIs.f k f v) (zis f v) := by
 unfold spec_ZeroIs.f
 refine Ev.bind (spec_l4Vector_ev hf (by omega) (by omega) hv) ?_
 by_cases h : fv f = true ∧ vOk f v 1000000 = true
 · refine Ev.pos (by simp [h.1, h.2]) ?_
   unfold spec_l5Some.f
   refine Ev.bind (spec_l5Some_l v hv v 0 rfl) ?_
   by_cases h3 : gl v = 0
   · refine Ev.neg ?_ (Ev.ret (zis_eq ?_))
     · have := gl_zero.1 h3
       simp only [decide_eq_true_eq]
       rintro ⟨x, hx, h0⟩
       exact h0 (this x hx)
     · constructor
       · intro e; cases e
       · rintro ⟨_, _, h, _⟩; exact absurd h3 h
   · refine Ev.pos (by simpa using gl_some.1 h3) (Ev.bind (spec_l4Value_ev (Sml.of h.1 (by omega) h.2 h.2)) (Ev.ret (zis_eq ?_)))
     simp [h.1, h.2, h3]
 · refine Ev.neg (by simpa using h) (Ev.ret (zis_eq ?_))
   constructor
   · intro e; cases e
   · rintro ⟨h1, h2, _⟩; exact absurd ⟨h1, h2⟩ h
theorem laws_sameInts_l (xs : List Int) (hl : xs.length ≤ 1000000) : ∀ (r : List Int) (i : Nat), xs.drop i = r → Ev (fun k => laws_sameInts.l0 k xs xs (i : Int)) true
 | [], i, h => by
  have := drop_nil h
  refine Ev.succ ?_
  simp only [laws_sameInts.l0]
  exact Ev.neg (by omega) (Ev.now _)
 | t :: r, i, h => by
  obtain ⟨h1, h2, h3⟩ := drop_cons h
  refine Ev.succ ?_
  simp only [laws_sameInts.l0]
  rw [w64 (by omega) (by omega), cast_succ]
  exact Ev.pos (by omega) (Ev.pos (by omega) (Ev.pos (by omega) (Ev.pos (by simp) (laws_sameInts_l xs hl r (i + 1) h3))))
theorem laws_sameInts_ev {xs : List Int} (hl : xs.length ≤ 1000000) : Ev (fun k => laws_sameInts.f k xs xs) true := by
 unfold laws_sameInts.f
 exact Ev.pos rfl (laws_sameInts_l xs hl xs 0 rfl)
theorem laws_minusOf_l (xs : List Int) (hx : Md xs) : ∀ (r o : List Int) (i : Nat), o.length ≤ i → xs.drop i = r → Ev (fun k => laws_minusOf.l0 k xs o (i : Int)) (o ++ r.map (fun t => -t))
 | [], o, i, hn, h => by
  have := drop_nil h
  refine Ev.succ ?_
  simp only [laws_minusOf.l0]
  exact Ev.neg (by omega) (Ev.ret (by simp))
 | t :: r, o, i, hn, h => by
  obtain ⟨h1, h2, h3⟩ := drop_cons h
  have hl := hx.1
  have hb := hx.2 t (h2 ▸ rd_mem h1)
  refine Ev.succ ?_
  simp only [laws_minusOf.l0]
  rw [h2]
  refine Ev.pos (by omega) (Ev.pos (by omega) (Ev.pos (by omega) ?_))
  rw [w64 (x := (i : Int) + 1) (by omega) (by omega), w64 (x := -t) (by omega) (by omega), cast_succ]
  refine Ev.to (laws_minusOf_l xs hx r (o ++ [-t]) (i + 1) (by simp; omega) h3) ?_
  simp
theorem laws_minusOf_ev {xs : List Int} (hx : Md xs) : Ev (fun k => laws_minusOf.f k xs) (xs.map fun t => -t) := by
 unfold laws_minusOf.f
 refine Ev.to (laws_minusOf_l xs hx xs [] 0 (by simp) rfl) (by simp)
theorem md_minus {xs : List Int} (hx : Md xs) : Md (xs.map fun t => -t) := by
 refine ⟨by simpa using hx.1, fun t ht => ?_⟩
 obtain ⟨s, hs, rfl⟩ := List.mem_map.1 ht
 have := hx.2 s hs
 omega
theorem fv_minus (xs : List Int) : fv (xs.map fun t => -t) = fv xs := by
 rw [Bool.eq_iff_iff, fv_iff, fv_iff]
 simp only [List.mem_map, List.length_map, forall_exists_index, and_imp, forall_apply_eq_imp_iff₂]
 constructor
 · rintro ⟨h1, h2⟩; exact ⟨fun t ht => by have := h1 t ht; omega, h2⟩
 · rintro ⟨h1, h2⟩; exact ⟨fun t ht => by have := h1 t ht; omega, h2⟩
theorem spec_ZeroPlain_ev {f v : List Int} (hf : Md f) (hv : Mid v) : Ev (fun k => spec_ZeroPlain.f k f v) (zpl f v) := by
 unfold spec_ZeroPlain.f zpl
 refine Ev.bind (spec_ZeroIs_ev hf hv.1) ?_
 by_cases h : zis f v = true
 · rw [if_pos h]
   exact Ev.pos h (Ev.bind (spec_l5Plain_ev hv (zis_iff.1 h).2.2.1) (Ev.now _))
 · rw [if_neg h]
   exact Ev.neg h (Ev.now _)
theorem neg_map (v : List Int) : (v.map fun t => -t) = v.map ((-1 : Int) * ·) := List.map_congr_left fun x _ => by omega
theorem zis_minus {f v : List Int} (h : zis f v = true) : zis f (v.map fun t => -t) = true := by
 obtain ⟨h1, h2, h3, h4⟩ := zis_iff.1 h
 obtain ⟨b1, b2⟩ := vOk_iff.1 h2
 rw [neg_map]
 refine zis_iff.2 ⟨h1, vOk_iff.2 ⟨fun x hx => ?_, by simpa using b2⟩, ?_, ?_⟩
 · obtain ⟨y, hy, rfl⟩ := List.mem_map.1 hx
   have := b1 y hy
   omega
 · rw [gl_mul]; simpa using h3
 · rw [pr3_scale, h4, Int.mul_zero]
theorem mid_minus {v : List Int} (h : Mid v) : Mid (v.map fun t => -t) := ⟨by simpa using h.1, fun x hx => by
 obtain ⟨y, hy, rfl⟩ := List.mem_map.1 hx
 have := h.2 y hy
 omega⟩
theorem the : laws_FnPlain.Pure := by
 intro l _ _ hl
 refine Ev.rounds ?_
 unfold laws_FnPlain.f
 by_cases h : (l.length : Int) > 1048576
 · exact Ev.pos h (Ev.now _)
 · obtain ⟨b, hb, ho⟩ := spec_l6Open_ev hl
   obtain ⟨f, v, q, f1, f2, f3, f4⟩ := spec_l92Zero_ev hb (p := 0) (by omega) (by omega)
   have hd : Ev (fun k => spec_DrawZeroPlain.f k l) (f, v) := by
    unfold spec_DrawZeroPlain.f
    rw [ho]
    exact Ev.sbind (Ev.bind f4 (Ev.now _))
   have hM := f1.md
   have hMd : Md v := ⟨f2.1, fun x hx => by have := f2.2 x hx; omega⟩
   refine Ev.neg h (Ev.bind hd (Ev.bind (impl_ZeroPlain_ev hM f2) (Ev.bind (spec_ZeroPlain_ev hM f2) (Ev.neg (by simp) ?_))))
   have hlen : (zpl f v).1.length ≤ 1000000 := by
    unfold zpl
    split
    · rw [pln_length]; omega
    · simp
   refine Ev.bind (laws_sameInts_ev hlen) (Ev.pos rfl (Ev.succ ?_))
   simp only [laws_FnPlain.j0]
   by_cases hz : zis f v = true
   · have hp := zis_pln hz
     have e : zpl f v = (pln v, true) := by unfold zpl; rw [if_pos hz]
     obtain ⟨z1, z2, z3, z4⟩ := zis_iff.1 hz
     have hm := zis_minus hz
     have e1 : zpl f (pln v) = (pln v, true) := by unfold zpl; rw [if_pos hp, pln_pln z3]
     have e2 : zpl f (v.map fun t => -t) = (pln v, true) := by unfold zpl; rw [if_pos hm, neg_map, pln_mul (by omega) z3]
     have hpm := (zis_mid hp).1
     have hpl : (pln v).length ≤ 1000000 := by rw [pln_length]; omega
     rw [e]
     refine Ev.neg (by simp) (Ev.bind (impl_ZeroPlain_ev hM hpm) (Ev.bind (laws_minusOf_ev hMd) (Ev.bind (impl_ZeroPlain_ev hM (mid_minus f2)) ?_)))
     rw [e1, e2]
     refine Ev.pos rfl (Ev.pos rfl (Ev.bind (laws_sameInts_ev hpl) (Ev.pos rfl (Ev.bind (laws_sameInts_ev hpl) (Ev.pos rfl (Ev.bind (impl_ZeroIs_ev hM hpm) (Ev.pos hp (Ev.bind (impl_ZeroHeight_ev hM hpm) (Ev.bind (impl_ZeroHeight_ev hM f2) (Ev.ret ?_))))))))))
     have k1 : zht f v = ((hg 0 v : Nat) : Int) := by unfold zht; rw [if_pos hz]
     have k2 : zht f (pln v) = ((hg 0 (pln v) : Nat) : Int) := by unfold zht; rw [if_pos hp]
     rw [k1, k2]
     rcases hg_some (pln v) 0 with e | ⟨y, hy, e⟩
     · simp only [decide_eq_true_eq]; omega
     · have := pln_bd z3 (m := hg 0 v) ((hg_ge v 0).2) y hy
       simp only [decide_eq_true_eq]; omega
   · have e : zpl f v = ([], false) := by unfold zpl; rw [if_neg hz]
     rw [e]
     exact Ev.pos (by simp) (Ev.pos (by simp) (Ev.bind (laws_sameInts_ev (by simp)) (Ev.now _)))
end Go.Proofs.Ytdeahlommlgceaa.KFnPlain

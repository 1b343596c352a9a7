/- What the printed functions of the law FnModulo compute, and why the law holds of it; for all arguments that its statement speaks of. -/
import Derived.Test.YtnbelacakmfhcaaH
import Derived.Test.YtnbelacakmfhcaaPFnModulox5
import Derived.Test.YtnbelacakmfhcaaNtA
import Derived.Test.YtnbelacakmfhcaaNtC
import Derived.Test.YtnbelacakmfhcaaNtE
import Derived.Test.YtnbelacakmfhcaaNtH
import Derived.Test.YtnbelacakmfhcaaNtG
import Derived.Test.YtnbelacakmfhcaaNtI
import Derived.Test.YtnbelacakmfhcaaNtD
set_option linter.unusedVariables false
set_option linter.unusedSimpArgs false
namespace Go.Proofs.Ytnbelacakmfhcaa.KFnModulo
open Go.RowKit Go.Proofs.YtnbelacakmfhcaaW.PrintWords Go.Proofs.YtnbelacakmfhcaaW.PrintLast Go.Proofs.YtnbelacakmfhcaaW.PrintMore Go.Proofs.Ytnbelacakmfhcaa.PFnModulo Go.Proofs.Ytnbelacakmfhcaa.K
open Go.Proofs.Ytnbelacakmfhcaa

/-- What a reader reads: bytes, not too many. -/
def BY (b : List Int) : Prop := b.length ≤ 2000 ∧ ∀ x ∈ b, 0 ≤ x ∧ x < 256

theorem BY.rd {b : List Int} (hb : BY b) {i : Int} (h0 : 0 ≤ i) (h1 : i < b.length) : 0 ≤ rd b i ∧ rd b i < 256 := by
  obtain ⟨n, rfl⟩ : ∃ n : Nat, i = n := ⟨i.toNat, by omega⟩
  exact hb.2 _ (rd_mem (by omega))

theorem xor_i64 (a b : Nat) (ha : a < 9223372036854775808) (hb : b < 9223372036854775808) : Go.bits .xor .i64 (a : Int) (b : Int) = ((a ^^^ b : Nat) : Int) := by
  have hx : a ^^^ b < 2 ^ 63 := Nat.xor_lt_two_pow (by omega) (by omega)
  have h1 : (BitVec.ofInt 64 (a : Int)).toNat = a := by
    rw [BitVec.ofInt_natCast, BitVec.toNat_ofNat]; exact Nat.mod_eq_of_lt (by omega)
  have h2 : (BitVec.ofInt 64 (b : Int)).toNat = b := by
    rw [BitVec.ofInt_natCast, BitVec.toNat_ofNat]; exact Nat.mod_eq_of_lt (by omega)
  show IntKind.i64.wrap ((BitVec.ofInt 64 (a : Int) ^^^ BitVec.ofInt 64 (b : Int)).toNat : Int) = _
  rw [BitVec.toNat_xor, h1, h2]
  simp [IntKind.wrap, IntKind.bits, IntKind.signed]
  omega

/-- What lies behind the end. -/
def mixX (b : List Int) (q : Int) : Int := rd b (Int.tmod q b.length) * 131 + rd b (Int.tmod (q * 7 + 3) b.length) * 1117 + q * 29 + Int.tdiv q b.length * 53

theorem pick_ev {b : List Int} (hb : BY b) {n p : Int} (hn : 1 ≤ n) (hp : 0 ≤ p) (hp2 : p ≤ 1000000000) :
    ∃ r, 0 ≤ r ∧ r < n ∧ Ev (fun k => spec_l6Rd_pick.f k b p n) (r, p + 1) := by
  have hl := hb.1
  by_cases h0 : b.length = 0
  · refine ⟨0, by omega, by omega, ?_⟩
    unfold spec_l6Rd_pick.f
    refine Ev.neg (by omega) ?_
    refine Ev.succ ?_
    simp only [spec_l6Rd_pick.j0]
    refine Ev.pos (by simp [h0]) ?_
    rw [w64 (by omega) (by omega)]
    exact Ev.now _
  · by_cases hlt : p < b.length
    · have hr := hb.rd hp hlt
      refine ⟨Int.tmod (rd b p) n, ?_, ?_, ?_⟩
      · exact Int.tmod_nonneg _ hr.1
      · exact Int.tmod_lt_of_pos _ (by omega)
      · unfold spec_l6Rd_pick.f
        refine Ev.neg (by omega) ?_
        refine Ev.succ ?_
        simp only [spec_l6Rd_pick.j0]
        refine Ev.neg (by simp only [beq_iff_eq]; omega) ?_
        have e : wrap64 (wrap64 (p + 1) - 1) = p := by rw [w64 (x := p + 1) (by omega) (by omega), w64 (by omega) (by omega)]; omega
        rw [e]
        refine Ev.pos hlt (Ev.pos hp (Ev.neg (by omega) ?_))
        rw [w64 (by omega) (by omega), w64 (by omega) (by omega)]
        exact Ev.now _
    · have hlp : (0 : Int) < b.length := by omega
      have t1 : 0 ≤ Int.tmod p b.length := Int.tmod_nonneg _ hp
      have t2 : Int.tmod p b.length < b.length := Int.tmod_lt_of_pos _ hlp
      have t3 : 0 ≤ Int.tmod (p * 7 + 3) b.length := Int.tmod_nonneg _ (by omega)
      have t4 : Int.tmod (p * 7 + 3) b.length < b.length := Int.tmod_lt_of_pos _ hlp
      have r1 := hb.rd t1 t2
      have r2 := hb.rd t3 t4
      have d1 : 0 ≤ Int.tdiv p b.length := Int.tdiv_nonneg hp (by omega)
      have d2 : Int.tdiv p b.length ≤ p := by rw [Int.tdiv_eq_ediv_of_nonneg hp]; exact Int.ediv_le_self _ hp
      have x0 : 0 ≤ mixX b p := by unfold mixX; omega
      have x1 : mixX b p ≤ 900000000000 := by unfold mixX; omega
      have x2 : Int.tdiv (mixX b p) 64 = mixX b p / 64 := Int.tdiv_eq_ediv_of_nonneg x0
      have x3 : Go.bits .xor .i64 (mixX b p) (Int.tdiv (mixX b p) 64) = ((mixX b p).toNat ^^^ (mixX b p / 64).toNat : Nat) := by
        rw [x2]
        have := xor_i64 (mixX b p).toNat (mixX b p / 64).toNat (by omega) (by omega)
        rwa [Int.toNat_of_nonneg x0, Int.toNat_of_nonneg (by omega)] at this
      refine ⟨Int.tmod (Go.bits .xor .i64 (mixX b p) (Int.tdiv (mixX b p) 64)) n, ?_, ?_, ?_⟩
      · rw [x3]; exact Int.tmod_nonneg _ (by omega)
      · exact Int.tmod_lt_of_pos _ (by omega)
      · unfold spec_l6Rd_pick.f
        refine Ev.neg (by omega) ?_
        refine Ev.succ ?_
        simp only [spec_l6Rd_pick.j0]
        refine Ev.neg (by simp only [beq_iff_eq]; omega) ?_
        have e : wrap64 (wrap64 (p + 1) - 1) = p := by rw [w64 (x := p + 1) (by omega) (by omega), w64 (by omega) (by omega)]; omega
        rw [e]
        have e7 : wrap64 (wrap64 (p * 7) + 3) = p * 7 + 3 := by rw [w64 (x := p * 7) (by omega) (by omega), w64 (by omega) (by omega)]
        rw [e7]
        refine Ev.neg (by omega) (Ev.neg (by omega) (Ev.pos t1 (Ev.pos t2 (Ev.pos t3 (Ev.pos t4 (Ev.neg (by omega) ?_))))))
        have em : wrap64 (wrap64 (wrap64 (wrap64 (wrap64 (rd b (Int.tmod p b.length)) * 131) + wrap64 (wrap64 (rd b (Int.tmod (p * 7 + 3) b.length)) * 1117)) + wrap64 (p * 29)) + wrap64 (wrap64 (Int.tdiv p b.length) * 53)) = mixX b p := by
          unfold mixX
          generalize rd b (Int.tmod p b.length) = A at *
          generalize rd b (Int.tmod (p * 7 + 3) b.length) = B at *
          generalize Int.tdiv p b.length = D at *
          simp (disch := omega) only [w64]
        rw [em, w64 (x := Int.tdiv (mixX b p) 64) (by omega) (by omega), w64 (by omega) (by omega)]
        exact Ev.now _

theorem wf64 {a : Int} (h : (Lit.int .i64 a).wf = true) : -9223372036854775808 ≤ a ∧ a ≤ 9223372036854775807 := by
  simp [Lit.wf, IntKind.min, IntKind.max, IntKind.bits, IntKind.signed] at h
  omega
theorem wf8 {a : Int} (h : (Lit.int .u8 a).wf = true) : 0 ≤ a ∧ a < 256 := by
  simp [Lit.wf, IntKind.min, IntKind.max, IntKind.bits, IntKind.signed] at h
  omega

theorem spec_l6Open_ev {l : List Int} (hw : ∀ x ∈ l, (Lit.int .u8 x).wf = true) : ∃ b, BY b ∧ spec_l6Open.f l = some (b, 0) := by
  unfold spec_l6Open.f
  by_cases h : (l.length : Int) > 2000
  · refine ⟨l.take 2000, ⟨by rw [List.length_take]; omega, fun x hx => wf8 (hw x (List.mem_of_mem_take hx))⟩, ?_⟩
    rw [if_pos h, if_pos (by omega)]
  · exact ⟨l, ⟨by omega, fun x hx => wf8 (hw x hx)⟩, by rw [if_neg h]⟩

/-- The numbers that are drawn. -/
def DN (n : Int) : Prop := n.natAbs ≤ 118 ∨ n = 5000 ∨ n = 5001 ∨ n = -5001 ∨ n = 4096 ∨ n = 3969
theorem DN.bd {n : Int} (h : DN n) : -5001 ≤ n ∧ n ≤ 5001 := by unfold DN at h; omega
theorem spec_l91Number_ev {b : List Int} (hb : BY b) {p : Int} (hp : 0 ≤ p) (hp2 : p ≤ 800000) : ∃ n q, DN n ∧ p ≤ q ∧ q ≤ p + 4 ∧ Ev (fun k => spec_l91Number.f k b p) (n, q) := by
  obtain ⟨r1, a1, a2, e1⟩ := pick_ev hb (n := 30) (p := p) (by omega) hp (by omega)
  unfold spec_l91Number.f
  by_cases c : r1 = 0
  · obtain ⟨r2, a3, a4, e2⟩ := pick_ev hb (n := 6) (p := p + 1) (by omega) (by omega) (by omega)
    refine ⟨_, p + 1 + 1, ?_, by omega, by omega, Ev.bind e1 (Ev.pos c (Ev.sbind (Ev.bind e2 (Ev.pos a3 (Ev.pos (by simp; omega) (Ev.now _))))))⟩
    unfold DN
    dsimp only
    rcases (by omega : r2 = 0 ∨ r2 = 1 ∨ r2 = 2 ∨ r2 = 3 ∨ r2 = 4 ∨ r2 = 5) with rfl | rfl | rfl | rfl | rfl | rfl <;> decide
  · obtain ⟨r2, a3, a4, e2⟩ := pick_ev hb (n := 40) (p := p + 1) (by omega) (by omega) (by omega)
    obtain ⟨r3, a5, a6, e3⟩ := pick_ev hb (n := 3) (p := p + 1 + 1) (by omega) (by omega) (by omega)
    obtain ⟨r4, a7, a8, e4⟩ := pick_ev hb (n := 2) (p := p + 1 + 1 + 1) (by omega) (by omega) (by omega)
    have hm : 0 ≤ r2 * (1 + r3) ∧ r2 * (1 + r3) ≤ 39 * 3 := ⟨Int.mul_nonneg a3 (by omega), Int.mul_le_mul (by omega) (by omega) (by omega) (by omega)⟩
    have w1 : wrap64 (1 + r3) = 1 + r3 := w64 (by omega) (by omega)
    have w2 : wrap64 (r2 * (1 + r3)) = r2 * (1 + r3) := w64 (by omega) (by omega)
    have w3 : wrap64 (1 + r2 * (1 + r3)) = 1 + r2 * (1 + r3) := w64 (by omega) (by omega)
    by_cases c2 : r4 = 0
    · refine ⟨-(1 + r2 * (1 + r3)), p + 1 + 1 + 1 + 1, by unfold DN; omega, by omega, by omega, Ev.bind e1 (Ev.neg c (Ev.bind e2 (Ev.bind e3 (Ev.bind e4 (Ev.pos c2 (Ev.ret ?_))))))⟩
      dsimp only
      rw [w1, w2, w3, w64 (by omega) (by omega)]
    · refine ⟨1 + r2 * (1 + r3), p + 1 + 1 + 1 + 1, by unfold DN; omega, by omega, by omega, Ev.bind e1 (Ev.neg c (Ev.bind e2 (Ev.bind e3 (Ev.bind e4 (Ev.neg c2 (Ev.ret ?_))))))⟩
      dsimp only
      rw [w1, w2, w3]
theorem sq_bd {a x m : Int} (ha : -5001 ≤ a ∧ a ≤ 5001) (hx : 1 ≤ x ∧ x ≤ m) (hm : m ≤ 10) : (-50010 ≤ a * x ∧ a * x ≤ 50010) ∧ (-500100 ≤ a * x * x ∧ a * x * x ≤ 500100) := by
  have h1 : (a * x).natAbs ≤ 5001 * 10 := by rw [Int.natAbs_mul]; exact Nat.mul_le_mul (by omega) (by omega)
  have h2 : (a * x * x).natAbs ≤ 5001 * 10 * 10 := by rw [Int.natAbs_mul]; exact Nat.mul_le_mul h1 (by omega)
  omega

/-- The places that are drawn. -/
def DP (p : Int) : Prop := p ∈ [0, 1, 4, -3, 97, 9, 2, 3, 5, 7, 11, 13]
theorem DP.bd {p : Int} (h : DP p) : -3 ≤ p ∧ p ≤ 97 := by
  unfold DP at h
  simp only [List.mem_cons, List.not_mem_nil, or_false] at h
  omega
theorem rd6p {i : Int} (h0 : 0 ≤ i) (h1 : i < 6) : DP (rd [0, 1, 4, -3, 97, 9] i) := by
  unfold DP
  rcases (by omega : i = 0 ∨ i = 1 ∨ i = 2 ∨ i = 3 ∨ i = 4 ∨ i = 5) with rfl | rfl | rfl | rfl | rfl | rfl <;> decide
theorem rd8p {i : Int} (h0 : 0 ≤ i) (h1 : i < 8) : DP (rd [2, 3, 5, 7, 11, 13, 3, 2] i) := by
  unfold DP
  rcases (by omega : i = 0 ∨ i = 1 ∨ i = 2 ∨ i = 3 ∨ i = 4 ∨ i = 5 ∨ i = 6 ∨ i = 7) with rfl | rfl | rfl | rfl | rfl | rfl | rfl | rfl <;> decide
theorem spec_l91Prime_ev {b : List Int} (hb : BY b) {p : Int} (hp : 0 ≤ p) (hp2 : p ≤ 900000) : ∃ n q, DP n ∧ p ≤ q ∧ q ≤ p + 2 ∧ Ev (fun k => spec_l91Prime.f k b p) (n, q) := by
  obtain ⟨r1, a1, a2, e1⟩ := pick_ev hb (n := 24) (p := p) (by omega) hp (by omega)
  unfold spec_l91Prime.f
  by_cases c : r1 = 0
  · obtain ⟨r2, a3, a4, e2⟩ := pick_ev hb (n := 6) (p := p + 1) (by omega) (by omega) (by omega)
    exact ⟨_, p + 1 + 1, rd6p a3 a4, by omega, by omega, Ev.bind e1 (Ev.pos c (Ev.sbind (Ev.bind e2 (Ev.pos a3 (Ev.pos (by simp; omega) (Ev.now _))))))⟩
  · obtain ⟨r2, a3, a4, e2⟩ := pick_ev hb (n := 8) (p := p + 1) (by omega) (by omega) (by omega)
    exact ⟨_, p + 1 + 1, rd8p a3 a4, by omega, by omega, Ev.bind e1 (Ev.neg c (Ev.sbind (Ev.bind e2 (Ev.pos a3 (Ev.pos (by simp; omega) (Ev.now _))))))⟩
theorem spec_l91Place_ev {b : List Int} (hb : BY b) {p : Int} (hp : 0 ≤ p) (hp2 : p ≤ 800000) : ∃ n q, DP n ∧ p ≤ q ∧ q ≤ p + 3 ∧ Ev (fun k => spec_l91Place.f k b p) (n, q) := by
  obtain ⟨r1, a1, a2, e1⟩ := pick_ev hb (n := 5) (p := p) (by omega) hp (by omega)
  unfold spec_l91Place.f
  by_cases c : r1 = 0
  · exact ⟨0, p + 1, by unfold DP; decide, by omega, by omega, Ev.bind e1 (Ev.pos c (Ev.now _))⟩
  · obtain ⟨n, q, h1, h2, h3, h4⟩ := spec_l91Prime_ev hb (p := p + 1) (by omega) (by omega)
    exact ⟨n, q, h1, by omega, by omega, Ev.bind e1 (Ev.neg c (Ev.bind h4 (Ev.now _)))⟩

/-- Two drawn numbers: the second one may be the first one times a square. -/
def D2 (a b : Int) : Prop := DN a ∧ (DN b ∨ ∃ x, 1 ≤ x ∧ x ≤ 8 ∧ b = a * x * x)
theorem D2.bd {a b : Int} (h : D2 a b) : (-5001 ≤ a ∧ a ≤ 5001) ∧ (-500100 ≤ b ∧ b ≤ 500100) := by
  obtain ⟨h1, h2⟩ := h
  have := h1.bd
  refine ⟨this, ?_⟩
  rcases h2 with h2 | ⟨x, x1, x2, rfl⟩
  · have := h2.bd; omega
  · exact (sq_bd this ⟨x1, x2⟩ (by omega)).2
theorem spec_l91Pair_ev {b : List Int} (hb : BY b) {p : Int} (hp : 0 ≤ p) (hp2 : p ≤ 700000) : ∃ x y z q, D2 x y ∧ DP z ∧ p ≤ q ∧ q ≤ p + 20 ∧ Ev (fun k => spec_l91Pair.f k b p) (x, y, z, q) := by
  obtain ⟨x, q1, h1, h2, h3, e1⟩ := spec_l91Number_ev hb (p := p) hp (by omega)
  obtain ⟨y, q2, h4, h5, h6, e2⟩ := spec_l91Number_ev hb (p := q1) (by omega) (by omega)
  obtain ⟨r, a1, a2, e3⟩ := pick_ev hb (n := 4) (p := q2) (by omega) (by omega) (by omega)
  unfold spec_l91Pair.f
  by_cases c : r = 0
  · obtain ⟨s, a3, a4, e4⟩ := pick_ev hb (n := 8) (p := q2 + 1) (by omega) (by omega) (by omega)
    obtain ⟨z, q3, h7, h8, h9, e5⟩ := spec_l91Place_ev hb (p := q2 + 1 + 1) (by omega) (by omega)
    have hs := sq_bd h1.bd (x := 1 + s) (m := 8) (by omega) (by omega)
    refine ⟨x, x * (1 + s) * (1 + s), z, q3, ⟨h1, .inr ⟨1 + s, by omega, by omega, rfl⟩⟩, h7, by omega, by omega, Ev.bind e1 (Ev.bind e2 (Ev.bind e3 (Ev.pos c (Ev.bind e4 (Ev.bind e5 (Ev.ret ?_))))))⟩
    dsimp only
    rw [w64 (x := 1 + s) (by omega) (by omega), w64 (x := x * (1 + s)) (by omega) (by omega), w64 (by omega) (by omega)]
  · obtain ⟨z, q3, h7, h8, h9, e5⟩ := spec_l91Place_ev hb (p := q2 + 1) (by omega) (by omega)
    exact ⟨x, y, z, q3, ⟨h1, .inl h4⟩, h7, by omega, by omega, Ev.bind e1 (Ev.bind e2 (Ev.bind e3 (Ev.neg c (Ev.bind e5 (Ev.now _)))))⟩

theorem tmod_emod {a m : Int} (h : 0 ≤ a) : Int.tmod a m = a % m := Int.tmod_eq_emod_of_nonneg h
theorem tdiv_ediv {a m : Int} (h : 0 ≤ a) : Int.tdiv a m = a / m := Int.tdiv_eq_ediv_of_nonneg h
theorem small_mul2 {a b : Int} (ha : 0 ≤ a) (ha' : a ≤ 5000) (hb : 0 ≤ b) (hb' : b ≤ 5000) : 0 ≤ a * b ∧ a * b ≤ 25000000 := by
  have h1 : a * b ≤ 5000 * 5000 := Int.mul_le_mul (by omega) (by omega) hb (by omega)
  have h2 := Int.mul_nonneg ha hb
  omega
/-- A name is no larger than this. -/
theorem names_small {p : Int} (hp : Nt.Pl p) (hp5 : p ≤ 5000) : ∀ n ∈ Nt.names p, n ≠ 0 ∧ n.natAbs ≤ 25000000 := by
  intro n hn
  refine ⟨Nt.names_nz hp n hn, ?_⟩
  unfold Nt.names at hn
  split at hn
  · simp at hn; omega
  · split at hn
    · simp at hn; omega
    · rename_i h0 h2
      have hp := hp.resolve_left h0
      obtain ⟨n1, n2, n3, n4⟩ := Nt.nr_spec hp h2
      have hm := small_mul2 (a := p) (b := Nt.nr p) (by omega) (by omega) (by omega) (by omega)
      simp only [List.mem_cons, List.not_mem_nil, or_false] at hn
      rcases hn with rfl | rfl | rfl | rfl <;> omega
theorem sq_le {m p : Int} (h0 : 2 ≤ m) (h : m * m ≤ p) : m < p := by
  have : m * 2 ≤ m * m := Int.mul_le_mul_of_nonneg_left h0 (by omega)
  omega
theorem small_sq {m : Int} (h0 : 0 ≤ m) (h : m ≤ 100000) : 0 ≤ m * m ∧ m * m ≤ 10000000000 := by
  have h1 : m * m ≤ m * 100000 := Int.mul_le_mul_of_nonneg_left h h0
  have h2 := Int.mul_nonneg h0 h0
  omega


open Classical in
/-- Is it a prime, at most 5000? -/
noncomputable def isP (p : Int) : Bool := decide (Nt.Pr p ∧ p ≤ 5000)
theorem isP_iff {p : Int} : isP p = true ↔ Nt.Pr p ∧ p ≤ 5000 := by unfold isP; simp
theorem isP_false {p : Int} (h : ¬ (Nt.Pr p ∧ p ≤ 5000)) : isP p = false := by unfold isP; simpa using h
theorem isP_true {p : Int} (h : Nt.Pr p ∧ p ≤ 5000) : isP p = true := isP_iff.2 h

open Classical in
/-- Is it a place, at most 5000? -/
noncomputable def isPl (p : Int) : Bool := decide (p = 0 ∨ (Nt.Pr p ∧ p ≤ 5000))
theorem isPl_iff {p : Int} : isPl p = true ↔ p = 0 ∨ (Nt.Pr p ∧ p ≤ 5000) := by unfold isPl; simp
theorem isPl_pl {p : Int} (h : isPl p = true) : Nt.Pl p ∧ 0 ≤ p ∧ p ≤ 5000 := by
  rcases isPl_iff.1 h with rfl | ⟨h1, h2⟩
  · exact ⟨.inl rfl, by omega, by omega⟩
  · exact ⟨.inr h1, by have := h1.1; omega, h2⟩
theorem isPl_of {p : Int} (h : p ≠ 0) : isPl p = isP p := by
  unfold isPl isP
  simp [h]

theorem impl_prime_l {p : Int} (hp2 : p ≤ 5000) : ∀ (d : Nat) (m : Int), 2 ≤ m → m ≤ 5001 → (p - m).toNat ≤ d → (∀ q, 2 ≤ q → q < m → ¬ q ∣ p) →
    Ev (fun k => impl_prime.l0 k p m) (isP p) := by
  intro d
  induction d with
  | zero =>
    intro m h2 h3 hd hq
    have hs := small_sq (m := m) (by omega) (by omega)
    refine Ev.succ ?_
    simp only [impl_prime.l0]
    rw [w64 (by omega) (by omega)]
    have hgt : p < m * m := by
      rcases Int.lt_or_le p (m * m) with h | h
      · exact h
      · have := sq_le h2 h; omega
    refine Ev.neg (by omega) (Ev.ret ?_)
    by_cases h : 2 ≤ p
    · rw [isP_true ⟨Nt.pr_of_sqrt h (by omega) hq hgt, hp2⟩]; simpa using h
    · rw [isP_false (fun h' => h h'.1.1)]; simpa using h
  | succ d ih =>
    intro m h2 h3 hd hq
    have hs := small_sq (m := m) (by omega) (by omega)
    refine Ev.succ ?_
    simp only [impl_prime.l0]
    rw [w64 (by omega) (by omega)]
    by_cases hle : m * m ≤ p
    · have hlt := sq_le h2 hle
      refine Ev.pos hle (Ev.neg (by omega) ?_)
      by_cases ht : Int.tmod p m = 0
      · refine Ev.pos ht (Ev.ret ?_)
        rw [isP_false (fun h => Nt.not_pr_of_dvd h2 hle (Nt.tmod_zero_iff.1 ht) h.1)]
      · refine Ev.neg ht ?_
        rw [w64 (by omega) (by omega)]
        refine ih (m + 1) (by omega) (by omega) (by omega) (fun q h1 h2 => ?_)
        by_cases e : q = m
        · rw [e]; exact fun h => ht (Nt.tmod_zero_iff.2 h)
        · exact hq q h1 (by omega)
    · refine Ev.neg hle (Ev.ret ?_)
      by_cases h : 2 ≤ p
      · rw [isP_true ⟨Nt.pr_of_sqrt h (by omega) hq (by omega), hp2⟩]; simpa using h
      · rw [isP_false (fun h' => h h'.1.1)]; simpa using h

theorem impl_PrimeIs_ev {p : Int} : Ev (fun k => impl_PrimeIs.f k p) (isP p) := by
  unfold impl_PrimeIs.f
  by_cases h : p ≤ 5000
  · refine Ev.pos h (Ev.bind (a := isP p) ?_ (Ev.now _))
    unfold impl_prime.f
    exact impl_prime_l h _ 2 (by omega) (by omega) (Nat.le_refl _) (fun q h1 h2 => by omega)
  · refine Ev.neg h (Ev.ret ?_)
    rw [isP_false (fun h' => h h'.2)]

theorem impl_PlaceValid_ev {p : Int} : Ev (fun k => impl_PlaceValid.f k p) (isPl p) := by
  unfold impl_PlaceValid.f
  by_cases h : p = 0
  · refine Ev.pos h (Ev.ret ?_)
    rw [isPl_iff.2 (.inl h)]
  · refine Ev.neg h (Ev.bind impl_PrimeIs_ev (Ev.ret ?_))
    rw [isPl_of h]

theorem isq8 {u : Int} (h : u % 2 = 1) : u % 8 = 1 ∨ u % 8 = 3 ∨ u % 8 = 5 ∨ u % 8 = 7 := by omega
theorem pw_if (e : Int) (k : Nat) : Nt.pw e k = if k % 2 = 1 then e else 1 := rfl
/-- The exponent at 2: of rests by 8. -/
theorem exp8 {i j : Nat} {u v : Int} (hu : u % 2 = 1) (hv : v % 2 = 1) :
    (((u % 8 - 1) / 2 * ((v % 8 - 1) / 2) + i * ((v % 8) * (v % 8) - 1) / 8 + j * ((u % 8) * (u % 8) - 1) / 8) % 2) = ((Nt.e4 u * Nt.e4 v + i * Nt.e8 v + j * Nt.e8 u : Nat) : Int) % 2 := by
  unfold Nt.e4 Nt.e8
  have k3 : u % 4 = u % 8 % 4 := by omega
  have k4 : v % 4 = v % 8 % 4 := by omega
  rw [k3, k4]
  rcases isq8 hu with a | a | a | a <;> rcases isq8 hv with b | b | b | b <;> simp only [a, b] <;> simp <;> omega
theorem exp16 {i j : Nat} {u v : Int} (hu : u % 2 = 1) (hv : v % 2 = 1) :
    (((u % 16 - 1) / 2 * ((v % 16 - 1) / 2) + i * (((v % 16) * (v % 16) - 1) / 8) + j * (((u % 16) * (u % 16) - 1) / 8)) % 2) = ((Nt.e4 u * Nt.e4 v + i * Nt.e8 v + j * Nt.e8 u : Nat) : Int) % 2 := by
  unfold Nt.e4 Nt.e8
  have h1 : u % 16 = 1 ∨ u % 16 = 3 ∨ u % 16 = 5 ∨ u % 16 = 7 ∨ u % 16 = 9 ∨ u % 16 = 11 ∨ u % 16 = 13 ∨ u % 16 = 15 := by omega
  have h2 : v % 16 = 1 ∨ v % 16 = 3 ∨ v % 16 = 5 ∨ v % 16 = 7 ∨ v % 16 = 9 ∨ v % 16 = 11 ∨ v % 16 = 13 ∨ v % 16 = 15 := by omega
  have k1 : u % 8 = u % 16 % 8 := by omega
  have k2 : v % 8 = v % 16 % 8 := by omega
  have k3 : u % 4 = u % 16 % 4 := by omega
  have k4 : v % 4 = v % 16 % 4 := by omega
  rw [k1, k2, k3, k4]
  rcases h1 with a | a | a | a | a | a | a | a <;> rcases h2 with b | b | b | b | b | b | b | b <;> simp only [a, b] <;> simp <;> omega
/-- How often a prime divides is bounded by the size. -/
theorem two_pow_le (p : Int) (hp : 2 ≤ p) : ∀ k : Nat, (2 : Int) ^ k ≤ p ^ k
  | 0 => by simp
  | k + 1 => by
    rw [Int.pow_succ, Int.pow_succ]
    exact Int.mul_le_mul (two_pow_le p hp k) hp (by omega) (by have := Nt.pow_pos' hp k; omega)
theorem lt_two_pow' (k : Nat) : (k : Int) < 2 ^ k := by
  have := @Nat.lt_two_pow_self k
  exact_mod_cast this
theorem vl_small {n p : Int} {m : Nat} (hp : 2 ≤ p) (hn : n ≠ 0) (hb : n.natAbs < 2 ^ m) : Nt.vl n p < m := by
  rcases Nat.lt_or_ge (Nt.vl n p) m with h | h
  · exact h
  · exfalso
    obtain ⟨h1, h2⟩ := Nt.vl_spec hp hn
    have hu : Nt.un n p ≠ 0 := fun e => h2 (e ▸ Int.dvd_zero p)
    have e : n.natAbs = (Nt.un n p).natAbs * (p ^ Nt.vl n p).natAbs := by rw [← Int.natAbs_mul, ← h1]
    have h3 : 1 * (p ^ Nt.vl n p).natAbs ≤ (Nt.un n p).natAbs * (p ^ Nt.vl n p).natAbs := Nat.mul_le_mul_right _ (by omega)
    have h4 := two_pow_le p hp (Nt.vl n p)
    have h5 : (2 : Nat) ^ m ≤ 2 ^ Nt.vl n p := Nat.pow_le_pow_right (by omega) h
    have h6 : (((2 : Nat) ^ Nt.vl n p : Nat) : Int) = (2 : Int) ^ Nt.vl n p := by exact_mod_cast rfl
    omega
theorem un_le {n p : Int} (hp : 2 ≤ p) (hn : n ≠ 0) : (Nt.un n p).natAbs ≤ n.natAbs := by
  obtain ⟨h1, h2⟩ := Nt.vl_spec hp hn
  have e : n.natAbs = (Nt.un n p).natAbs * (p ^ Nt.vl n p).natAbs := by rw [← Int.natAbs_mul, ← h1]
  have h3 := Nt.pow_pos' hp (Nt.vl n p)
  have := Nat.mul_le_mul_left (Nt.un n p).natAbs (show 1 ≤ (p ^ Nt.vl n p).natAbs by omega)
  omega
theorem par_sign {e : Int} {n : Nat} (h : e % 2 = (n : Int) % 2) : (if e % 2 = 0 then (1 : Int) else -1) = Nt.pw (-1) n := by
  rw [pw_if, h]
  rcases Nat.mod_two_eq_zero_or_one n with h | h
  · rw [if_pos (by omega), if_neg (by omega)]
  · rw [if_neg (by omega), if_pos h]
theorem leg_neg {p : Int} (hp : Nt.Pr p) (h2 : p ≠ 2) (n : Nat) : Nt.pw (Nt.leg (-1) p) n = Nt.pw (-1) (n * Nt.hf p) := by
  rw [Nt.leg_neg_one hp h2, pw_if, pw_if, Nat.mul_mod]
  rcases Nat.mod_two_eq_zero_or_one n with h | h <;> rcases Nat.mod_two_eq_zero_or_one (Nt.hf p) with h' | h' <;> rw [h, h'] <;> simp

theorem impl_power_l (x : Int) (hx : -5000 ≤ x ∧ x ≤ 5000) (n : Nat) (hn : n ≤ 4) : ∀ (d i : Nat), i + d = n → Ev (fun k => impl_power.l0 k x (x ^ i) (n : Int) (i : Int)) (x ^ n)
  | 0, i, h => by
    refine Ev.succ ?_
    simp only [impl_power.l0]
    refine Ev.neg (by omega) (Ev.ret ?_)
    rw [show i = n by omega]
  | d + 1, i, h => by
    refine Ev.succ ?_
    simp only [impl_power.l0]
    refine Ev.pos (by omega) ?_
    have hb : -625000000000000 ≤ x ^ i ∧ x ^ i ≤ 625000000000000 := by
      have h1 : (x ^ i).natAbs ≤ 5000 ^ 4 := by
        rw [Int.natAbs_pow]
        exact Nat.le_trans (Nat.pow_le_pow_left (show x.natAbs ≤ 5000 by omega) i) (Nat.pow_le_pow_right (by omega) (by omega))
      omega
    have hb2 : -3125000000000000000 ≤ x ^ i * x ∧ x ^ i * x ≤ 3125000000000000000 := by
      have h1 : (x ^ i * x).natAbs ≤ 625000000000000 * 5000 := by
        rw [Int.natAbs_mul]
        exact Nat.mul_le_mul (by omega) (by omega)
      omega
    rw [w64 (x := x ^ i * x) (by omega) (by omega), w64 (by omega) (by omega), cast_succ, ← Int.pow_succ]
    exact impl_power_l x hx n hn d (i + 1) (by omega)
theorem impl_power_ev {x e : Int} (hx : -5000 ≤ x ∧ x ≤ 5000) (n : Nat) (he : e = n) (hn : n ≤ 4) : Ev (fun k => impl_power.f k x e) (x ^ n) := by
  subst he
  unfold impl_power.f
  simpa using impl_power_l x hx n hn n 0 (by omega)
theorem impl_power_par {x e : Int} (hx : -5000 ≤ x ∧ x ≤ 5000) (n : Nat) (he : e = ((n % 2 : Nat) : Int)) : Ev (fun k => impl_power.f k x e) (Nt.pw x n) := by
  refine Ev.to (impl_power_ev hx (n % 2) he (by omega)) ?_
  rw [pw_if]
  rcases Nat.mod_two_eq_zero_or_one n with h | h <;> rw [h] <;> simp [Int.pow_succ]
theorem impl_power_l5 (x : Int) (hx : -5000 ≤ x ∧ x ≤ 5000) (n : Nat) (hn : n ≤ 5) : ∀ (d i : Nat), i + d = n → Ev (fun k => impl_power.l0 k x (x ^ i) (n : Int) (i : Int)) (x ^ n)
  | 0, i, h => by
    refine Ev.succ ?_
    simp only [impl_power.l0]
    refine Ev.neg (by omega) (Ev.ret ?_)
    rw [show i = n by omega]
  | d + 1, i, h => by
    refine Ev.succ ?_
    simp only [impl_power.l0]
    refine Ev.pos (by omega) ?_
    have hb : -625000000000000 ≤ x ^ i ∧ x ^ i ≤ 625000000000000 := by
      have h1 : (x ^ i).natAbs ≤ 5000 ^ 4 := by
        rw [Int.natAbs_pow]
        exact Nat.le_trans (Nat.pow_le_pow_left (show x.natAbs ≤ 5000 by omega) i) (Nat.pow_le_pow_right (by omega) (by omega))
      omega
    have hb2 : -3125000000000000000 ≤ x ^ i * x ∧ x ^ i * x ≤ 3125000000000000000 := by
      have h1 : (x ^ i * x).natAbs ≤ 625000000000000 * 5000 := by
        rw [Int.natAbs_mul]
        exact Nat.mul_le_mul (by omega) (by omega)
      omega
    rw [w64 (x := x ^ i * x) (by omega) (by omega), w64 (by omega) (by omega), cast_succ, ← Int.pow_succ]
    exact impl_power_l5 x hx n hn d (i + 1) (by omega)
theorem impl_power_ev5 {x e : Int} (hx : -5000 ≤ x ∧ x ≤ 5000) (n : Nat) (he : e = n) (hn : n ≤ 5) : Ev (fun k => impl_power.f k x e) (x ^ n) := by
  subst he
  unfold impl_power.f
  simpa using impl_power_l5 x hx n hn n 0 (by omega)

theorem div_facts {n p : Int} (hp : 2 ≤ p) (hn : n ≠ 0) (h : Int.tmod n p = 0) : Int.tdiv n p ≠ 0 ∧ (Int.tdiv n p).natAbs < n.natAbs ∧ Nt.vl n p = Nt.vl (Int.tdiv n p) p + 1 ∧ Nt.un n p = Nt.un (Int.tdiv n p) p := by
  obtain ⟨c, rfl⟩ := Nt.tmod_zero_iff.1 h
  rw [Int.mul_tdiv_cancel_left _ (by omega)]
  have hc : c ≠ 0 := by intro e; subst e; simp at hn
  refine ⟨hc, ?_, ?_⟩
  · rw [Int.natAbs_mul]
    have h1 : 2 ≤ p.natAbs := by omega
    have := Nat.mul_le_mul_right c.natAbs h1
    have : 0 < c.natAbs := by omega
    omega
  · obtain ⟨h1, h2⟩ := Nt.vl_spec hp hc
    refine Nt.vl_eq hp hn h2 ?_
    rw [Int.pow_succ]
    generalize p ^ Nt.vl c p = X at *
    generalize Nt.un c p = U at *
    rw [h1]; grind
theorem div_none {n p : Int} (hp : 2 ≤ p) (hn : n ≠ 0) (h : ¬ Int.tmod n p = 0) : Nt.vl n p = 0 ∧ Nt.un n p = n :=
  Nt.vl_unit hp hn (fun hd => h (Nt.tmod_zero_iff.2 hd))
theorem vl_le_abs {n p : Int} (hp : 2 ≤ p) : ∀ (d : Nat) (n : Int), n ≠ 0 → n.natAbs ≤ d → Nt.vl n p ≤ n.natAbs
  | 0, n, hn, h => by omega
  | d + 1, n, hn, h => by
    by_cases ht : Int.tmod n p = 0
    · obtain ⟨h1, h2, h3, _⟩ := div_facts hp hn ht
      have := vl_le_abs (n := n) hp d (Int.tdiv n p) h1 (by omega)
      omega
    · rw [(div_none hp hn ht).1]; omega

theorem impl_split_l {p : Int} (hp : 2 ≤ p) : ∀ (d : Nat) (n : Int) (v : Nat), n ≠ 0 → n.natAbs ≤ d → d ≤ 1000000000000 → v + n.natAbs ≤ 1000000000000 →
    Ev (fun k => impl_split.l0 k n p (v : Int)) (((v + Nt.vl n p : Nat) : Int), Nt.un n p) := by
  intro d
  induction d with
  | zero => intro n v hn h; omega
  | succ d ih =>
    intro n v hn h hd hv
    refine Ev.succ ?_
    simp only [impl_split.l0]
    refine Ev.neg (by omega) ?_
    by_cases ht : Int.tmod n p = 0
    · obtain ⟨h1, h2, h3, h4⟩ := div_facts hp hn ht
      refine Ev.pos ht ?_
      rw [w64 (x := Int.tdiv n p) (by omega) (by omega), w64 (by omega) (by omega), cast_succ]
      refine Ev.to (ih (Int.tdiv n p) (v + 1) h1 (by omega) (by omega) (by omega)) ?_
      rw [h3, h4]; congr 2; omega
    · refine Ev.neg ht (Ev.ret ?_)
      obtain ⟨h1, h2⟩ := div_none hp hn ht
      rw [h1, h2]; rfl
theorem impl_split_ev {n p : Int} (hp : 2 ≤ p) (hn : n ≠ 0) (hb : n.natAbs ≤ 1000000000000) : Ev (fun k => impl_split.f k n p) ((Nt.vl n p : Int), Nt.un n p) := by
  have := impl_split_l hp _ n 0 hn (Nat.le_refl _) hb (by omega)
  unfold impl_split.f
  simpa using this

theorem impl_rest_eq {a m : Int} (hm : 0 < m) (hm2 : m ≤ 1000000) : impl_rest.f a m = some (a % m) := by
  unfold impl_rest.f
  have := Nt.rest_bd (a := a) hm
  rw [if_neg (by omega), w64 (by omega) (by omega), Nt.rest_eq hm]

theorem impl_residue_l {p u : Int} (hp : Nt.Pr p) (h2 : p ≠ 2) (hp5 : p ≤ 5000) (hu : ¬ p ∣ u) : ∀ (d : Nat) (x : Int), 1 ≤ x → x ≤ p → (p - x).toNat ≤ d → (∀ y, 1 ≤ y → y < x → y * y % p ≠ u % p) →
    Ev (fun k => impl_residue.l0 k p (u % p) x) (Nt.leg u p) := by
  have hp1 := hp.1
  intro d
  induction d with
  | zero =>
    intro x h1 h3 hd hy
    refine Ev.succ ?_
    simp only [impl_residue.l0]
    rw [tdiv_ediv (by omega), w64 (by omega) (by omega)]
    refine Ev.neg (by omega) (Ev.ret ?_)
    refine ((Nt.leg_pm hu).resolve_left fun h => ?_).symm
    obtain ⟨y, y1, y2, y3⟩ := (Nt.leg_search hp h2 hu).1 h
    exact hy y y1 (by omega) y3
  | succ d ih =>
    intro x h1 h3 hd hy
    have hs := small_sq (m := x) (by omega) (by omega)
    refine Ev.succ ?_
    simp only [impl_residue.l0]
    rw [tdiv_ediv (a := p) (by omega), w64 (x := p / 2) (by omega) (by omega)]
    by_cases hle : x ≤ p / 2
    · refine Ev.pos hle (Ev.neg (by omega) ?_)
      rw [w64 (x := x * x) (by omega) (by omega), tmod_emod (by omega)]
      by_cases he : x * x % p = u % p
      · refine Ev.pos he (Ev.ret ?_)
        exact ((Nt.leg_search hp h2 hu).2 ⟨x, h1, hle, he⟩).symm
      · refine Ev.neg he ?_
        rw [w64 (by omega) (by omega)]
        refine ih (x + 1) (by omega) (by omega) (by omega) (fun y y1 y2 => ?_)
        by_cases e : y = x
        · rw [e]; exact he
        · exact hy y y1 (by omega)
    · refine Ev.neg hle (Ev.ret ?_)
      refine ((Nt.leg_pm hu).resolve_left fun h => ?_).symm
      obtain ⟨y, y1, y2, y3⟩ := (Nt.leg_search hp h2 hu).1 h
      exact hy y y1 (by omega) y3

theorem impl_residue_ev {p u : Int} (hp : Nt.Pr p) (h2 : p ≠ 2) (hp5 : p ≤ 5000) : Ev (fun k => impl_residue.f k u p) (Nt.leg u p) := by
  unfold impl_residue.f
  rw [impl_rest_eq hp.pos (by omega)]
  refine Ev.sbind ?_
  by_cases h : p ∣ u
  · refine Ev.pos (Int.emod_eq_zero_of_dvd h) (Ev.ret ?_)
    exact (Nt.leg_zero h).symm
  · refine Ev.neg (fun e => h (Int.dvd_of_emod_eq_zero e)) ?_
    exact impl_residue_l hp h2 hp5 h _ 1 (by omega) (by have := hp.1; omega) (Nat.le_refl _) (fun y h1 h2 => by omega)

theorem pw_bd {x : Int} (hx : -1 ≤ x ∧ x ≤ 1) (n : Nat) : -1 ≤ Nt.pw x n ∧ Nt.pw x n ≤ 1 := by rw [pw_if]; split <;> omega
theorem tri_mul {x y : Int} (hx : -1 ≤ x ∧ x ≤ 1) (hy : -1 ≤ y ∧ y ≤ 1) : -1 ≤ x * y ∧ x * y ≤ 1 := by
  rcases (by omega : x = -1 ∨ x = 0 ∨ x = 1) with h | h | h <;> rw [h] <;> omega

theorem impl_symbol_ev {a b p : Int} (hp : Nt.Pl p) (hp5 : p ≤ 5000) (ha : a ≠ 0) (hb : b ≠ 0) (ha2 : a.natAbs ≤ 1000000000000) (hb2 : b.natAbs ≤ 1000000000000) :
    Ev (fun k => impl_symbol.f k a b p) (Nt.hil a b p) := by
  unfold impl_symbol.f
  rcases hp with rfl | hp
  · refine Ev.pos rfl ?_
    unfold Nt.hil
    rw [if_pos rfl]
    refine Ev.by_ite (fun h1 => Ev.by_ite (fun h2 => Ev.ret (by rw [if_pos ⟨h1, h2⟩])) (fun h2 => Ev.ret (by rw [if_neg (fun h => h2 h.2)]))) (fun h1 => Ev.ret (by rw [if_neg (fun h => h1 h.1)]))
  · have hp1 := hp.1
    refine Ev.neg (by omega) (Ev.bind (impl_split_ev hp1 ha ha2) (Ev.bind (impl_split_ev hp1 hb hb2) ?_))
    dsimp only
    have i1 := vl_small (m := 40) hp1 ha (by omega)
    have j1 := vl_small (m := 40) hp1 hb (by omega)
    obtain ⟨a1, a2⟩ := Nt.vl_spec hp1 ha
    obtain ⟨b1, b2⟩ := Nt.vl_spec hp1 hb
    by_cases h2 : p = 2
    · subst h2
      have ou := Nt.odd_of a2
      have ov := Nt.odd_of b2
      refine Ev.pos rfl ?_
      rw [impl_rest_eq (by omega) (by omega), impl_rest_eq (by omega) (by omega)]
      refine Ev.sbind (Ev.sbind ?_)
      have hex := exp8 (i := Nt.vl a 2) (j := Nt.vl b 2) ou ov
      rw [Nt.hil_two]
      unfold Nt.hil2
      generalize Nt.vl a 2 = i at *
      generalize Nt.vl b 2 = j at *
      generalize Nt.un a 2 = u at *
      generalize Nt.un b 2 = v at *
      have u8 : u % 8 = 1 ∨ u % 8 = 3 ∨ u % 8 = 5 ∨ u % 8 = 7 := isq8 ou
      have v8 : v % 8 = 1 ∨ v % 8 = 3 ∨ v % 8 = 5 ∨ v % 8 = 7 := isq8 ov
      have su : 0 ≤ u % 8 * (u % 8) - 1 ∧ u % 8 * (u % 8) - 1 ≤ 48 := by rcases u8 with h | h | h | h <;> rw [h] <;> omega
      have sv : 0 ≤ v % 8 * (v % 8) - 1 ∧ v % 8 * (v % 8) - 1 ≤ 48 := by rcases v8 with h | h | h | h <;> rw [h] <;> omega
      have siv : 0 ≤ (i : Int) * (v % 8 * (v % 8) - 1) ∧ (i : Int) * (v % 8 * (v % 8) - 1) ≤ 40 * 48 := ⟨Int.mul_nonneg (by omega) sv.1, Int.mul_le_mul (by omega) sv.2 sv.1 (by omega)⟩
      have sju : 0 ≤ (j : Int) * (u % 8 * (u % 8) - 1) ∧ (j : Int) * (u % 8 * (u % 8) - 1) ≤ 40 * 48 := ⟨Int.mul_nonneg (by omega) su.1, Int.mul_le_mul (by omega) su.2 su.1 (by omega)⟩
      have hu2 : 0 ≤ (u % 8 - 1) / 2 ∧ (u % 8 - 1) / 2 ≤ 3 := by omega
      have hv2 : 0 ≤ (v % 8 - 1) / 2 ∧ (v % 8 - 1) / 2 ≤ 3 := by omega
      have suv : 0 ≤ (u % 8 - 1) / 2 * ((v % 8 - 1) / 2) ∧ (u % 8 - 1) / 2 * ((v % 8 - 1) / 2) ≤ 3 * 3 := ⟨Int.mul_nonneg hu2.1 hv2.1, Int.mul_le_mul hu2.2 hv2.2 hv2.1 (by omega)⟩
      have q1 : wrap64 (u % 8 * (u % 8)) = u % 8 * (u % 8) := w64 (by omega) (by omega)
      have q2 : wrap64 (v % 8 * (v % 8)) = v % 8 * (v % 8) := w64 (by omega) (by omega)
      have q3 : wrap64 (u % 8 - 1) = u % 8 - 1 := w64 (by omega) (by omega)
      have q4 : wrap64 (v % 8 - 1) = v % 8 - 1 := w64 (by omega) (by omega)
      rw [q1, q2, q3, q4, w64 (x := u % 8 * (u % 8) - 1) (by omega) (by omega), w64 (x := v % 8 * (v % 8) - 1) (by omega) (by omega),
        w64 (x := (i : Int) * (v % 8 * (v % 8) - 1)) (by omega) (by omega), w64 (x := (j : Int) * (u % 8 * (u % 8) - 1)) (by omega) (by omega),
        tdiv_ediv siv.1, tdiv_ediv sju.1, tdiv_ediv (a := u % 8 - 1) (by omega), tdiv_ediv (a := v % 8 - 1) (by omega)]
      generalize (i : Int) * (v % 8 * (v % 8) - 1) = A at *
      generalize (j : Int) * (u % 8 * (u % 8) - 1) = B at *
      rw [w64 (x := (u % 8 - 1) / 2) (by omega) (by omega), w64 (x := (v % 8 - 1) / 2) (by omega) (by omega)]
      generalize (u % 8 - 1) / 2 * ((v % 8 - 1) / 2) = C at *
      rw [w64 (x := A / 8) (by omega) (by omega), w64 (x := B / 8) (by omega) (by omega), w64 (x := C) (by omega) (by omega), w64 (x := C + A / 8) (by omega) (by omega), w64 (x := C + A / 8 + B / 8) (by omega) (by omega), tmod_emod (by omega)]
      exact Ev.bind (impl_power_par (by omega) _ (by rw [hex]; omega)) (Ev.now _)
    · have h3 := Nt.odd_ge hp h2
      have ho := Nt.odd_odd hp h2
      refine Ev.neg h2 ?_
      unfold Nt.hil
      rw [if_neg (by omega), if_neg h2]
      unfold Nt.hilp
      rw [leg_neg hp h2]
      have lu := Nt.leg_range (Nt.un a p) p
      have lv := Nt.leg_range (Nt.un b p) p
      have hij : 0 ≤ (Nt.vl a p : Int) * (Nt.vl b p : Int) ∧ (Nt.vl a p : Int) * (Nt.vl b p : Int) ≤ 40 * 40 := ⟨Int.mul_nonneg (by omega) (by omega), Int.mul_le_mul (by omega) (by omega) (by omega) (by omega)⟩
      have hijp : 0 ≤ (Nt.vl a p : Int) * (Nt.vl b p : Int) * (p - 1) ∧ (Nt.vl a p : Int) * (Nt.vl b p : Int) * (p - 1) ≤ 1600 * 5000 := ⟨Int.mul_nonneg hij.1 (by omega), Int.mul_le_mul (by omega) (by omega) (by omega) (by omega)⟩
      have ee : (Nt.vl a p : Int) * (Nt.vl b p : Int) * (p - 1) / 2 = ((Nt.vl a p * Nt.vl b p * Nt.hf p : Nat) : Int) := by
        have : p - 1 = 2 * (Nt.hf p : Int) := by unfold Nt.hf; omega
        rw [this]
        push_cast
        rw [show (Nt.vl a p : Int) * (Nt.vl b p : Int) * (2 * (Nt.hf p : Int)) = 2 * ((Nt.vl a p : Int) * (Nt.vl b p : Int) * (Nt.hf p : Int)) by grind]
        omega
      rw [w64 (x := (Nt.vl a p : Int) * (Nt.vl b p : Int)) (by omega) (by omega), w64 (x := p - 1) (by omega) (by omega), w64 (x := (Nt.vl a p : Int) * (Nt.vl b p : Int) * (p - 1)) (by omega) (by omega), tdiv_ediv hijp.1, ee, w64 (by omega) (by omega)]
      refine Ev.bind (impl_power_par (by omega) (Nt.vl a p * Nt.vl b p * Nt.hf p) (by rw [tmod_emod (by omega)]; omega)) ?_
      refine Ev.bind (impl_residue_ev hp h2 hp5) (Ev.bind (impl_power_par (by omega) (Nt.vl b p) (by rw [tmod_emod (by omega)]; omega)) ?_)
      refine Ev.bind (impl_residue_ev hp h2 hp5) (Ev.bind (impl_power_par (by omega) (Nt.vl a p) (by rw [tmod_emod (by omega)]; omega)) ?_)
      have x1 := pw_bd (x := -1) (by omega) (Nt.vl a p * Nt.vl b p * Nt.hf p)
      have x2 := pw_bd lu (Nt.vl b p)
      have x3 := pw_bd lv (Nt.vl a p)
      have x4 := tri_mul x1 x2
      have x5 := tri_mul x4 x3
      rw [w64 (x := Nt.pw (-1) _ * Nt.pw _ _) (by omega) (by omega), w64 (by omega) (by omega)]
      exact Ev.now _

/-- Is it a number? -/
def isN (a : Int) : Bool := decide (-5000 ≤ a ∧ a ≤ 5000)
theorem isN_iff {a : Int} : isN a = true ↔ -5000 ≤ a ∧ a ≤ 5000 := by unfold isN; simp
theorem impl_isNumber_eq (a : Int) : impl_isNumber.f a = some (isN a) := by
  unfold impl_isNumber.f isN
  split
  · congr 1; simp only [decide_eq_decide]; omega
  · congr 1; simp; omega
theorem spec_l6In_eq (a b c : Int) : spec_l6In.f a b c = some (decide (b ≤ a ∧ a ≤ c)) := by
  unfold spec_l6In.f
  split
  · congr 1; simp only [decide_eq_decide]; omega
  · congr 1; simp; omega
theorem spec_l1Number_eq (a : Int) : spec_l1Number.f a = some (isN a) := by
  unfold spec_l1Number.f isN
  rw [spec_l6In_eq]; rfl

/-- Are both numbers that are not 0? -/
def isB (a b : Int) : Bool := decide (a ≠ 0 ∧ b ≠ 0 ∧ -5000 ≤ a ∧ a ≤ 5000 ∧ -5000 ≤ b ∧ b ≤ 5000)
theorem isB_iff {a b : Int} : isB a b = true ↔ a ≠ 0 ∧ b ≠ 0 ∧ -5000 ≤ a ∧ a ≤ 5000 ∧ -5000 ≤ b ∧ b ≤ 5000 := by unfold isB; simp
theorem impl_bothNumbers_eq (a b : Int) : impl_bothNumbers.f a b = some (isB a b) := by
  unfold impl_bothNumbers.f isB
  simp only [impl_isNumber_eq, Option.bind_some]
  unfold isN
  repeat' split
  all_goals (congr 1; simp_all)
  all_goals (intros; omega)

/-- What SymbolOf tells. -/
noncomputable def sym (a b p : Int) : Int := if isB a b = true ∧ isPl p = true then Nt.hil a b p else 0
theorem impl_SymbolOf_ev {a b p : Int} : Ev (fun k => impl_SymbolOf.f k a b p) (sym a b p) := by
  unfold impl_SymbolOf.f sym
  rw [impl_bothNumbers_eq]
  refine Ev.sbind ?_
  by_cases hB : isB a b = true
  · refine Ev.pos hB (Ev.bind impl_PlaceValid_ev ?_)
    by_cases hP : isPl p = true
    · obtain ⟨q1, q2, q3⟩ := isPl_pl hP
      have hb := isB_iff.1 hB
      rw [if_pos ⟨hB, hP⟩]
      exact Ev.pos hP (Ev.bind (impl_symbol_ev q1 q3 hb.1 hb.2.1 (by omega) (by omega)) (Ev.now _))
    · rw [if_neg (fun h => hP h.2)]
      exact Ev.neg hP (Ev.now _)
  · rw [if_neg (fun h => hB h.1)]
    exact Ev.neg hB (Ev.now _)
theorem sym_nz {a b p : Int} (h : sym a b p ≠ 0) : isB a b = true ∧ isPl p = true ∧ sym a b p = Nt.hil a b p := by
  unfold sym at h ⊢
  split at h
  · rename_i h'
    exact ⟨h'.1, h'.2, by rw [if_pos h']⟩
  · exact absurd rfl h
theorem sym_of {a b p : Int} (hB : isB a b = true) (hP : isPl p = true) : sym a b p = Nt.hil a b p := by
  unfold sym; rw [if_pos ⟨hB, hP⟩]

/-- Is it a solution up to m, and not all a multiple of p? -/
def isS (a b p m x y z : Int) : Bool := decide (¬ (p ∣ x ∧ p ∣ y ∧ p ∣ z) ∧ m ∣ z * z - a * x * x - b * y * y)
theorem isS_iff {a b p m x y z : Int} : isS a b p m x y z = true ↔ ¬ (p ∣ x ∧ p ∣ y ∧ p ∣ z) ∧ m ∣ z * z - a * x * x - b * y * y := by unfold isS; rw [decide_eq_true_eq]
theorem isS_false {a b p m x y z : Int} (h : ¬ (¬ (p ∣ x ∧ p ∣ y ∧ p ∣ z) ∧ m ∣ z * z - a * x * x - b * y * y)) : isS a b p m x y z = false := by unfold isS; rw [decide_eq_false_iff_not]; exact h
/-- Is there one from z on; from y on; from x on? -/
def s2 (a b p m x y : Int) : Nat → Int → Bool
  | 0, _ => false
  | d + 1, z => isS a b p m x y z || s2 a b p m x y d (z + 1)
def s1 (a b p m x : Int) (M : Nat) : Nat → Int → Bool
  | 0, _ => false
  | d + 1, y => s2 a b p m x y M 0 || s1 a b p m x M d (y + 1)
def s0 (a b p m : Int) (M : Nat) : Nat → Int → Bool
  | 0, _ => false
  | d + 1, x => s1 a b p m x M M 0 || s0 a b p m M d (x + 1)
theorem s2_iff {a b p m x y : Int} : ∀ {d : Nat} {z : Int}, s2 a b p m x y d z = true ↔ ∃ w, z ≤ w ∧ w < z + d ∧ isS a b p m x y w = true
  | 0, z => by
    simp only [s2]
    constructor
    · intro h; cases h
    · rintro ⟨w, h1, h2, _⟩; omega
  | d + 1, z => by
    simp only [s2, Bool.or_eq_true]
    rw [s2_iff]
    constructor
    · rintro (h | ⟨w, h1, h2, h3⟩)
      · exact ⟨z, by omega, by omega, h⟩
      · exact ⟨w, by omega, by omega, h3⟩
    · rintro ⟨w, h1, h2, h3⟩
      by_cases e : w = z
      · exact .inl (e ▸ h3)
      · exact .inr ⟨w, by omega, by omega, h3⟩
theorem s1_iff {a b p m x : Int} {M : Nat} : ∀ {d : Nat} {y : Int}, s1 a b p m x M d y = true ↔ ∃ w, y ≤ w ∧ w < y + d ∧ s2 a b p m x w M 0 = true
  | 0, z => by
    simp only [s1]
    constructor
    · intro h; cases h
    · rintro ⟨w, h1, h2, _⟩; omega
  | d + 1, z => by
    simp only [s1, Bool.or_eq_true]
    rw [s1_iff]
    constructor
    · rintro (h | ⟨w, h1, h2, h3⟩)
      · exact ⟨z, by omega, by omega, h⟩
      · exact ⟨w, by omega, by omega, h3⟩
    · rintro ⟨w, h1, h2, h3⟩
      by_cases e : w = z
      · exact .inl (e ▸ h3)
      · exact .inr ⟨w, by omega, by omega, h3⟩
theorem s0_iff {a b p m : Int} {M : Nat} : ∀ {d : Nat} {x : Int}, s0 a b p m M d x = true ↔ ∃ w, x ≤ w ∧ w < x + d ∧ s1 a b p m w M M 0 = true
  | 0, z => by
    simp only [s0]
    constructor
    · intro h; cases h
    · rintro ⟨w, h1, h2, _⟩; omega
  | d + 1, z => by
    simp only [s0, Bool.or_eq_true]
    rw [s0_iff]
    constructor
    · rintro (h | ⟨w, h1, h2, h3⟩)
      · exact ⟨z, by omega, by omega, h⟩
      · exact ⟨w, by omega, by omega, h3⟩
    · rintro ⟨w, h1, h2, h3⟩
      by_cases e : w = z
      · exact .inl (e ▸ h3)
      · exact .inr ⟨w, by omega, by omega, h3⟩
theorem s0_ex {a b p m : Int} {M : Nat} (hm : m = M) : s0 a b p m M M 0 = true ↔ Nt.Ex a b p m := by
  rw [s0_iff]
  unfold Nt.Ex
  subst hm
  constructor
  · rintro ⟨x, x1, x2, h⟩
    obtain ⟨y, y1, y2, h⟩ := s1_iff.1 h
    obtain ⟨z, z1, z2, h⟩ := s2_iff.1 h
    have h := isS_iff.1 h
    exact ⟨x, y, z, by omega, by omega, by omega, h.1, h.2⟩
  · rintro ⟨x, y, z, hx, hy, hz, h1, h2⟩
    exact ⟨x, by omega, by omega, s1_iff.2 ⟨y, by omega, by omega, s2_iff.2 ⟨z, by omega, by omega, isS_iff.2 ⟨h1, h2⟩⟩⟩⟩
theorem sol_bd {a b x y z : Int} (ha : -5000 ≤ a ∧ a ≤ 5000) (hb : -5000 ≤ b ∧ b ≤ 5000) (hx : 0 ≤ x ∧ x ≤ 32) (hy : 0 ≤ y ∧ y ≤ 32) (hz : 0 ≤ z ∧ z ≤ 32) :
    (-160000 ≤ a * x ∧ a * x ≤ 160000) ∧ (-5120000 ≤ a * x * x ∧ a * x * x ≤ 5120000) ∧ (-160000 ≤ b * y ∧ b * y ≤ 160000) ∧ (-5120000 ≤ b * y * y ∧ b * y * y ≤ 5120000) ∧ (0 ≤ z * z ∧ z * z ≤ 1024) := by
  have h1 : (a * x).natAbs ≤ 5000 * 32 := by rw [Int.natAbs_mul]; exact Nat.mul_le_mul (by omega) (by omega)
  have h2 : (a * x * x).natAbs ≤ 5000 * 32 * 32 := by rw [Int.natAbs_mul]; exact Nat.mul_le_mul h1 (by omega)
  have h3 : (b * y).natAbs ≤ 5000 * 32 := by rw [Int.natAbs_mul]; exact Nat.mul_le_mul (by omega) (by omega)
  have h4 : (b * y * y).natAbs ≤ 5000 * 32 * 32 := by rw [Int.natAbs_mul]; exact Nat.mul_le_mul h3 (by omega)
  have h5 : 0 ≤ z * z ∧ z * z ≤ 32 * 32 := ⟨Int.mul_nonneg hz.1 hz.1, Int.mul_le_mul hz.2 hz.2 hz.1 (by omega)⟩
  omega

theorem ways2_l {a b p m x y : Int} (ha : -5000 ≤ a ∧ a ≤ 5000) (hb : -5000 ≤ b ∧ b ≤ 5000) (hp : 2 ≤ p) (hm : 1 ≤ m ∧ m ≤ 32) (hx : 0 ≤ x ∧ x < m) (hy : 0 ≤ y ∧ y < m) :
    ∀ (d : Nat) (z n : Int), 0 ≤ z → z + d = m → 0 ≤ n → n + d ≤ 1000000 →
      (∃ r, (0 < r ↔ (0 < n ∨ s2 a b p m x y d z = true)) ∧ 0 ≤ r ∧ r ≤ n + d ∧ ∀ res, Ev (fun k => impl_waysModulo.l1 k a b p m r x m x m (y + 1)) res → Ev (fun k => impl_waysModulo.l2 k a b p m n x y m x m y m z) res) := by
  intro d
  induction d with
  | zero =>
    intro z n hz hd hn hnB
    refine ⟨n, by simp [s2], hn, by omega, fun res h => Ev.succ ?_⟩
    simp only [impl_waysModulo.l2]
    rw [w64 (x := y + 1) (by omega) (by omega)]
    exact Ev.neg (by omega) h
  | succ d ih =>
    intro z n hz hd hn hnB
    obtain ⟨b1, b2, b3, b4, b5⟩ := sol_bd (x := x) (y := y) (z := z) ha hb (by omega) (by omega) (by omega)
    have tx : Int.tmod x p = 0 ↔ p ∣ x := Nt.tmod_zero_iff
    have ty : Int.tmod y p = 0 ↔ p ∣ y := Nt.tmod_zero_iff
    have tz : Int.tmod z p = 0 ↔ p ∣ z := Nt.tmod_zero_iff
    have hv : wrap64 (wrap64 (wrap64 (z * z) - wrap64 (wrap64 (a * x) * x)) - wrap64 (wrap64 (b * y) * y)) = z * z - a * x * x - b * y * y := by
      rw [w64 (x := z * z) (by omega) (by omega), w64 (x := a * x) (by omega) (by omega), w64 (x := a * x * x) (by omega) (by omega), w64 (x := b * y) (by omega) (by omega), w64 (x := b * y * y) (by omega) (by omega), w64 (x := z * z - a * x * x) (by omega) (by omega), w64 (by omega) (by omega)]
    have hr := impl_rest_eq (a := z * z - a * x * x - b * y * y) (m := m) (by omega) (by omega)
    have hdv : (z * z - a * x * x - b * y * y) % m = 0 ↔ m ∣ z * z - a * x * x - b * y * y := ⟨Int.dvd_of_emod_eq_zero, Int.emod_eq_zero_of_dvd⟩
    by_cases hall : p ∣ x ∧ p ∣ y ∧ p ∣ z
    · obtain ⟨r, r1, r2, r3, r4⟩ := ih (z + 1) n (by omega) (by omega) hn (by omega)
      refine ⟨r, ?_, r2, by omega, fun res h => Ev.succ ?_⟩
      · rw [r1]; simp [s2, isS_false (fun h => h.1 hall)]
      · simp only [impl_waysModulo.l2]
        rw [w64 (x := z + 1) (by omega) (by omega)]
        exact Ev.pos (by omega) (Ev.neg (by omega) (Ev.pos (tx.2 hall.1) (Ev.pos (ty.2 hall.2.1) (Ev.pos (tz.2 hall.2.2) (r4 res h)))))
    · have rest : ∀ (g h' : Nat → Option Int) (res : Int), Ev (fun k => (impl_rest.f (wrap64 (wrap64 (wrap64 (z * z) - wrap64 (wrap64 (a * x) * x)) - wrap64 (wrap64 (b * y) * y))) m).bind fun t => (if t = 0 then g k else h' k)) res →
          Ev (fun k => if z < m then (if p = 0 then none else (if Int.tmod x p = 0 then (if Int.tmod y p = 0 then (if Int.tmod z p = 0 then impl_waysModulo.l2 k a b p m n x y m x m y m (wrap64 (z + 1)) else ((impl_rest.f (wrap64 (wrap64 (wrap64 (z * z) - wrap64 (wrap64 (a * x) * x)) - wrap64 (wrap64 (b * y) * y))) m).bind fun t => (if t = 0 then g k else h' k))) else ((impl_rest.f (wrap64 (wrap64 (wrap64 (z * z) - wrap64 (wrap64 (a * x) * x)) - wrap64 (wrap64 (b * y) * y))) m).bind fun t => (if t = 0 then g k else h' k))) else ((impl_rest.f (wrap64 (wrap64 (wrap64 (z * z) - wrap64 (wrap64 (a * x) * x)) - wrap64 (wrap64 (b * y) * y))) m).bind fun t => (if t = 0 then g k else h' k)))) else impl_waysModulo.l1 k a b p m n x m x m (wrap64 (y + 1))) res := by
        intro g h' res hg
        refine Ev.pos (by omega) (Ev.neg (by omega) ?_)
        by_cases k1 : p ∣ x
        · refine Ev.pos (tx.2 k1) ?_
          by_cases k2 : p ∣ y
          · refine Ev.pos (ty.2 k2) (Ev.neg (fun e => hall ⟨k1, k2, tz.1 e⟩) hg)
          · exact Ev.neg (fun e => k2 (ty.1 e)) hg
        · exact Ev.neg (fun e => k1 (tx.1 e)) hg
      by_cases hs : m ∣ z * z - a * x * x - b * y * y
      · obtain ⟨r, r1, r2, r3, r4⟩ := ih (z + 1) (n + 1) (by omega) (by omega) (by omega) (by omega)
        refine ⟨r, ?_, r2, by omega, fun res h => Ev.succ ?_⟩
        · have : 0 < r := r1.2 (.inl (by omega))
          simp [s2, isS_iff.2 ⟨hall, hs⟩, this]
        · simp only [impl_waysModulo.l2]
          refine rest _ _ res ?_
          rw [hv, hr, w64 (x := z + 1) (by omega) (by omega), w64 (x := n + 1) (by omega) (by omega)]
          exact Ev.sbind (Ev.pos (hdv.2 hs) (r4 res h))
      · obtain ⟨r, r1, r2, r3, r4⟩ := ih (z + 1) n (by omega) (by omega) hn (by omega)
        refine ⟨r, ?_, r2, by omega, fun res h => Ev.succ ?_⟩
        · rw [r1]; simp [s2, isS_false (fun h => hs h.2)]
        · simp only [impl_waysModulo.l2]
          refine rest _ _ res ?_
          rw [hv, hr, w64 (x := z + 1) (by omega) (by omega)]
          exact Ev.sbind (Ev.neg (fun e => hs (hdv.1 e)) (r4 res h))
theorem ways1_l {a b p m x : Int} (ha : -5000 ≤ a ∧ a ≤ 5000) (hb : -5000 ≤ b ∧ b ≤ 5000) (hp : 2 ≤ p) (hm : 1 ≤ m ∧ m ≤ 32) (hx : 0 ≤ x ∧ x < m) {M : Nat} (hM : m = M) :
    ∀ (d : Nat) (y n : Int), 0 ≤ y → y + d = m → 0 ≤ n → n + d * 32 ≤ 100000 →
      (∃ r, (0 < r ↔ (0 < n ∨ s1 a b p m x M d y = true)) ∧ 0 ≤ r ∧ r ≤ n + d * 32 ∧ ∀ res, Ev (fun k => impl_waysModulo.l0 k a b p m r m (x + 1)) res → Ev (fun k => impl_waysModulo.l1 k a b p m n x m x m y) res) := by
  intro d
  induction d with
  | zero =>
    intro y n hy hd hn hnB
    refine ⟨n, by simp [s1], hn, by omega, fun res h => Ev.succ ?_⟩
    simp only [impl_waysModulo.l1]
    rw [w64 (by omega) (by omega)]
    exact Ev.neg (by omega) h
  | succ d ih =>
    intro y n hy hd hn hnB
    obtain ⟨r, r1, r2, r3, r4⟩ := ways2_l ha hb hp hm hx ⟨hy, by omega⟩ M 0 n (by omega) (by omega) hn (by omega)
    obtain ⟨q, q1, q2, q3, q4⟩ := ih (y + 1) r (by omega) (by omega) r2 (by omega)
    refine ⟨q, ?_, q2, by omega, fun res h => Ev.succ ?_⟩
    · rw [q1, r1]; simp only [s1, Bool.or_eq_true, or_assoc]
    · simp only [impl_waysModulo.l1]
      exact Ev.pos (by omega) (r4 res (q4 res h))
theorem ways0_l {a b p m : Int} (ha : -5000 ≤ a ∧ a ≤ 5000) (hb : -5000 ≤ b ∧ b ≤ 5000) (hp : 2 ≤ p) (hm : 1 ≤ m ∧ m ≤ 32) {M : Nat} (hM : m = M) :
    ∀ (d : Nat) (x n : Int), 0 ≤ x → x + d = m → 0 ≤ n → n + d * 1024 ≤ 90000 →
      (∃ r, (0 < r ↔ (0 < n ∨ s0 a b p m M d x = true)) ∧ Ev (fun k => impl_waysModulo.l0 k a b p m n m x) r) := by
  intro d
  induction d with
  | zero =>
    intro x n hx hd hn hnB
    refine ⟨n, by simp [s0], Ev.succ ?_⟩
    simp only [impl_waysModulo.l0]
    exact Ev.neg (by omega) (Ev.now _)
  | succ d ih =>
    intro x n hx hd hn hnB
    obtain ⟨r, r1, r2, r3, r4⟩ := ways1_l ha hb hp hm ⟨hx, by omega⟩ hM M 0 n (by omega) (by omega) hn (by omega)
    obtain ⟨q, q1, q4⟩ := ih (x + 1) r (by omega) (by omega) r2 (by omega)
    refine ⟨q, ?_, Ev.succ ?_⟩
    · rw [q1, r1]; simp only [s0, Bool.or_eq_true, or_assoc]
    · simp only [impl_waysModulo.l0]
      exact Ev.pos (by omega) (r4 _ q4)
theorem impl_waysModulo_ev {a b p m : Int} (ha : -5000 ≤ a ∧ a ≤ 5000) (hb : -5000 ≤ b ∧ b ≤ 5000) (hp : 2 ≤ p) (hm : 1 ≤ m ∧ m ≤ 32) : ∃ r, (0 < r ↔ Nt.Ex a b p m) ∧ Ev (fun k => impl_waysModulo.f k a b p m) r := by
  obtain ⟨M, hM⟩ : ∃ M : Nat, m = M := ⟨m.toNat, by omega⟩
  obtain ⟨r, r1, r2⟩ := ways0_l ha hb hp hm hM M 0 0 (by omega) (by omega) (by omega) (by omega)
  refine ⟨r, ?_, r2⟩
  rw [r1, s0_ex hM]; simp
open Classical in
/-- What SymbolModulo tells. -/
noncomputable def smod (a b p k : Int) : Bool := decide (isB a b = true ∧ isP p = true ∧ 1 ≤ k ∧ k ≤ 5 ∧ p ^ k.toNat ≤ 32 ∧ Nt.Ex a b p (p ^ k.toNat))
theorem smod_iff {a b p k : Int} : smod a b p k = true ↔ isB a b = true ∧ isP p = true ∧ 1 ≤ k ∧ k ≤ 5 ∧ p ^ k.toNat ≤ 32 ∧ Nt.Ex a b p (p ^ k.toNat) := by unfold smod; simp
theorem smod_false {a b p k : Int} (h : ¬ (isB a b = true ∧ isP p = true ∧ 1 ≤ k ∧ k ≤ 5 ∧ p ^ k.toNat ≤ 32 ∧ Nt.Ex a b p (p ^ k.toNat))) : smod a b p k = false := by unfold smod; simpa using h
theorem impl_SymbolModulo_ev {a b p k : Int} : Ev (fun n => impl_SymbolModulo.f n a b p k) (smod a b p k) := by
  unfold impl_SymbolModulo.f
  rw [impl_bothNumbers_eq]
  have no : smod a b p k = false → Ev (fun n => impl_SymbolModulo.j0 n a b p k true) (smod a b p k) := by
    intro h
    refine Ev.succ ?_
    simp only [impl_SymbolModulo.j0]
    exact Ev.pos (by simp) (Ev.ret h.symm)
  refine Ev.sbind ?_
  by_cases hB : isB a b = true
  · refine Ev.pos hB (Ev.bind impl_PrimeIs_ev ?_)
    by_cases hP : isP p = true
    · have hp := isP_iff.1 hP
      have hp2 := hp.1.1
      refine Ev.pos hP ?_
      by_cases k1 : k < 1
      · exact Ev.pos k1 (no (smod_false (fun h => by omega)))
      · by_cases k5 : k > 5
        · exact Ev.neg k1 (Ev.pos k5 (no (smod_false (fun h => by omega))))
        · refine Ev.neg k1 (Ev.neg k5 ?_)
          have hpw := impl_power_ev5 (x := p) (e := k) (by omega) k.toNat (by omega) (by omega)
          refine Ev.bind hpw ?_
          by_cases h32 : p ^ k.toNat ≤ 32
          · have hd : decide (p ^ k.toNat > 32) = false := by simp; omega
            rw [hd]
            refine Ev.succ ?_
            simp only [impl_SymbolModulo.j0]
            have hb := isB_iff.1 hB
            have hpos := Nt.pow_pos' hp2 k.toNat
            obtain ⟨r, r1, r2⟩ := impl_waysModulo_ev (a := a) (b := b) (p := p) (m := p ^ k.toNat) ⟨hb.2.2.1, hb.2.2.2.1⟩ hb.2.2.2.2 hp2 (by omega)
            refine Ev.neg (by simp) (Ev.bind hpw (Ev.bind r2 (Ev.ret ?_)))
            rw [Bool.eq_iff_iff, smod_iff, decide_eq_true_eq, gt_iff_lt, r1]
            exact ⟨fun h => ⟨hB, hP, by omega, by omega, h32, h⟩, fun h => h.2.2.2.2.2⟩
          · have hd : decide (p ^ k.toNat > 32) = true := by simp; omega
            rw [hd]
            exact no (smod_false (fun h => h32 h.2.2.2.2.1))
    · exact Ev.neg hP (no (smod_false (fun h => hP h.2.1)))
  · exact Ev.neg hB (no (smod_false (fun h => hB h.1)))

theorem spec_l1Mod_eq {a m : Int} (hm : 0 < m) (hm2 : m ≤ 1000000) : spec_l1Mod.f a m = some (a % m) := by
  unfold spec_l1Mod.f
  have := Nt.rest_bd (a := a) hm
  rw [if_neg (by omega), w64 (by omega) (by omega), Nt.rest_eq hm]

theorem spec_PrimeIs_l {p : Int} (hp : 2 ≤ p) (hp2 : p ≤ 5000) : ∀ (d : Nat) (m : Int), 2 ≤ m → m ≤ 5001 → (p - m).toNat ≤ d → (∀ q, 2 ≤ q → q < m → ¬ q ∣ p) →
    Ev (fun k => spec_PrimeIs.l0 k p m) (isP p) := by
  intro d
  induction d with
  | zero =>
    intro m h2 h3 hd hq
    have hs := small_sq (m := m) (by omega) (by omega)
    refine Ev.succ ?_
    simp only [spec_PrimeIs.l0]
    rw [w64 (by omega) (by omega)]
    have hgt : p < m * m := by
      rcases Int.lt_or_le p (m * m) with h | h
      · exact h
      · have := sq_le h2 h; omega
    refine Ev.neg (by omega) (Ev.ret ?_)
    rw [isP_true ⟨Nt.pr_of_sqrt hp (by omega) hq hgt, hp2⟩]
  | succ d ih =>
    intro m h2 h3 hd hq
    have hs := small_sq (m := m) (by omega) (by omega)
    refine Ev.succ ?_
    simp only [spec_PrimeIs.l0]
    rw [w64 (by omega) (by omega)]
    by_cases hle : m * m ≤ p
    · have hlt := sq_le h2 hle
      refine Ev.pos hle (Ev.neg (by omega) ?_)
      by_cases ht : Int.tmod p m = 0
      · refine Ev.pos ht (Ev.ret ?_)
        rw [isP_false (fun h => Nt.not_pr_of_dvd h2 hle (Nt.tmod_zero_iff.1 ht) h.1)]
      · refine Ev.neg ht ?_
        rw [w64 (by omega) (by omega)]
        refine ih (m + 1) (by omega) (by omega) (by omega) (fun q h1 h2 => ?_)
        by_cases e : q = m
        · rw [e]; exact fun h => ht (Nt.tmod_zero_iff.2 h)
        · exact hq q h1 (by omega)
    · refine Ev.neg hle (Ev.ret ?_)
      rw [isP_true ⟨Nt.pr_of_sqrt hp (by omega) hq (by omega), hp2⟩]

theorem spec_PrimeIs_ev {p : Int} : Ev (fun k => spec_PrimeIs.f k p) (isP p) := by
  unfold spec_PrimeIs.f
  rw [spec_l6In_eq]
  refine Ev.sbind ?_
  by_cases h : 2 ≤ p ∧ p ≤ 5000
  · refine Ev.pos (by simpa using h) ?_
    exact spec_PrimeIs_l h.1 h.2 _ 2 (by omega) (by omega) (Nat.le_refl _) (fun q h1 h2 => by omega)
  · refine Ev.neg (by simpa using h) (Ev.ret ?_)
    rw [isP_false (fun h' => h ⟨h'.1.1, h'.2⟩)]

theorem spec_l3Ok_eq (a b : Int) : spec_l3Ok.f a b = some (isB a b) := by
  unfold spec_l3Ok.f isB
  simp only [spec_l1Number_eq, Option.bind_some]
  unfold isN
  repeat' split
  all_goals (congr 1; simp_all [bne])
  all_goals (first | rfl | (intros; omega) | (by_cases h : b = 0 <;> simp [h]))

theorem sol3 {a b p m x y : Int} (ha : -5000 ≤ a ∧ a ≤ 5000) (hb : -5000 ≤ b ∧ b ≤ 5000) (hp : 2 ≤ p) (hm : 1 ≤ m ∧ m ≤ 32) (hx : 0 ≤ x ∧ x < m) (hy : 0 ≤ y ∧ y < m) {res : Bool}
    (hnext : Ev (fun k => spec_SymbolModulo.l2 k a b p m x (y + 1)) res) : ∀ (d : Nat) (z : Int), 0 ≤ z → z + d = m → Ev (fun k => spec_SymbolModulo.l3 k a b p m x y z) (s2 a b p m x y d z || res) := by
  intro d
  induction d with
  | zero =>
    intro z hz hd
    refine Ev.succ ?_
    simp only [spec_SymbolModulo.l3]
    rw [w64 (x := y + 1) (by omega) (by omega)]
    exact Ev.neg (by omega) (Ev.to hnext (by simp [s2]))
  | succ d ih =>
    intro z hz hd
    obtain ⟨b1, b2, b3, b4, b5⟩ := sol_bd (x := x) (y := y) (z := z) ha hb (by omega) (by omega) (by omega)
    have tx : Int.tmod x p = 0 ↔ p ∣ x := Nt.tmod_zero_iff
    have ty : Int.tmod y p = 0 ↔ p ∣ y := Nt.tmod_zero_iff
    have tz : Int.tmod z p = 0 ↔ p ∣ z := Nt.tmod_zero_iff
    have hv : wrap64 (wrap64 (wrap64 (wrap64 (a * x) * x) + wrap64 (wrap64 (b * y) * y)) - wrap64 (z * z)) = a * x * x + b * y * y - z * z := by
      rw [w64 (x := z * z) (by omega) (by omega), w64 (x := a * x) (by omega) (by omega), w64 (x := a * x * x) (by omega) (by omega), w64 (x := b * y) (by omega) (by omega), w64 (x := b * y * y) (by omega) (by omega), w64 (x := a * x * x + b * y * y) (by omega) (by omega), w64 (by omega) (by omega)]
    have hr := spec_l1Mod_eq (a := a * x * x + b * y * y - z * z) (m := m) (by omega) (by omega)
    have hdv : (a * x * x + b * y * y - z * z) % m = 0 ↔ m ∣ z * z - a * x * x - b * y * y := by
      constructor
      · intro h; obtain ⟨c, hc⟩ := Int.dvd_of_emod_eq_zero h; exact ⟨-c, by rw [Int.mul_neg]; omega⟩
      · rintro ⟨c, hc⟩; exact Int.emod_eq_zero_of_dvd ⟨-c, by rw [Int.mul_neg]; omega⟩
    refine Ev.succ ?_
    simp only [spec_SymbolModulo.l3]
    rw [hv, hr, w64 (x := z + 1) (by omega) (by omega)]
    refine Ev.pos (by omega) (Ev.neg (by omega) ?_)
    have go := ih (z + 1) (by omega) (by omega)
    have tail : ¬ (p ∣ x ∧ p ∣ y ∧ p ∣ z) → Ev (fun k => (some ((a * x * x + b * y * y - z * z) % m)).bind fun t => (if t = 0 then some true else spec_SymbolModulo.l3 k a b p m x y (z + 1))) (s2 a b p m x y (d + 1) z || res) := by
      intro hall
      refine Ev.sbind ?_
      by_cases hs : m ∣ z * z - a * x * x - b * y * y
      · exact Ev.pos (hdv.2 hs) (Ev.ret (by simp [s2, isS_iff.2 ⟨hall, hs⟩]))
      · exact Ev.neg (fun e => hs (hdv.1 e)) (Ev.to go (by simp [s2, isS_false (fun h => hs h.2)]))
    by_cases k1 : p ∣ x
    · refine Ev.pos (tx.2 k1) ?_
      by_cases k2 : p ∣ y
      · refine Ev.pos (ty.2 k2) ?_
        by_cases k3 : p ∣ z
        · exact Ev.pos (tz.2 k3) (Ev.to go (by simp [s2, isS_false (fun h => h.1 ⟨k1, k2, k3⟩)]))
        · exact Ev.neg (fun e => k3 (tz.1 e)) (tail (fun h => k3 h.2.2))
      · exact Ev.neg (fun e => k2 (ty.1 e)) (tail (fun h => k2 h.2.1))
    · exact Ev.neg (fun e => k1 (tx.1 e)) (tail (fun h => k1 h.1))
theorem sol2 {a b p m x : Int} (ha : -5000 ≤ a ∧ a ≤ 5000) (hb : -5000 ≤ b ∧ b ≤ 5000) (hp : 2 ≤ p) (hm : 1 ≤ m ∧ m ≤ 32) (hx : 0 ≤ x ∧ x < m) {M : Nat} (hM : m = M) {res : Bool}
    (hnext : Ev (fun k => spec_SymbolModulo.l1 k a b p m (x + 1)) res) : ∀ (d : Nat) (y : Int), 0 ≤ y → y + d = m → Ev (fun k => spec_SymbolModulo.l2 k a b p m x y) (s1 a b p m x M d y || res) := by
  intro d
  induction d with
  | zero =>
    intro y hy hd
    refine Ev.succ ?_
    simp only [spec_SymbolModulo.l2]
    rw [w64 (by omega) (by omega)]
    exact Ev.neg (by omega) (Ev.to hnext (by simp [s1]))
  | succ d ih =>
    intro y hy hd
    refine Ev.succ ?_
    simp only [spec_SymbolModulo.l2]
    refine Ev.pos (by omega) (Ev.to (sol3 ha hb hp hm hx ⟨hy, by omega⟩ (ih (y + 1) (by omega) (by omega)) M 0 (by omega) (by omega)) ?_)
    simp only [s1, Bool.or_assoc]
theorem sol1 {a b p m : Int} (ha : -5000 ≤ a ∧ a ≤ 5000) (hb : -5000 ≤ b ∧ b ≤ 5000) (hp : 2 ≤ p) (hm : 1 ≤ m ∧ m ≤ 32) {M : Nat} (hM : m = M) : ∀ (d : Nat) (x : Int), 0 ≤ x → x + d = m → Ev (fun k => spec_SymbolModulo.l1 k a b p m x) (s0 a b p m M d x) := by
  intro d
  induction d with
  | zero =>
    intro x hx hd
    refine Ev.succ ?_
    simp only [spec_SymbolModulo.l1]
    exact Ev.neg (by omega) (Ev.ret rfl)
  | succ d ih =>
    intro x hx hd
    refine Ev.succ ?_
    simp only [spec_SymbolModulo.l1]
    exact Ev.pos (by omega) (sol2 ha hb hp hm ⟨hx, by omega⟩ hM (ih (x + 1) (by omega) (by omega)) M 0 (by omega) (by omega))
theorem pow_bd31 {p : Int} (hp : 2 ≤ p) (hp2 : p ≤ 31) {i : Nat} (hi : i ≤ 5) : 1 ≤ p ^ i ∧ p ^ i ≤ 28629151 := by
  have h0 := Nt.pow_pos' hp i
  have h1 : (p ^ i).natAbs ≤ 31 ^ 5 := by
    rw [Int.natAbs_pow]
    exact Nat.le_trans (Nat.pow_le_pow_left (show p.natAbs ≤ 31 by omega) i) (Nat.pow_le_pow_right (by omega) hi)
  omega
theorem sol_pow {a b p : Int} (hp : 2 ≤ p) (hp2 : p ≤ 31) (n : Nat) (hn : n ≤ 5) {res : Bool} (h : Ev (fun k => if p ^ n > 32 then some false else spec_SymbolModulo.l1 k a b p (p ^ n) 0) res) :
    ∀ (d i : Nat), i + d = n → Ev (fun k => spec_SymbolModulo.l0 k a b p (n : Int) (p ^ i) (i : Int)) res
  | 0, i, hi => by
    refine Ev.succ ?_
    simp only [spec_SymbolModulo.l0]
    refine Ev.neg (by omega) ?_
    rw [show i = n by omega]; exact h
  | d + 1, i, hi => by
    have b1 := pow_bd31 hp hp2 (i := i) (by omega)
    have b2 := pow_bd31 hp hp2 (i := i + 1) (by omega)
    rw [Int.pow_succ] at b2
    refine Ev.succ ?_
    simp only [spec_SymbolModulo.l0]
    rw [w64 (x := p ^ i * p) (by omega) (by omega), w64 (by omega) (by omega), cast_succ, ← Int.pow_succ]
    exact Ev.pos (by omega) (sol_pow hp hp2 n hn h d (i + 1) (by omega))
theorem spec_SymbolModulo_ev {a b p k : Int} : Ev (fun n => spec_SymbolModulo.f n a b p k) (smod a b p k) := by
  unfold spec_SymbolModulo.f
  rw [spec_l3Ok_eq, spec_l6In_eq]
  have no : smod a b p k = false → Ev (fun n => spec_SymbolModulo.j0 n a b p k true) (smod a b p k) := by
    intro h
    refine Ev.succ ?_
    simp only [spec_SymbolModulo.j0]
    exact Ev.pos (by simp) (Ev.ret h.symm)
  refine Ev.sbind ?_
  by_cases hB : isB a b = true
  · refine Ev.pos hB (Ev.bind spec_PrimeIs_ev ?_)
    by_cases hP : isP p = true
    · have hp := isP_iff.1 hP
      have hp2 := hp.1.1
      refine Ev.pos hP ?_
      by_cases h31 : p > 31
      · refine Ev.pos h31 (no (smod_false (fun h => ?_)))
        obtain ⟨_, _, k1, _, k3, _⟩ := h
        obtain ⟨t, ht⟩ : ∃ t, k.toNat = t + 1 := ⟨k.toNat - 1, by omega⟩
        rw [ht, Int.pow_succ] at k3
        have := Nt.pow_pos' hp2 t
        have : 1 * p ≤ p ^ t * p := Int.mul_le_mul_of_nonneg_right (by omega) (by omega)
        have hne : p ≠ 32 := fun e => by
          have := hp.1.2 2 (by omega) (by rw [e]; exact ⟨16, rfl⟩)
          omega
        omega
      · refine Ev.neg h31 (Ev.sbind ?_)
        by_cases hk : 1 ≤ k ∧ k ≤ 5
        · have : (!decide (1 ≤ k ∧ k ≤ 5)) = false := by simp [hk]
          rw [this]
          refine Ev.succ ?_
          simp only [spec_SymbolModulo.j0]
          refine Ev.neg (by simp) ?_
          obtain ⟨n, rfl⟩ : ∃ n : Nat, k = n := ⟨k.toNat, by omega⟩
          have := sol_pow (a := a) (b := b) hp2 (by omega) n (by omega) (res := smod a b p n) ?_ n 0 (by omega)
          · simpa using this
          · by_cases h32 : p ^ n > 32
            · exact Ev.pos h32 (Ev.ret (smod_false (fun h => by have := h.2.2.2.2.1; rw [Int.toNat_natCast] at this; omega)).symm)
            · have hb := isB_iff.1 hB
              have hpos := Nt.pow_pos' hp2 n
              obtain ⟨M, hM⟩ : ∃ M : Nat, p ^ n = M := ⟨(p ^ n).toNat, by omega⟩
              refine Ev.neg h32 (Ev.to (sol1 ⟨hb.2.2.1, hb.2.2.2.1⟩ hb.2.2.2.2 hp2 (by omega) hM M 0 (by omega) (by omega)) ?_)
              rw [Bool.eq_iff_iff, smod_iff, s0_ex hM, Int.toNat_natCast]
              exact ⟨fun h => ⟨hB, hP, hk.1, hk.2, by omega, h⟩, fun h => h.2.2.2.2.2⟩
        · have : (!decide (1 ≤ k ∧ k ≤ 5)) = true := by rw [Bool.not_eq_true', decide_eq_false_iff_not]; exact hk
          rw [this]
          exact no (smod_false (fun h => hk ⟨h.2.2.1, h.2.2.2.1⟩))
    · exact Ev.neg hP (no (smod_false (fun h => hP h.2.1)))
  · exact Ev.neg hB (no (smod_false (fun h => hB h.1)))

theorem sq_small {p : Int} (h0 : 0 ≤ p) (h : p ≤ 1000001) : 0 ≤ p * p ∧ p * p ≤ 1000002000001 := by
  have h1 : p * p ≤ 1000001 * 1000001 := Int.mul_le_mul h h (by omega) (by omega)
  have h2 := Int.mul_nonneg h0 h0
  omega
theorem sq_lt {p n : Int} (h : p * p ≤ n) (hn : n ≤ 1000000000000) (h0 : 0 ≤ p) : p ≤ 1000000 := by
  rcases Int.lt_or_le 1000000 p with h' | h'
  · have : 1000001 * 1000001 ≤ p * p := Int.mul_le_mul (by omega) (by omega) (by omega) (by omega)
    omega
  · exact h'
theorem impl_primesOf_l {N : Int} (hN : N ≤ 1000000000000) : ∀ (d : Nat) (n p : Int) (out : List Int), (1000001 - p).toNat ≤ d → 2 ≤ p → p ≤ 1000001 → (out.length : Int) ≤ p → Nt.St N n p out →
    ∃ L, Nt.IsPL N L ∧ Ev (fun k => impl_primesOf.l0 k n out p) L := by
  intro d
  induction d with
  | zero =>
    intro n p out hd h2 h3 ho hS
    have hs := sq_small (p := p) (by omega) h3
    have hle : n < p * p := by
      have e : p = 1000001 := by omega
      subst e
      have := hS.2.1
      omega
    refine ⟨_, hS.last h2 hle, Ev.succ ?_⟩
    simp only [impl_primesOf.l0]
    rw [w64 (by omega) (by omega)]
    refine Ev.neg (by omega) ?_
    by_cases hn : n > 1
    · exact Ev.pos hn (Ev.pos (by omega) (Ev.ret (if_pos hn).symm))
    · exact Ev.neg hn (Ev.ret (if_neg hn).symm)
  | succ d ih =>
    intro n p out hd h2 h3 ho hS
    have hs := sq_small (p := p) (by omega) h3
    by_cases hle : p * p ≤ n
    · have hp6 := sq_lt hle (by have := hS.2.1; omega) (by omega)
      by_cases hdv : p ∣ n
      · obtain ⟨L, h4, h5⟩ := ih (Nt.un n p) (p + 1) (out ++ [p]) (by omega) (by omega) (by omega) (by simp; omega) (hS.step h2 hdv)
        refine ⟨L, h4, Ev.succ ?_⟩
        simp only [impl_primesOf.l0]
        have := hS.1
        have := hS.2.1
        rw [w64 (x := p * p) (by omega) (by omega), w64 (x := p + 1) (by omega) (by omega)]
        exact Ev.pos hle (Ev.neg (by omega) (Ev.pos (Nt.tmod_zero_iff.2 hdv) (Ev.pos (by omega) (Ev.bind (impl_split_ev h2 (by omega) (by omega)) h5))))
      · obtain ⟨L, h4, h5⟩ := ih n (p + 1) out (by omega) (by omega) (by omega) (by omega) (hS.skip hdv)
        refine ⟨L, h4, Ev.succ ?_⟩
        simp only [impl_primesOf.l0]
        rw [w64 (x := p * p) (by omega) (by omega), w64 (x := p + 1) (by omega) (by omega)]
        exact Ev.pos hle (Ev.neg (by omega) (Ev.neg (fun h => hdv (Nt.tmod_zero_iff.1 h)) h5))
    · refine ⟨_, hS.last h2 (by omega), Ev.succ ?_⟩
      simp only [impl_primesOf.l0]
      rw [w64 (by omega) (by omega)]
      refine Ev.neg (by omega) ?_
      by_cases hn : n > 1
      · exact Ev.pos hn (Ev.pos (by omega) (Ev.ret (if_pos hn).symm))
      · exact Ev.neg hn (Ev.ret (if_neg hn).symm)
theorem pl_abs {n : Int} {L : List Int} (h : Nt.IsPL (n.natAbs : Int) L) : Nt.IsPL n L := ⟨h.1, fun p => by rw [h.2, Int.dvd_natAbs]⟩
theorem mx_abs' (t : Int) : mx t (-t) = (t.natAbs : Int) := by unfold mx; split <;> omega
theorem impl_primesOf_ev {n : Int} (hn : n ≠ 0) (hn2 : n.natAbs ≤ 1000000000000) : ∃ L, Nt.IsPL n L ∧ Ev (fun k => impl_primesOf.f k n) L := by
  obtain ⟨L, h1, h2⟩ := impl_primesOf_l (N := (n.natAbs : Int)) (by omega) _ (n.natAbs : Int) 2 [] (Nat.le_refl _) (by omega) (by omega) (by simp) (Nt.St.start (by omega))
  refine ⟨L, pl_abs h1, ?_⟩
  unfold impl_primesOf.f impl_size.f
  rw [w64 (by omega) (by omega), mx_abs']
  exact Ev.sbind h2

theorem sq_ne {p : Int} (hp : 2 ≤ p) : p * p ≠ 0 := Int.mul_ne_zero (by omega) (by omega)
/-- Dividing by a square once. -/
theorem core_step {N n r p : Int} (hN : N ≠ 0) (hN2 : N.natAbs ≤ 1000000000) (hp : 2 ≤ p) (h : N = n * (r * r)) (hr : 1 ≤ r) (hd : p * p ∣ n) :
    Int.tdiv n (p * p) ≠ 0 ∧ (Int.tdiv n (p * p)).natAbs < n.natAbs ∧ N = Int.tdiv n (p * p) * ((r * p) * (r * p)) ∧ 1 ≤ r * p ∧ Int.tdiv n (p * p) ∣ n := by
  obtain ⟨m, rfl⟩ := hd
  have hpp := sq_ne hp
  rw [Int.mul_tdiv_cancel_left _ hpp]
  have hm : m ≠ 0 := by intro e; subst e; simp at h; exact hN h
  have h4 : 2 * 2 ≤ p * p := Int.mul_le_mul hp hp (by omega) (by omega)
  refine ⟨hm, ?_, by rw [h]; grind, ?_, ⟨p * p, by rw [Int.mul_comm]⟩⟩
  · rw [Int.natAbs_mul]
    have : 4 * m.natAbs ≤ (p * p).natAbs * m.natAbs := Nat.mul_le_mul_right _ (by omega)
    omega
  · have : 1 * 1 ≤ r * p := Int.mul_le_mul hr (by omega) (by omega) (by omega)
    omega
theorem core_bd {N n r : Int} (hN : N ≠ 0) (hN2 : N.natAbs ≤ 1000000000) (h : N = n * (r * r)) (hr : 1 ≤ r) : r ≤ 100000 ∧ n ≠ 0 ∧ n.natAbs ≤ 1000000000 := by
  have hn : n ≠ 0 := by intro e; subst e; simp at h; exact hN h
  have e : N.natAbs = n.natAbs * (r.natAbs * r.natAbs) := by rw [← Int.natAbs_mul, ← Int.natAbs_mul, ← h]
  have a : 1 * (r.natAbs * r.natAbs) ≤ n.natAbs * (r.natAbs * r.natAbs) := Nat.mul_le_mul_right _ (by omega)
  have b : n.natAbs * (1 * 1) ≤ n.natAbs * (r.natAbs * r.natAbs) := Nat.mul_le_mul_left _ (Nat.mul_le_mul (by omega) (by omega))
  refine ⟨?_, hn, by omega⟩
  rcases Int.lt_or_le 100000 r with h' | h'
  · exfalso
    have : 100001 * 100001 ≤ r.natAbs * r.natAbs := Nat.mul_le_mul (by omega) (by omega)
    omega
  · exact h'
theorem impl_coreOf_l1 {N p : Int} (hN : N ≠ 0) (hN2 : N.natAbs ≤ 1000000000) (hp : 2 ≤ p) (hp2 : p ≤ 1000000000) (L : List Int) (i : Nat) (hi : i < L.length) (hL : L.length ≤ 1000000) (res : Int × Int) (B : Int → Prop)
    (hB : ∀ m n, B n → m ∣ n → B m)
    (hnext : ∀ n r, N = n * (r * r) → 1 ≤ r → B n → ¬ p * p ∣ n → Ev (fun k => impl_coreOf.l0 k n r L (L.length : Int) ((i + 1 : Nat) : Int)) res) :
    ∀ (d : Nat) (n r : Int), n.natAbs ≤ d → N = n * (r * r) → 1 ≤ r → B n → Ev (fun k => impl_coreOf.l1 k n r p L (L.length : Int) (i : Int)) res := by
  intro d
  induction d with
  | zero =>
    intro n r hd h hr
    have := (core_bd hN hN2 h hr).2.1
    omega
  | succ d ih =>
    intro n r hd h hr hb
    obtain ⟨b1, b2, b3⟩ := core_bd hN hN2 h hr
    have hpp : 0 ≤ p * p ∧ p * p ≤ 1000000000000000000 := ⟨Int.mul_nonneg (by omega) (by omega), Int.le_trans (Int.mul_le_mul hp2 hp2 (by omega) (by omega)) (by omega)⟩
    have hp0 := sq_ne hp
    refine Ev.succ ?_
    simp only [impl_coreOf.l1]
    rw [w64 (x := p * p) (by omega) (by omega)]
    refine Ev.neg hp0 ?_
    by_cases hdv : p * p ∣ n
    · obtain ⟨c1, c2, c3, c4, c5⟩ := core_step hN hN2 hp h hr hdv
      have hrp : r * p ≤ 100000 * 1000000000 := Int.mul_le_mul b1 hp2 (by omega) (by omega)
      rw [w64 (x := Int.tdiv n (p * p)) (by omega) (by omega), w64 (x := r * p) (by omega) (by omega)]
      exact Ev.pos (Nt.tmod_zero_iff.2 hdv) (ih _ _ (by omega) c3 c4 (hB _ _ hb c5))
    · rw [w64 (x := (i : Int) + 1) (by omega) (by omega), cast_succ]
      exact Ev.neg (fun e => hdv (Nt.tmod_zero_iff.1 e)) (hnext n r h hr hb hdv)
theorem impl_coreOf_l0 {N : Int} (hN : N ≠ 0) (hN2 : N.natAbs ≤ 1000000000) {L : List Int} (hL : Nt.IsPL N L) : ∀ (rest : List Int) (i : Nat) (n r : Int), L.drop i = rest → N = n * (r * r) → 1 ≤ r → (∀ q, Nt.Pr q → q ∣ N → q ∉ rest → ¬ q * q ∣ n) →
    ∃ c s, Nt.IsCore N c s ∧ Ev (fun k => impl_coreOf.l0 k n r L (L.length : Int) (i : Int)) (c, s)
  | [], i, n, r, h, h1, h2, h3 => by
    have := drop_nil h
    refine ⟨n, r, ⟨h1, h2, fun q hq hd => ?_⟩, Ev.succ ?_⟩
    · have hqn : q ∣ N := by rw [h1]; exact Int.dvd_trans (Int.dvd_trans ⟨q, rfl⟩ hd) ⟨_, rfl⟩
      exact h3 q hq hqn (by simp) hd
    · simp only [impl_coreOf.l0]
      exact Ev.neg (by omega) (Ev.now _)
  | p :: rest, i, n, r, h, h1, h2, h3 => by
    obtain ⟨v1, v2, v3⟩ := drop_cons h
    have hp := (hL.2 p).1 (v2 ▸ rd_mem v1)
    have hp2 := hp.1.1
    have hple : p ≤ 1000000000 := by
      have := Int.le_of_dvd (show 0 < ((N.natAbs : Nat) : Int) by omega) (Int.dvd_natAbs.2 hp.2); omega
    have hlen : L.length ≤ 1000000 := by
      have hd := Nt.prod_dvd (l := L) (n := N) (hL.1.imp (fun h => by omega)) (fun p hp => (hL.2 p).1 hp)
      have hle := Int.le_of_dvd (show 0 < ((N.natAbs : Nat) : Int) by omega) (Int.dvd_natAbs.2 hd)
      have key : ∀ l : List Int, (∀ p ∈ l, Nt.Pr p) → (l.length : Int) < 2 ^ l.length ∧ (2 : Int) ^ l.length ≤ Nt.prod l := by
        intro l hp
        induction l with
        | nil => simp [Nt.prod]
        | cons p l ih =>
          obtain ⟨a, b⟩ := ih (fun q hq => hp q (by simp [hq]))
          have h2 := (hp p (by simp)).1
          have : 2 * 2 ^ l.length ≤ p * Nt.prod l := Int.mul_le_mul h2 b (by omega) (by omega)
          simp only [List.length_cons, Int.pow_succ, Nt.prod]
          omega
      obtain ⟨a, b⟩ := key L (fun p hp => ((hL.2 p).1 hp).1)
      rcases Nat.lt_or_ge 40 L.length with h4 | h4
      · exfalso
        have : (2 : Int) ^ 41 ≤ 2 ^ L.length := by
          have := Nat.pow_le_pow_right (show 0 < 2 by omega) (show 41 ≤ L.length by omega)
          exact_mod_cast this
        omega
      · omega
    -- all ways lead to the one core
    let B : Int → Prop := fun n => ∀ q, Nt.Pr q → q ∣ N → q ∉ p :: rest → ¬ q * q ∣ n
    have hBm : ∀ m n, B n → m ∣ n → B m := fun m n hb hm q k1 k2 k3 k4 => hb q k1 k2 k3 (Int.dvd_trans k4 hm)
    have nxt : ∀ n r, N = n * (r * r) → 1 ≤ r → B n → ¬ p * p ∣ n → ∃ c s, Nt.IsCore N c s ∧ Ev (fun k => impl_coreOf.l0 k n r L (L.length : Int) ((i + 1 : Nat) : Int)) (c, s) := by
      intro n r k1 k2 k3 k4
      refine impl_coreOf_l0 hN hN2 hL rest (i + 1) n r v3 k1 k2 (fun q q1 q2 q3 => ?_)
      by_cases e : q = p
      · rw [e]; exact k4
      · exact k3 q q1 q2 (by simp [e, q3])
    obtain ⟨c, s, hc⟩ := Nt.core_exists (N := N) hN
    have nxt2 : ∀ n r, N = n * (r * r) → 1 ≤ r → B n → ¬ p * p ∣ n → Ev (fun k => impl_coreOf.l0 k n r L (L.length : Int) ((i + 1 : Nat) : Int)) (c, s) := by
      intro n r k1 k2 k3 k4
      obtain ⟨c', s', h5, h6⟩ := nxt n r k1 k2 k3 k4
      obtain ⟨e1, e2⟩ := hc.uniq hN h5
      rw [e1, e2]; exact h6
    refine ⟨c, s, hc, Ev.succ ?_⟩
    simp only [impl_coreOf.l0]
    rw [v2]
    exact Ev.pos (by omega) (Ev.pos (by omega) (Ev.pos (by omega) (impl_coreOf_l1 hN hN2 hp2 hple L i v1 hlen (c, s) B hBm nxt2 _ n r (Nat.le_refl _) h1 h2 h3)))
theorem impl_coreOf_ev {N : Int} (hN : N ≠ 0) (hN2 : N.natAbs ≤ 1000000000) : ∃ c s, Nt.IsCore N c s ∧ Ev (fun k => impl_coreOf.f k N) (c, s) := by
  obtain ⟨L, h1, h2⟩ := impl_primesOf_ev hN (by omega)
  obtain ⟨c, s, h3, h4⟩ := impl_coreOf_l0 hN hN2 h1 L 0 N 1 rfl (by simp) (by omega) (fun q k1 k2 k3 => absurd ((h1.2 q).2 ⟨k1, k2⟩) k3)
  refine ⟨c, s, h3, ?_⟩
  unfold impl_coreOf.f
  exact Ev.bind h2 h4

theorem impl_CoreOf_ev {a : Int} (ha : a ≠ 0) (hN : isN a = true) : ∃ c r, Nt.IsCore a c r ∧ Ev (fun k => impl_CoreOf.f k a) (c, r, true) := by
  have := isN_iff.1 hN
  obtain ⟨c, r, h1, h2⟩ := impl_coreOf_ev ha (by omega)
  refine ⟨c, r, h1, ?_⟩
  unfold impl_CoreOf.f
  rw [impl_isNumber_eq]
  exact Ev.neg ha (Ev.sbind (Ev.pos hN (Ev.bind h2 (Ev.now _))))

theorem drawS {l : List Int} (hw : ∀ x ∈ l, (Lit.int .u8 x).wf = true) : ∃ a b p k, (-5 ≤ k ∧ k ≤ 10) ∧ Ev (fun n => spec_DrawSymbolModulo.f n l) (a, b, p, k) := by
  obtain ⟨c, hb, ho⟩ := spec_l6Open_ev hw
  obtain ⟨a, b, p, q, h1, h2, h3, h4, h5⟩ := spec_l91Pair_ev hb (p := 0) (by omega) (by omega)
  obtain ⟨r, a1, a2, e1⟩ := pick_ev hb (n := 6) (p := q) (by omega) (by omega) (by omega)
  unfold spec_DrawSymbolModulo.f
  rw [ho]
  by_cases c0 : r = 0
  · obtain ⟨s, a3, a4, e2⟩ := pick_ev hb (n := 4) (p := q + 1) (by omega) (by omega) (by omega)
    refine ⟨a, b, 2, 3 + s, by omega, Ev.sbind (Ev.bind h5 (Ev.bind e1 (Ev.pos c0 (Ev.bind e2 (Ev.ret ?_)))))⟩
    dsimp only
    rw [w64 (by omega) (by omega)]
  · by_cases c1 : r = 1
    · obtain ⟨n, q', h6, h7, h8, h9⟩ := spec_l91Prime_ev hb (p := q + 1) (by omega) (by omega)
      obtain ⟨s, a3, a4, e2⟩ := pick_ev hb (n := 3) (p := q') (by omega) (by omega) (by omega)
      exact ⟨a, b, n, s, by omega, Ev.sbind (Ev.bind h5 (Ev.bind e1 (Ev.neg c0 (Ev.pos c1 (Ev.bind h9 (Ev.bind e2 (Ev.now _)))))))⟩
    · obtain ⟨s, a3, a4, e2⟩ := pick_ev hb (n := 3) (p := q + 1) (by omega) (by omega) (by omega)
      refine ⟨a, b, 3, 1 + s, by omega, Ev.sbind (Ev.bind h5 (Ev.bind e1 (Ev.neg c0 (Ev.neg c1 (Ev.bind e2 (Ev.ret ?_))))))⟩
      dsimp only
      rw [w64 (by omega) (by omega)]
theorem smod_down {a b p k : Int} (h : smod a b p k = true) (hk : k ≠ 1) : smod a b p (k - 1) = true := by
  obtain ⟨h1, h2, h3, h4, h5, h6⟩ := smod_iff.1 h
  obtain ⟨n, hn⟩ : ∃ n : Nat, k = n + 2 := ⟨(k - 2).toNat, by omega⟩
  have e1 : k.toNat = n + 1 + 1 := by omega
  have e2 : (k - 1).toNat = n + 1 := by omega
  have hp := (isP_iff.1 h2).1
  have hpos := Nt.pow_pos' hp.1 (n + 1)
  rw [e1] at h5 h6
  rw [smod_iff, e2]
  refine ⟨h1, h2, by omega, by omega, ?_, Nt.Ex.down hpos ⟨p ^ n, by rw [Int.pow_succ, Int.mul_comm]⟩ ⟨p, by rw [Int.pow_succ]⟩ h6⟩
  rw [Int.pow_succ] at h5
  have : p ^ (n + 1) * 1 ≤ p ^ (n + 1) * p := Int.mul_le_mul_of_nonneg_left (by have := hp.1; omega) (by omega)
  omega
theorem no_sq {a c q : Int} (h : Nt.IsCore a c 1) (hq : Nt.Pr q) : ¬ q * q ∣ a := by
  have : a = c := by have := h.1; omega
  rw [this]; exact h.2.2 q hq
theorem high {a b p k : Int} (h : smod a b p k = true) {c d : Int} (hc : Nt.IsCore a c 1) (hd : Nt.IsCore b d 1) (hh : (p = 3 ∧ k = 3) ∨ (p = 2 ∧ k = 5)) : sym a b p = 1 := by
  obtain ⟨h1, h2, h3, h4, h5, h6⟩ := smod_iff.1 h
  have hP : isPl p = true := isPl_iff.2 (.inr (isP_iff.1 h2))
  rw [sym_of h1 hP]
  rcases hh with ⟨rfl, rfl⟩ | ⟨rfl, rfl⟩
  · have pr3 : Nt.Pr 3 := Nt.pr_of_prB (p := 3) (by decide)
    exact Nt.high3 (no_sq hc pr3) (no_sq hd pr3) h6
  · exact Nt.high2 (no_sq hc Nt.pr2) (no_sq hd Nt.pr2) h6
theorem the : laws_FnModulo.Pure := by
  intro l _ _ hl
  refine Ev.rounds ?_
  unfold laws_FnModulo.f
  by_cases h : (l.length : Int) > 1048576
  · exact Ev.pos h (Ev.now _)
  · obtain ⟨a, b, p, k, hk, hd⟩ := drawS hl
    refine Ev.neg h (Ev.bind hd (Ev.bind impl_SymbolModulo_ev (Ev.bind spec_SymbolModulo_ev (Ev.neg (by simp) (Ev.succ ?_)))))
    dsimp only
    simp only [laws_FnModulo.j0]
    by_cases hs : smod a b p k = true
    · obtain ⟨h1, h2, h3, h4, h5, h6⟩ := smod_iff.1 hs
      have hb := isB_iff.1 h1
      obtain ⟨c, r, c1, c2⟩ := impl_CoreOf_ev hb.1 (isN_iff.2 ⟨hb.2.2.1, hb.2.2.2.1⟩)
      obtain ⟨d, s, d1, d2⟩ := impl_CoreOf_ev hb.2.1 (isN_iff.2 hb.2.2.2.2)
      have rest : ((p = 3 ∧ k = 3) ∨ (p = 2 ∧ k = 5)) → Ev (fun n => if r > 1 then some true else (if s > 1 then some true else ((impl_SymbolOf.f n a b p).bind fun t => (some (t == 1))))) true := by
        intro hh
        by_cases r1 : r > 1
        · exact Ev.pos r1 (Ev.now _)
        · by_cases s1 : s > 1
          · exact Ev.neg r1 (Ev.pos s1 (Ev.now _))
          · have er : r = 1 := by have := c1.2.1; omega
            have es : s = 1 := by have := d1.2.1; omega
            subst er
            subst es
            refine Ev.neg r1 (Ev.neg s1 (Ev.bind impl_SymbolOf_ev (Ev.ret ?_)))
            rw [high hs c1 d1 hh]; rfl
      have dn : ∀ g : Nat → Option Bool, (k ≠ 1) → Ev g true → Ev (fun n => (impl_SymbolModulo.f n a b p (k - 1)).bind fun t => (if t = true then g n else some false)) true := by
        intro g k1 hg
        exact Ev.bind impl_SymbolModulo_ev (Ev.pos (smod_down hs k1) hg)
      rw [w64 (x := k - 1) (by omega) (by omega)]
      refine Ev.neg (by simp [hs]) (Ev.bind c2 (Ev.bind d2 ?_))
      dsimp only
      by_cases p3 : p = 3
      · refine Ev.pos p3 ?_
        by_cases k3 : k = 3
        · exact Ev.pos k3 (Ev.pos rfl (Ev.pos rfl (Ev.neg (by omega) (dn _ (by omega) (rest (.inl ⟨p3, k3⟩))))))
        · refine Ev.neg k3 (Ev.neg (by omega) (Ev.pos rfl (Ev.pos rfl ?_)))
          by_cases k1 : k = 1
          · exact Ev.pos k1 (Ev.now _)
          · exact Ev.neg k1 (dn _ k1 (Ev.now _))
      · refine Ev.neg p3 ?_
        by_cases p2 : p = 2
        · refine Ev.pos p2 (Ev.pos rfl (Ev.pos rfl ?_))
          by_cases k1 : k = 1
          · exact Ev.pos k1 (Ev.neg (by omega) (Ev.now _))
          · refine Ev.neg k1 (dn _ k1 ?_)
            by_cases k5 : k = 5
            · exact Ev.pos k5 (rest (.inr ⟨p2, k5⟩))
            · exact Ev.neg k5 (Ev.now _)
        · refine Ev.neg p2 (Ev.pos rfl (Ev.pos rfl ?_))
          by_cases k1 : k = 1
          · exact Ev.pos k1 (Ev.now _)
          · exact Ev.neg k1 (dn _ k1 (Ev.now _))
    · exact Ev.pos (by simp [hs]) (Ev.ret (by simp))

end Go.Proofs.Ytnbelacakmfhcaa.KFnModulo

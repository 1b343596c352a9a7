/- What the printed functions of the law FnLevel compute, and why the law holds of it; for all arguments that its statement speaks of. -/
import Derived.Test.YtdeahlommlgceaaH
import Derived.Test.YtdeahlommlgceaaPFnLevelx7
set_option linter.unusedVariables false
set_option linter.unusedSimpArgs false
namespace Go.Proofs.Ytdeahlommlgceaa.KFnLevel
open Go.RowKit Go.Proofs.YtdeahlommlgceaaW.PrintWords Go.Proofs.YtdeahlommlgceaaW.PrintLast Go.Proofs.YtdeahlommlgceaaW.PrintMore Go.Proofs.Ytdeahlommlgceaa.PFnLevel Go.Proofs.Ytdeahlommlgceaa.K
/-- What a reader reads: bytes, not too many. -/
def BY (b : List Int) : Prop := b.length ≤ 2000 ∧ ∀ x ∈ b, 0 ≤ x ∧ x < 256
theorem BY.rd {b : List Int} (hb : BY b) {i : Int} (h0 : 0 ≤ i) (h1 : i < b.length) : 0 ≤ rd b i ∧ rd b i < 256 := by
 obtain ⟨n, rfl⟩ : ∃ n : Nat, i = n := ⟨i.toNat, by omega⟩
 exact hb.2 _ (rd_mem (by omega))
theorem xor_i64 (a b : Nat) (ha : a < 9223372036854775808) (hb : b < 9223372036854775808) : Go.bits .xor .i64 (a : Int) (b : Int) = ((a ^^^ b : Nat) : Int) := by
 have hx : a ^^^ b < 2 ^ 63 := Nat.xor_lt_two_pow (by omega) (by omega)
 have h1 : (BitVec.ofInt 64 (a : Int)).toNat = a := by
  rw [BitVec.ofInt_natCast, BitVec.toNat_ofNat]; exact Nat.mod_eq_of_lt (by omega)
 have h2 : (BitVec.ofInt 64 (b : Int)).toNat = b := by
  rw [BitVec.ofInt_natCast, BitVec.toNat_ofNat]; exact Nat.mod_eq_of_lt (by omega)
 show IntKind.i64.wrap ((BitVec.ofInt 64 (a : Int) ^^^ BitVec.ofInt 64 (b : Int)).toNat : Int) = _
 rw [BitVec.toNat_xor, h1, h2]
 simp [IntKind.wrap, IntKind.bits, IntKind.signed]
 omega
/-- What lies behind the end. -/
def mixX (b : List Int) (q : Int) : Int := rd b (Int.tmod q b.length) * 131 + rd b (Int.tmod (q * 7 + 3) b.length) * 1117 + q * 29 + Int.tdiv q b.length * 53
/-- Behind the end: the mixture. -/
theorem pick_far {b : List Int} (hb : BY b) {n p : Int} (hn : 1 ≤ n) (hp : 0 ≤ p) (hp2 : p ≤ 1099511627776) (h0 : b.length ≠ 0) (hlt : ¬ p < b.length) :
 0 ≤ mixX b p ∧ Ev (fun k => spec_l6Rd_pick.f k b p n) ((((mixX b p).toNat ^^^ (mixX b p).toNat / 64 : Nat) : Int) % n, p + 1) := by
 have hl := hb.1
 have hlp : (0 : Int) < b.length := by omega
 have t1 : 0 ≤ Int.tmod p b.length := Int.tmod_nonneg _ hp
 have t2 : Int.tmod p b.length < b.length := Int.tmod_lt_of_pos _ hlp
 have t3 : 0 ≤ Int.tmod (p * 7 + 3) b.length := Int.tmod_nonneg _ (by omega)
 have t4 : Int.tmod (p * 7 + 3) b.length < b.length := Int.tmod_lt_of_pos _ hlp
 have r1 := hb.rd t1 t2
 have r2 := hb.rd t3 t4
 have d1 : 0 ≤ Int.tdiv p b.length := Int.tdiv_nonneg hp (by omega)
 have d2 : Int.tdiv p b.length ≤ p := by rw [Int.tdiv_eq_ediv_of_nonneg hp]; exact Int.ediv_le_self _ hp
 have x0 : 0 ≤ mixX b p := by unfold mixX; omega
 have x1 : mixX b p ≤ 100000000000000 := by unfold mixX; omega
 have x2 : Int.tdiv (mixX b p) 64 = mixX b p / 64 := Int.tdiv_eq_ediv_of_nonneg x0
 have x4 : (mixX b p / 64).toNat = (mixX b p).toNat / 64 := by omega
 have x3 : Go.bits .xor .i64 (mixX b p) (Int.tdiv (mixX b p) 64) = ((mixX b p).toNat ^^^ (mixX b p).toNat / 64 : Nat) := by
  rw [x2]
  have := xor_i64 (mixX b p).toNat (mixX b p / 64).toNat (by omega) (by omega)
  rw [Int.toNat_of_nonneg x0, Int.toNat_of_nonneg (by omega)] at this
  rw [this, x4]
 refine ⟨x0, ?_⟩
 rw [← Int.tmod_eq_emod_of_nonneg (by omega), ← x3]
 unfold spec_l6Rd_pick.f
 refine Ev.neg (by omega) ?_
 refine Ev.succ ?_
 simp only [spec_l6Rd_pick.j0]
 refine Ev.neg (by simp only [beq_iff_eq]; omega) ?_
 have e : wrap64 (wrap64 (p + 1) - 1) = p := by rw [w64 (x := p + 1) (by omega) (by omega), w64 (by omega) (by omega)]; omega
 rw [e]
 have e7 : wrap64 (wrap64 (p * 7) + 3) = p * 7 + 3 := by rw [w64 (x := p * 7) (by omega) (by omega), w64 (by omega) (by omega)]
 rw [e7]
 refine Ev.neg (by omega) (Ev.neg (by omega) (Ev.pos t1 (Ev.pos t2 (Ev.pos t3 (Ev.pos t4 (Ev.neg (by omega) ?_))))))
 have em : wrap64 (wrap64 (wrap64 (wrap64 (wrap64 (rd b (Int.tmod p b.length)) * 131) + wrap64 (wrap64 (rd b (Int.tmod (p * 7 + 3) b.length)) * 1117)) + wrap64 (p * 29)) + wrap64 (wrap64 (Int.tdiv p b.length) * 53)) = mixX b p := by
  unfold mixX
  generalize rd b (Int.tmod p b.length) = A at *
  generalize rd b (Int.tmod (p * 7 + 3) b.length) = B at *
  generalize Int.tdiv p b.length = D at *
  simp (disch := omega) only [w64]
 rw [em, w64 (x := Int.tdiv (mixX b p) 64) (by omega) (by omega), w64 (by omega) (by omega)]
 exact Ev.now _
theorem pick_ev {b : List Int} (hb : BY b) {n p : Int} (hn : 1 ≤ n) (hp : 0 ≤ p) (hp2 : p ≤ 1099511627776) :
 ∃ r, 0 ≤ r ∧ r < n ∧ Ev (fun k => spec_l6Rd_pick.f k b p n) (r, p + 1) := by
 have hl := hb.1
 by_cases h0 : b.length = 0
 · refine ⟨0, by omega, by omega, ?_⟩
   unfold spec_l6Rd_pick.f
   refine Ev.neg (by omega) ?_
   refine Ev.succ ?_
   simp only [spec_l6Rd_pick.j0]
   refine Ev.pos (by simp [h0]) ?_
   rw [w64 (by omega) (by omega)]
   exact Ev.now _
 · by_cases hlt : p < b.length
   · have hr := hb.rd hp hlt
     refine ⟨Int.tmod (rd b p) n, ?_, ?_, ?_⟩
     · exact Int.tmod_nonneg _ hr.1
     · exact Int.tmod_lt_of_pos _ (by omega)
     · unfold spec_l6Rd_pick.f
       refine Ev.neg (by omega) ?_
       refine Ev.succ ?_
       simp only [spec_l6Rd_pick.j0]
       refine Ev.neg (by simp only [beq_iff_eq]; omega) ?_
       have e : wrap64 (wrap64 (p + 1) - 1) = p := by rw [w64 (x := p + 1) (by omega) (by omega), w64 (by omega) (by omega)]; omega
       rw [e]
       refine Ev.pos hlt (Ev.pos hp (Ev.neg (by omega) ?_))
       rw [w64 (by omega) (by omega), w64 (by omega) (by omega)]
       exact Ev.now _
   · obtain ⟨_, h⟩ := pick_far hb hn hp hp2 h0 hlt
     exact ⟨_, Int.emod_nonneg _ (by omega), Int.emod_lt_of_pos _ (by omega), h⟩
theorem wf64 {a : Int} (h : (Lit.int .i64 a).wf = true) : -9223372036854775808 ≤ a ∧ a ≤ 9223372036854775807 := by
 simp [Lit.wf, IntKind.min, IntKind.max, IntKind.bits, IntKind.signed] at h
 omega
theorem wf8 {a : Int} (h : (Lit.int .u8 a).wf = true) : 0 ≤ a ∧ a < 256 := by
 simp [Lit.wf, IntKind.min, IntKind.max, IntKind.bits, IntKind.signed] at h
 omega
theorem spec_l6Open_ev {l : List Int} (hw : ∀ x ∈ l, (Lit.int .u8 x).wf = true) : ∃ b, BY b ∧ spec_l6Open.f l = some (b, 0) := by
 unfold spec_l6Open.f
 by_cases h : (l.length : Int) > 2000
 · refine ⟨l.take 2000, ⟨by rw [List.length_take]; omega, fun x hx => wf8 (hw x (List.mem_of_mem_take hx))⟩, ?_⟩
   rw [if_pos h, if_pos (by omega)]
 · exact ⟨l, ⟨by omega, fun x hx => wf8 (hw x hx)⟩, by rw [if_neg h]⟩
/-- The places that are drawn. -/
def DP (p : Int) : Prop := p ∈ [0, 1, 4, -3, 97, 9, 2, 3, 5, 7, 11, 13]
theorem DP.bd {p : Int} (h : DP p) : -3 ≤ p ∧ p ≤ 97 := by
 unfold DP at h
 simp only [List.mem_cons, List.not_mem_nil, or_false] at h
 omega
theorem rd6p {i : Int} (h0 : 0 ≤ i) (h1 : i < 6) : DP (rd [0, 1, 4, -3, 97, 9] i) := by
 unfold DP
 rcases (by omega : i = 0 ∨ i = 1 ∨ i = 2 ∨ i = 3 ∨ i = 4 ∨ i = 5) with rfl | rfl | rfl | rfl | rfl | rfl <;> decide
theorem rd8p {i : Int} (h0 : 0 ≤ i) (h1 : i < 8) : DP (rd [2, 3, 5, 7, 11, 13, 3, 2] i) := by
 unfold DP
 rcases (by omega : i = 0 ∨ i = 1 ∨ i = 2 ∨ i = 3 ∨ i = 4 ∨ i = 5 ∨ i = 6 ∨ i = 7) with rfl | rfl | rfl | rfl | rfl | rfl | rfl | rfl <;> decide
theorem spec_l91Prime_ev {b : List Int} (hb : BY b) {p : Int} (hp : 0 ≤ p) (hp2 : p ≤ 900000) : ∃ n q, DP n ∧ p ≤ q ∧ q ≤ p + 2 ∧ Ev (fun k => spec_l91Prime.f k b p) (n, q) := by
 obtain ⟨r1, a1, a2, e1⟩ := pick_ev hb (n := 24) (p := p) (by omega) hp (by omega)
 unfold spec_l91Prime.f
 by_cases c : r1 = 0
 · obtain ⟨r2, a3, a4, e2⟩ := pick_ev hb (n := 6) (p := p + 1) (by omega) (by omega) (by omega)
   exact ⟨_, p + 1 + 1, rd6p a3 a4, by omega, by omega, Ev.bind e1 (Ev.pos c (Ev.sbind (Ev.bind e2 (Ev.pos a3 (Ev.pos (by simp; omega) (Ev.now _))))))⟩
 · obtain ⟨r2, a3, a4, e2⟩ := pick_ev hb (n := 8) (p := p + 1) (by omega) (by omega) (by omega)
   exact ⟨_, p + 1 + 1, rd8p a3 a4, by omega, by omega, Ev.bind e1 (Ev.neg c (Ev.sbind (Ev.bind e2 (Ev.pos a3 (Ev.pos (by simp; omega) (Ev.now _))))))⟩
theorem spec_l91Place_ev {b : List Int} (hb : BY b) {p : Int} (hp : 0 ≤ p) (hp2 : p ≤ 800000) : ∃ n q, DP n ∧ p ≤ q ∧ q ≤ p + 3 ∧ Ev (fun k => spec_l91Place.f k b p) (n, q) := by
 obtain ⟨r1, a1, a2, e1⟩ := pick_ev hb (n := 5) (p := p) (by omega) hp (by omega)
 unfold spec_l91Place.f
 by_cases c : r1 = 0
 · exact ⟨0, p + 1, by unfold DP; decide, by omega, by omega, Ev.bind e1 (Ev.pos c (Ev.now _))⟩
 · obtain ⟨n, q, h1, h2, h3, h4⟩ := spec_l91Prime_ev hb (p := p + 1) (by omega) (by omega)
   exact ⟨n, q, h1, by omega, by omega, Ev.bind e1 (Ev.neg c (Ev.bind h4 (Ev.now _)))⟩
/-- The level at a drawn place; -1 where there is none. -/
def lv (z : Int) : Int := if z = 2 then 4 else if z = 3 ∨ z = 7 ∨ z = 11 then 2 else if z = 5 ∨ z = 13 ∨ z = 97 then 1 else -1
theorem impl_level_small : ∀ z ∈ ([0, 1, 4, -3, 9, 2, 3, 5, 7, 11, 13] : List Int), impl_LocalLevel.f 2000 z = some (lv z) := by decide +kernel
theorem spec_level_small : ∀ z ∈ ([0, 1, 4, -3, 9, 2, 3, 5, 7, 11, 13] : List Int), spec_LocalLevel.f 2000 z = some (lv z) := by decide +kernel
theorem law_small : ∀ z ∈ ([0, 1, 4, -3, 97, 9, 2, 3, 5, 7, 11, 13] : List Int), laws_FnLevel.j0 300 z (lv z) (lv z) (decide (lv z < 0)) = some true := by decide +kernel
theorem impl_level_97 : impl_LocalLevel.f 10000 97 = some 1 := by decide +kernel
theorem spec_level_97 : spec_LocalLevel.f 10000 97 = some 1 := by decide +kernel
theorem level_cases {z : Int} (h : DP z) : z = 97 ∨ z ∈ ([0, 1, 4, -3, 9, 2, 3, 5, 7, 11, 13] : List Int) := by
 unfold DP at h
 simp only [List.mem_cons, List.not_mem_nil, or_false] at h ⊢
 omega
theorem impl_level_ev {z : Int} (h : DP z) : Ev (fun k => impl_LocalLevel.f k z) (lv z) := by
 rcases level_cases h with rfl | h
 · exact Ev.of (fun k => impl_LocalLevel.mono _ k) impl_level_97
 · exact Ev.of (fun k => impl_LocalLevel.mono _ k) (impl_level_small z h)
theorem spec_level_ev {z : Int} (h : DP z) : Ev (fun k => spec_LocalLevel.f k z) (lv z) := by
 rcases level_cases h with rfl | h
 · exact Ev.of (fun k => spec_LocalLevel.mono _ k) spec_level_97
 · exact Ev.of (fun k => spec_LocalLevel.mono _ k) (spec_level_small z h)
theorem law_ev {z : Int} (h : DP z) : Ev (fun k => laws_FnLevel.j0 k z (lv z) (lv z) (decide (lv z < 0))) true := Ev.of (fun k => (laws_FnLevel.mono_l k).1 _ _ _ _) (law_small z h)
theorem the : laws_FnLevel.Pure := by
 intro l _ _ hl
 refine Ev.rounds ?_
 unfold laws_FnLevel.f
 by_cases h : (l.length : Int) > 1048576
 · exact Ev.pos h (Ev.now _)
 · obtain ⟨b, hb, ho⟩ := spec_l6Open_ev hl
   obtain ⟨z, q, hz, _, _, e⟩ := spec_l91Place_ev hb (p := 0) (by omega) (by omega)
   refine Ev.neg h (Ev.bind (a := z) ?_ ?_)
   · unfold spec_DrawLocalLevel.f
     rw [ho]
     exact Ev.sbind (Ev.bind e (Ev.now _))
   · exact Ev.bind (impl_level_ev hz) (Ev.bind (spec_level_ev hz) (Ev.pos rfl (law_ev hz)))
end Go.Proofs.Ytdeahlommlgceaa.KFnLevel

/- slices.Sort of a list of ints over this program: the shelf's contract, in the words of the prints' rows. For every row of the call's own that holds at least one int. -/
import Derived.Shelf.Sort.Plain
import Derived.Test.YtdeahlommlgceaaProg
import Derived.Test.YtdeahlommlgceaaWMore
import Derived.Test.YtdeahlommlgceaaWKept
import Derived.Test.YtdeahlommlgceaaWWords
import Derived.Test.YtdeahlommlgceaaWLast
import Derived.KernelRfl
namespace Go.Proofs.Ytdeahlommlgceaa.Srt
open Go.Sort Go.Shelf Go.RowKit Go.Proofs.YtdeahlommlgceaaW.PrintWords Go.Proofs.YtdeahlommlgceaaW.PrintLast Go.Proofs.YtdeahlommlgceaaW.PrintMore
def ren : Ren := ⟨fun n => if n = 125 then 135 else if n = 128 then 150 else if n = 129 then 151 else if n = 189 then 112 else if n = 215 then 158 else if n = 216 then 147 else if n = 257 then 134 else if n = 294 then 141 else if n = 295 then 142 else if n = 296 then 143 else if n = 297 then 144 else if n = 298 then 145 else if n = 299 then 146 else if n = 300 then 148 else if n = 301 then 149 else if n = 328 then 153 else if n = 329 then 154 else if n = 330 then 155 else if n = 331 then 156 else if n = 332 then 157 else if n = 343 then 159 else 0, fun n => if n = 0 then 0 else if n = 3 then 3 else if n = 4 then 4 else if n = 5 then 5 else if n = 9 then 9 else if n = 28 then 23 else if n = 46 then 90 else if n = 51 then 98 else if n = 53 then 100 else if n = 131 then 30 else if n = 182 then 92 else if n = 183 then 93 else if n = 218 then 101 else if n = 222 then 105 else if n = 228 then 107 else if n = 229 then 64 else 0, fun n => n⟩
set_option maxRecDepth 100000 in
theorem lays : Lays.n189 Try.prog ren where
  mixed := by kernel_rfl
  f125 := by kernel_rfl
  f128 := by kernel_rfl
  f129 := by kernel_rfl
  f189 := by kernel_rfl
  f215 := by kernel_rfl
  f216 := by kernel_rfl
  f257 := by kernel_rfl
  f294 := by kernel_rfl
  f295 := by kernel_rfl
  f296 := by kernel_rfl
  f297 := by kernel_rfl
  f298 := by kernel_rfl
  f299 := by kernel_rfl
  f300 := by kernel_rfl
  f301 := by kernel_rfl
  f328 := by kernel_rfl
  f329 := by kernel_rfl
  f330 := by kernel_rfl
  f331 := by kernel_rfl
  f332 := by kernel_rfl
  f343 := by kernel_rfl
  t0 := Try.underlying0
  a0 := Try.isAgg0
  z0 := Try.sizeOf0
  v0 := Try.zeroValue0
  t3 := Try.underlying3
  a3 := Try.isAgg3
  z3 := Try.sizeOf3
  v3 := Try.zeroValue3
  t4 := Try.underlying4
  a4 := Try.isAgg4
  z4 := Try.sizeOf4
  v4 := Try.zeroValue4
  t5 := Try.underlying5
  a5 := Try.isAgg5
  z5 := Try.sizeOf5
  v5 := Try.zeroValue5
  t9 := Try.underlying9
  a9 := Try.isAgg9
  z9 := Try.sizeOf9
  v9 := Try.zeroValue9
  t28 := Try.underlying23
  a28 := Try.isAgg23
  z28 := Try.sizeOf23
  v28 := Try.zeroValue23
  t46 := Try.underlying90
  a46 := Try.isAgg90
  z46 := Try.sizeOf90
  v46 := Try.zeroValue90
  t51 := Try.underlying98
  a51 := Try.isAgg98
  z51 := Try.sizeOf98
  v51 := Try.zeroValue98
  t53 := Try.underlying100
  a53 := Try.isAgg100
  z53 := Try.sizeOf100
  v53 := Try.zeroValue100
  t131 := Try.underlying30
  a131 := Try.isAgg30
  z131 := Try.sizeOf30
  v131 := Try.zeroValue30
  t182 := Try.underlying92
  a182 := Try.isAgg92
  z182 := Try.sizeOf92
  v182 := Try.zeroValue92
  t183 := Try.underlying93
  a183 := Try.isAgg93
  z183 := Try.sizeOf93
  v183 := Try.zeroValue93
  t218 := Try.underlying101
  a218 := Try.isAgg101
  z218 := Try.sizeOf101
  v218 := Try.zeroValue101
  t222 := Try.underlying105
  a222 := Try.isAgg105
  z222 := Try.sizeOf105
  v222 := Try.zeroValue105
  t228 := Try.underlying107
  a228 := Try.isAgg107
  z228 := Try.sizeOf107
  v228 := Try.zeroValue107
  t229 := Try.underlying64
  a229 := Try.isAgg64
  z229 := Try.sizeOf64
  v229 := Try.zeroValue64

theorem inner_of {xs : List Int} {inner : List Value} (h : Reps (fun x cs => cs = [Value.int .i64 x]) 1 xs inner) : inner = xs.map (Value.int .i64) := by
  obtain ⟨hl, hp⟩ := h
  rw [Nat.mul_one] at hl
  apply List.ext_getElem?
  intro j
  by_cases hj : j < xs.length
  · have h1 := hp j xs[j] (List.getElem?_eq_getElem hj)
    rw [Nat.mul_one] at h1
    have h2 : inner.drop j = inner[j] :: inner.drop (j + 1) := List.drop_eq_getElem_cons (by omega)
    rw [h2] at h1
    simp only [List.take_succ_cons, List.take_zero] at h1
    injection h1 with h1 _
    rw [List.getElem?_map, List.getElem?_eq_getElem hj, List.getElem?_eq_getElem (by omega), h1]
    rfl
  · rw [List.getElem?_eq_none (by omega), List.getElem?_eq_none (by simp; omega)]
theorem reps_of : ∀ (xs : List Int), Reps (fun x cs => cs = [Value.int .i64 x]) 1 xs (xs.map (Value.int .i64)) := by
  intro xs
  refine ⟨by simp, fun j p hj => ?_⟩
  have hl : j < xs.length := (List.getElem?_eq_some_iff.1 hj).1
  rw [Nat.mul_one, ← List.map_drop, List.drop_eq_getElem_cons hl]
  rw [List.getElem?_eq_getElem hl] at hj
  injection hj with hj
  simp [hj]

theorem holds_block {w : World} {g : Nat} {cur : Array Value} {e : TypeId} {xs : List Int} (hb : w.heap[g]? = some (.cells cur e (0, 0))) (ht : cur.toList.take xs.length = xs.map (Value.int .i64)) : Holds (Value.int .i64) w g 0 xs.toArray := by
  intro j hj
  have hj' : j < xs.length := by simpa using hj
  refine ⟨?_, by simp [World.frozen?, hb]⟩
  have h1 : (cur.toList.take xs.length)[j]? = (xs.map (Value.int .i64))[j]? := by rw [ht]
  rw [List.getElem?_take_of_lt hj'] at h1
  simp only [World.cell?, hb, Nat.zero_add]
  simp only [Option.isSome_none, Bool.false_eq_true, if_false]
  rw [← Array.getElem?_toList, h1]
  simp [hj']
theorem heap_put {w : World} {g n : Nat} {os : Array Obj} {cur : Array Value} {e : TypeId} {fr : Nat × Nat} (d : Array Int) (hb : w.heap[g]? = some (.cells cur e fr)) :
    (grow (putRow (Value.int .i64) (Sort.ahead w n) g 0 d) os).heap[g]? = some (.cells (putCells (Value.int .i64) 0 d cur) e fr) := by
  have hg : g < w.heap.size := (Array.getElem?_eq_some_iff.1 hb).1
  rw [heap_grow_old _ _ (by simpa using hg)]
  simp [putRow, mapBlock, Sort.ahead, Array.getElem?_modify, hb, onCells]
theorem grownBy_put {w : World} {g n : Nat} {os : Array Obj} (d : Array Int) : w.grownBy (grow (putRow (Value.int .i64) (Sort.ahead w n) g 0 d) os) (some g) := by
  refine ⟨rfl, rfl, rfl, by simp, fun k hk hne => ?_⟩
  rw [heap_grow_old _ _ (by simpa using hk)]
  have : g ≠ k := fun e => hne (by rw [e])
  simp [putRow, mapBlock, Sort.ahead, Array.getElem?_modify, this]
theorem take_put (cur : Array Value) (ts : List Int) (h : ts.length ≤ cur.size) : (putCells (Value.int .i64) 0 ts.toArray cur).toList.take ts.length = ts.map (Value.int .i64) := by
  apply List.ext_getElem?
  intro j
  by_cases hj : j < ts.length
  · rw [List.getElem?_take_of_lt hj, Array.getElem?_toList]
    simp [putCells, hj, show j < cur.size by omega]
  · rw [List.getElem?_take_eq_none (by omega), List.getElem?_eq_none (by simp; omega)]

/-- Sorted, ascending. -/
def srt (l : List Int) : List Int := l.mergeSort fun x y => decide (x ≤ y)
theorem srt_length (l : List Int) : (srt l).length = l.length := by unfold srt; simp

theorem sort_calls (P0 : Nat → Prop) (u : Value) (l : List Int) (w0 w : World) (hB : Below w0.heap.size w0 w) (ho : Kd.R (Kd.int .i64) 3 w w0.heap.size P0 u l) (hl : 0 < l.length) (hl2 : l.length < 4611686018427387904) :
    Calls Try.prog 112 #[u] w fun e w' => e = .returned (.tuple #[]) ∧ Kd.R (Kd.int .i64) 3 w' w0.heap.size (fun k => P0 k ∨ w.heap.size ≤ k) u (srt l) ∧ Below w0.heap.size w0 w' ∧ Kept w w' P0 := by
  obtain ⟨h0, inner, ⟨hlen, hown⟩, hr⟩ := ho
  have hi := inner_of (xs := l) (inner := inner) hr
  subst hi
  rcases hown with ⟨_, hz⟩ | ⟨g, cap, cur, rfl, hbase, hb, h1, h2, h3, h4⟩
  · omega
  · rw [show (Kd.int IntKind.i64).sz = 1 from rfl, Nat.mul_one] at h3 h4
    have hg : g < w.heap.size := (Array.getElem?_eq_some_iff.1 hb).1
    have hc := Any.slices_Sort_int lays g 0 cap l w (holds_block hb h4) hg hl2
    refine Calls.mono hc ?_
    rintro e w' ⟨rfl, n, os, rfl⟩
    have hgr := grownBy_put (w := w) (g := g) (n := n) (os := os) (srt l).toArray
    have hP : P0 g := h0 g rfl
    refine ⟨rfl, ⟨fun k hk => ?_, (srt l).map (Value.int .i64), ⟨by simp [Kd.int, Kd.scalar], .inr ⟨g, cap, _, by rw [srt_length], hbase, heap_put _ hb, by rw [srt_length]; exact h1, h2, ?_, ?_⟩⟩, reps_of _⟩, ?_, ?_⟩
    · have : g = k := by simpa [Value.ownBlock] using hk
      subst this
      exact .inl hP
    · simp [putCells, h3, Kd.int, Kd.scalar]
    · rw [show (Kd.int IntKind.i64).sz = 1 from rfl, Nat.mul_one]
      exact take_put cur (srt l) (by rw [srt_length]; omega)
    · exact hB.grown hgr hB.size (fun k hk => by cases hk; exact hbase)
    · exact Kept.of_grown hgr (Kept.refl w P0) (fun k hk => by cases hk; exact .inl hP)
end Go.Proofs.Ytdeahlommlgceaa.Srt

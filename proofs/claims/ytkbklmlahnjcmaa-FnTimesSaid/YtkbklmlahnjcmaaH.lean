/- Small words about rounds and lists, for all laws of this seat. -/
import Derived.Test.YtkbklmlahnjcmaaWMore
import Derived.Test.YtkbklmlahnjcmaaWWords
namespace Go.Proofs.Ytkbklmlahnjcmaa.K
open Go.RowKit Go.Proofs.YtkbklmlahnjcmaaW.PrintWords Go.Proofs.YtkbklmlahnjcmaaW.PrintMore

theorem w64 {x : Int} (h1 : -9223372036854775808 ≤ x) (h2 : x ≤ 9223372036854775807) : wrap64 x = x := by
  unfold wrap64; omega

section
variable {α β : Type} {r : α}
theorem Ev.succ {g : Nat → Option α} (h : Ev (fun k => g (k + 1)) r) : Ev g r := by
  obtain ⟨K, hK⟩ := h
  refine ⟨K + 1, fun k hk => ?_⟩
  obtain ⟨m, rfl⟩ : ∃ m, k = m + 1 := ⟨k - 1, by omega⟩
  exact hK m (by omega)
theorem Ev.pos {c : Prop} [Decidable c] {f g : Nat → Option α} (h : c) (k : Ev f r) : Ev (fun n => if c then f n else g n) r := Ev.congr (fun _ => if_pos h) k
theorem Ev.neg {c : Prop} [Decidable c] {f g : Nat → Option α} (h : ¬ c) (k : Ev g r) : Ev (fun n => if c then f n else g n) r := Ev.congr (fun _ => if_neg h) k
theorem Ev.by_ite {c : Prop} [Decidable c] {f g : Nat → Option α} (h1 : c → Ev f r) (h2 : ¬ c → Ev g r) : Ev (fun n => if c then f n else g n) r := by
  by_cases h : c
  · exact Ev.pos h (h1 h)
  · exact Ev.neg h (h2 h)
theorem Ev.sbind {a : β} {f : Nat → β → Option α} (k : Ev (fun n => f n a) r) : Ev (fun n => (some a).bind (f n)) r := k
theorem Ev.ret {q : α} (h : q = r) : Ev (fun _ => some q) r := h ▸ Ev.now _
theorem Ev.to {g : Nat → Option α} {q : α} (k : Ev g q) (h : q = r) : Ev g r := h ▸ k
/-- Two answers of one call are one. -/
theorem Ev.one {g : Nat → Option α} {q : α} (h : Ev g r) (h' : Ev g q) : r = q := by
  obtain ⟨K, hK⟩ := h
  obtain ⟨L, hL⟩ := h'
  have a := hK (max K L) (Nat.le_max_left _ _)
  have b := hL (max K L) (Nat.le_max_right _ _)
  rw [a] at b
  injection b
end

theorem drop_cons {xs r : List Int} {t : Int} {i : Nat} (h : xs.drop i = t :: r) : i < xs.length ∧ rd xs (i : Int) = t ∧ xs.drop (i + 1) = r := by
  have hi : i < xs.length := by
    rcases Nat.lt_or_ge i xs.length with h' | h'
    · exact h'
    · rw [List.drop_eq_nil_of_le h'] at h; cases h
  rw [List.drop_eq_getElem_cons hi] at h
  injection h with h1 h2
  refine ⟨hi, ?_, h2⟩
  unfold rd
  rw [← h1]
  simp [List.getD_eq_getElem?_getD, hi]
theorem drop_nil {xs : List Int} {i : Nat} (h : xs.drop i = []) : xs.length ≤ i := by
  simpa using h
theorem take_snoc {xs : List Int} {i : Nat} (h : i < xs.length) : xs.take (i + 1) = xs.take i ++ [rd xs (i : Int)] := by
  rw [List.take_succ_eq_append_getElem h]
  unfold rd
  simp [List.getD_eq_getElem?_getD, h]
theorem rd_mem {xs : List Int} {i : Nat} (h : i < xs.length) : rd xs (i : Int) ∈ xs := by
  unfold rd
  simp [List.getD_eq_getElem?_getD, h]
theorem mx_eq (a b : Int) : mx a b = max a b := by unfold mx; omega
theorem cast_succ (i : Nat) : ((i : Int) + 1) = ((i + 1 : Nat) : Int) := by omega

end Go.Proofs.Ytkbklmlahnjcmaa.K

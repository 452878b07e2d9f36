/-
  Lists that grow by an entry a step, as plain functions: for every input.
-/
import Derived.Test.YtfagmeafkddibaaDoorPDbB
import Derived.Test.YtfagmeafkddibaaDoorPCcD
set_option linter.all false
namespace Go.Sx
theorem ent_ok {x y : List UInt8} {k kv ex ml atr fl un : Int} (hx : nameS x = true) (hy : instS y = true) (hk : k = 0 ∨ keyOk k = true) (h1 : 0 ≤ kv ∧ kv ≤ 255) (h2 : 0 ≤ ex ∧ ex ≤ 4294967295) (h3 : 0 ≤ un ∧ un ≤ 4294967295) (h4 : 0 ≤ ml ∧ ml ≤ 255) (h5 : 0 ≤ atr ∧ atr ≤ 3) (h6 : 0 ≤ fl ∧ fl ≤ 20) : deV ⟨x, y, k, kv, ex, ml, atr, fl, un⟩ :=
  deC_4 hx hy hk ⟨⟨h1, h2, h3⟩, h4, h5, h6⟩
theorem user_parts (n : Int) : nameS (userN n) = true := by
  have := user_valid n 0
  unfold validS at this
  simp only [Bool.and_eq_true] at this
  exact this.1
theorem inst_nil : instS [] = true := by decide +kernel
theorem attr_range {a b : Int} (ha : 0 ≤ a ∧ a < 5) (hb : 0 ≤ b ∧ b < 4) : 0 ≤ a / 4 * b ∧ a / 4 * b ≤ 3 := by
  have h1 : a / 4 = 0 ∨ a / 4 = 1 := by omega
  rcases h1 with h1 | h1
  · rw [h1]; omega
  · rw [h1]; omega
section
variable (E : Nat → DE) (P : Nat → Nat)
def genP : Nat → Nat
  | 0 => 0
  | j + 1 => P (genP j)
def genO : Nat → List DE
  | 0 => []
  | j + 1 => insD (E (genP P j)) (genO j)
def genN (n : Nat) : Nat := (List.range 61).findIdx fun j => decide (¬ (genP P j < n ∧ j < 60))
end
section
variable {E : Nat → DE} {P : Nat → Nat}
theorem genN_at {n j : Nat} (hj : j ≤ 60) (h : ∀ i, i < j → genP P i < n) (h2 : ¬ (genP P j < n ∧ j < 60)) : genN P n = j := by
  refine find_at 0 (by simp; omega) (fun i hi => ?_) ?_
  · rw [range_getD (by omega)]
    have := h i hi
    exact decide_eq_false (fun hh => hh ⟨this, by omega⟩)
  · rw [range_getD (by omega)]; exact decide_eq_true h2
theorem genN_le (n : Nat) : genN P n ≤ 60 := by
  have h : genN P n < 61 := by
    by_cases h : genN P n < (List.range 61).length
    · simpa using h
    · exfalso
      have := find_miss (p := fun j => decide (¬ (genP P j < n ∧ j < 60))) (l := List.range 61) (i := 60) 0 (by
        show 60 < genN P n
        have : (List.range 61).length = 61 := List.length_range
        omega)
      rw [range_getD (by omega)] at this
      have := of_decide_eq_false this
      omega
  omega
theorem genO_len : ∀ j, (genO E P j).length = j
  | 0 => rfl
  | j + 1 => by rw [genO, insD_len, genO_len j]
theorem genO_ok {r : List UInt8} (hr : realmS r = true) (hE : ∀ k, deV (E k)) : ∀ j, j ≤ 60 → dbC r (genO E P j) = 0
  | 0, _ => dbC_mk hr (by simp [genO]) (by simp [genO]) (by intro i hi; simp [genO] at hi)
  | j + 1, h => insD_ok (genO_ok hr hE j (by omega)) (hE _) (by rw [genO_len]; omega)
end
/-- one more entry than a list has before a place -/
theorem less_iff {s t : DE} (h : Op.bytesLess s.x t.x = true) : ¬ 0 < deO s t := by have := (deO_lt (s := s) (t := t)).2 (.inl h); omega
theorem less_iff2 {s t : DE} (h : s.x = t.x) (h2 : Op.bytesLess s.y t.y = true) : ¬ 0 < deO s t := by have := (deO_lt (s := s) (t := t)).2 (.inr ⟨h, h2⟩); omega
theorem less_iff3 {s t : DE} (h : s.x = t.x) (h2 : s.y = t.y) : ¬ 0 < deO s t := by have := (deO_zero (s := s) (t := t)).2 ⟨h, h2⟩; omega
theorem more_iff {s t : DE} (h : Op.bytesLess s.x t.x = false) (h2 : ¬ s.x = t.x) : 0 < deO s t := by
  have h3 : ¬ deO s t < 0 := fun hh => by
    rcases deO_lt.1 hh with h4 | h4
    · rw [h] at h4; cases h4
    · exact h2 h4.1
  have h4 : ¬ deO s t = 0 := fun hh => h2 (deO_zero.1 hh).1
  omega
theorem more_iff2 {s t : DE} (h : Op.bytesLess s.x t.x = false) (h2 : Op.bytesLess s.y t.y = false) (h3 : ¬ s.y = t.y) : 0 < deO s t := by
  have h4 : ¬ deO s t < 0 := fun hh => by
    rcases deO_lt.1 hh with h4 | h4
    · rw [h] at h4; cases h4
    · rw [h2] at h4; cases h4.2
  have h5 : ¬ deO s t = 0 := fun hh => h3 (deO_zero.1 hh).2
  omega
theorem take_all {O : List DE} {i : Nat} : (flat deR (O.drop i)).take ((O.length - i) * 9) = flat deR (O.drop i) := List.take_of_length_le (by rw [flat_len deR_len, List.length_drop]; omega)
end Go.Sx

/-
  Slices of structs: rows of leaves, one behind the other; the first error of a list; plain functions, for every input.
-/
import Derived.Test.YtcnemhfgpldplabPKey
set_option linter.all false
namespace Go.Sx
def flat {α : Type} (f : α → List L) (l : List α) : List L := (l.map f).flatten
section
variable {α : Type} {f : α → List L} {sz : Nat}
theorem flat_nil : flat f [] = [] := rfl
theorem flat_cons (x : α) (l : List α) : flat f (x :: l) = f x ++ flat f l := by simp [flat]
theorem flat_append (a b : List α) : flat f (a ++ b) = flat f a ++ flat f b := by simp [flat]
theorem flat_one (x : α) : flat f [x] = f x := by simp [flat]
theorem flat_len (hf : ∀ x, (f x).length = sz) : ∀ l : List α, (flat f l).length = l.length * sz
  | [] => by simp [flat]
  | x :: l => by rw [flat_cons, List.length_append, hf, flat_len hf l, List.length_cons, Nat.succ_mul]; omega
theorem flat_drop (hf : ∀ x, (f x).length = sz) : ∀ (l : List α) (j : Nat), (flat f l).drop (j * sz) = flat f (l.drop j)
  | l, 0 => by simp
  | [], j + 1 => by simp [flat]
  | x :: l, j + 1 => by
    rw [flat_cons, List.drop_succ_cons, ← flat_drop hf l j, show (j + 1) * sz = sz + j * sz by rw [Nat.succ_mul]; omega, ← List.drop_drop]
    congr 1
    rw [← hf x, List.drop_left]
theorem flat_take (hf : ∀ x, (f x).length = sz) : ∀ (l : List α) (j : Nat), (flat f l).take (j * sz) = flat f (l.take j)
  | l, 0 => by simp [flat]
  | [], j + 1 => by simp [flat]
  | x :: l, j + 1 => by
    rw [flat_cons, List.take_succ_cons, flat_cons, ← flat_take hf l j, show (j + 1) * sz = sz + j * sz by rw [Nat.succ_mul]; omega]
    rw [List.take_append, List.take_of_length_le (by rw [hf]; omega), hf, show sz + j * sz - sz = j * sz by omega]
theorem drop_getD_cons {l : List α} {j : Nat} (d : α) (h : j < l.length) : l.drop j = l.getD j d :: l.drop (j + 1) := by
  rw [List.drop_eq_getElem_cons h, List.getD_eq_getElem?_getD, List.getElem?_eq_getElem h]; rfl
theorem take_getD_succ {l : List α} {j : Nat} (d : α) (h : j < l.length) : l.take (j + 1) = l.take j ++ [l.getD j d] := by
  rw [List.take_succ_eq_append_getElem h, List.getD_eq_getElem?_getD, List.getElem?_eq_getElem h]; rfl
theorem flat_at (hf : ∀ x, (f x).length = sz) {l : List α} {j : Nat} (d : α) (h : j < l.length) : (flat f l).drop (j * sz) = f (l.getD j d) ++ flat f (l.drop (j + 1)) := by
  rw [flat_drop hf, drop_getD_cons d h, flat_cons]
theorem flat_rows (l : List α) : (l.map f).flatten = flat f l := rfl
theorem take_getD {l : List α} {j i : Nat} {d : α} (h : i < j) : (l.take j).getD i d = l.getD i d := by
  rw [List.getD_eq_getElem?_getD, List.getD_eq_getElem?_getD, List.getElem?_take, if_pos h]
theorem app_getD {a b : List α} {i : Nat} {d : α} (h : i < a.length) : (a ++ b).getD i d = a.getD i d := by
  rw [List.getD_eq_getElem?_getD, List.getD_eq_getElem?_getD, List.getElem?_append_left h]
theorem app_getD' {a b : List α} {i : Nat} {d : α} (h : a.length ≤ i) : (a ++ b).getD i d = b.getD (i - a.length) d := by
  rw [List.getD_eq_getElem?_getD, List.getD_eq_getElem?_getD, List.getElem?_append_right h]
/-- the place of the first element of a kind, or the length -/
theorem find_at {p : α → Bool} : ∀ {l : List α} {j : Nat} (d : α), j < l.length → (∀ i, i < j → p (l.getD i d) = false) → p (l.getD j d) = true → l.findIdx p = j
  | [], j, d, h, _, _ => by simp at h
  | x :: l, 0, d, _, _, h => by
    have h : p x = true := by simpa using h
    rw [List.findIdx_cons, h]; rfl
  | x :: l, j + 1, d, h1, h2, h3 => by
    have hx : p x = false := by simpa using h2 0 (by omega)
    have ih := find_at (p := p) (l := l) (j := j) d (by simpa using h1) (fun i hi => by simpa using h2 (i + 1) (by omega)) (by simpa using h3)
    rw [List.findIdx_cons, hx, ih]; rfl
theorem find_no {p : α → Bool} : ∀ {l : List α} (d : α), (∀ i, i < l.length → p (l.getD i d) = false) → l.findIdx p = l.length
  | [], d, _ => rfl
  | x :: l, d, h => by
    have hx : p x = false := by simpa using h 0 (by simp)
    have ih := find_no (p := p) (l := l) d (fun i hi => by simpa using h (i + 1) (by simpa using hi))
    rw [List.findIdx_cons, hx, ih]; rfl
theorem find_hit {p : α → Bool} {l : List α} (d : α) (h : l.findIdx p < l.length) : p (l.getD (l.findIdx p) d) = true := by
  rw [List.getD_eq_getElem?_getD, List.getElem?_eq_getElem h]
  exact List.findIdx_getElem (w := h)
theorem find_miss {p : α → Bool} {l : List α} {i : Nat} (d : α) (h : i < l.findIdx p) : p (l.getD i d) = false := by
  have hl : i < l.length := Nat.lt_of_lt_of_le h List.findIdx_le_length
  have := List.not_of_lt_findIdx h
  rw [List.getD_eq_getElem?_getD, List.getElem?_eq_getElem hl]
  simpa using this
theorem miss_next {p : α → Bool} {l : List α} {d : α} {j : Nat} (h : ∀ i, i < j → p (l.getD i d) = false) (h0 : p (l.getD j d) = false) : ∀ i, i < j + 1 → p (l.getD i d) = false := by
  intro i hi
  by_cases e : i = j
  · subst e; exact h0
  · exact h i (by omega)
end
/-- the first number of some that is not 0 -/
def firstE (f : Nat → Int) : Nat → Int
  | 0 => 0
  | n + 1 => if firstE f n ≠ 0 then firstE f n else f n
theorem firstE_ok {f : Nat → Int} : ∀ {n : Nat}, (∀ i, i < n → f i = 0) → firstE f n = 0
  | 0, _ => rfl
  | n + 1, h => by
    have := firstE_ok (f := f) (n := n) fun i hi => h i (by omega)
    rw [firstE, if_neg (by simp [this])]
    exact h n (by omega)
theorem firstE_at {f : Nat → Int} {j : Nat} : ∀ {n : Nat}, j < n → (∀ i, i < j → f i = 0) → f j ≠ 0 → firstE f n = f j
  | 0, h, _, _ => by omega
  | n + 1, h, h1, h2 => by
    by_cases e : j = n
    · subst e
      rw [firstE, if_neg (by simp [firstE_ok h1])]
    · have := firstE_at (n := n) (by omega) h1 h2
      rw [firstE, this, if_pos h2]
theorem firstE_is {f : Nat → Int} : ∀ {n : Nat}, firstE f n = 0 → ∀ i, i < n → f i = 0
  | 0, _, i, hi => by omega
  | n + 1, h, i, hi => by
    rw [firstE] at h
    split at h
    · rename_i hh; exact absurd h hh
    · rename_i hh
      by_cases e : i = n
      · subst e; exact h
      · exact firstE_is (Decidable.not_not.mp hh) i (by omega)
theorem zero_next {f : Nat → Int} {j : Nat} (h : ∀ i, i < j → f i = 0) (h0 : f j = 0) : ∀ i, i < j + 1 → f i = 0 := by
  intro i hi
  by_cases e : i = j
  · subst e; exact h0
  · exact h i (by omega)
theorem firstE_congr {f g : Nat → Int} : ∀ {n : Nat}, (∀ i, i < n → f i = g i) → firstE f n = firstE g n
  | 0, _ => rfl
  | n + 1, h => by rw [firstE, firstE, firstE_congr (f := f) (g := g) fun i hi => h i (by omega), h n (by omega)]
end Go.Sx

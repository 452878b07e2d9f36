/-
  What storing and expiring leave of a cache, as plain functions: for every input.
-/
import Derived.Test.YtgiekmlofndeaaaPCcD
set_option linter.all false
namespace Go.Sx
def gOf (o : Option CR) : CR × Bool := match o with
  | some s => (s, true)
  | none => (cr0, false)
theorem crG_find : ∀ (l : List CR) (x y z : List UInt8), crG l x y z = gOf (l.find? (crIs x y z))
  | [], x, y, z => rfl
  | s :: l, x, y, z => by
    have ih := crG_find l x y z
    by_cases h : crIs x y z s = true
    · rw [List.find?_cons_of_pos h]
      exact crG_yes (j := 0) (find_at (l := s :: l) cr0 (by simp) (by simp) (by simpa using h)) (by simp)
    · have h : crIs x y z s = false := by simpa using h
      rw [List.find?_cons_of_neg (by rw [h]; decide), ← ih]
      have e : crAt (s :: l) x y z = crAt l x y z + 1 := by
        unfold crAt
        rw [List.findIdx_cons, h]; rfl
      by_cases h2 : crAt l x y z = l.length
      · rw [crG_no h2, crG_no (by rw [e, h2, List.length_cons])]
      · have := crAt_le l x y z
        rw [crG_yes (l := l) (j := crAt l x y z) rfl (by omega), crG_yes e (by rw [List.length_cons]; omega)]
        rfl
theorem find_filter {p q : CR → Bool} : ∀ l : List CR, (∀ s ∈ l, q s = true → p s = true) → (l.filter p).find? q = l.find? q
  | [], _ => rfl
  | s :: l, h => by
    have ih := find_filter l fun t ht => h t (by simp [ht])
    by_cases hp : p s = true
    · rw [List.filter_cons_of_pos hp]
      by_cases hq : q s = true
      · rw [List.find?_cons_of_pos hq, List.find?_cons_of_pos hq]
      · rw [List.find?_cons_of_neg hq, List.find?_cons_of_neg hq, ih]
    · rw [List.filter_cons_of_neg hp]
      have hq : ¬ q s = true := fun hq => hp (h s (by simp) hq)
      rw [List.find?_cons_of_neg hq, ih]
theorem crIs_other {x y z u v w : List UInt8} {s : CR} (h : ¬ (x = u ∧ y = v ∧ z = w)) (hs : crIs x y z s = true) : crIs u v w s = false := by
  obtain ⟨h1, h2, h3⟩ := crIs_is hs
  refine crIs_no fun ⟨a, b, c⟩ => h ⟨by rw [← h1, a], by rw [← h2, b], by rw [← h3, c]⟩
/-- what was stored leaves the others as they were -/
theorem crG_keep {O : List CR} {Y : CR} {x y z : List UInt8} (h : ¬ (x = Y.x ∧ y = Y.y ∧ z = Y.z)) : crG (keepS Y.x Y.y Y.z O ++ [Y]) x y z = crG O x y z := by
  rw [crG_find, crG_find, List.find?_append]
  have e : (keepS Y.x Y.y Y.z O).find? (crIs x y z) = O.find? (crIs x y z) := find_filter O fun s _ hs => by
    show (!crIs Y.x Y.y Y.z s) = true
    rw [crIs_other h hs]; rfl
  rw [e]
  cases O.find? (crIs x y z) with
  | some s => rfl
  | none =>
    have : ¬ crIs x y z Y = true := fun hh => by
      obtain ⟨a, b, c⟩ := crIs_is hh
      exact h ⟨a.symm, b.symm, c.symm⟩
    rw [List.find?_cons_of_neg this]; rfl
theorem crG_new' {O : List CR} {Y : CR} : crG (keepS Y.x Y.y Y.z O ++ [Y]) Y.x Y.y Y.z = (Y, true) := by
  rw [crG_find, List.find?_append]
  have e : (keepS Y.x Y.y Y.z O).find? (crIs Y.x Y.y Y.z) = none := by
    rw [List.find?_eq_none]
    intro s hs
    have := (List.mem_filter.1 hs).2
    simpa using this
  rw [e, List.find?_cons_of_pos (crIs_yes rfl rfl rfl)]; rfl
theorem good_pair {O : List CR} : (∀ i, i < O.length → ∀ r, r < i → crIs (O.getD i cr0).x (O.getD i cr0).y (O.getD i cr0).z (O.getD r cr0) = false) ↔ O.Pairwise (fun a b => crIs b.x b.y b.z a = false) := by
  rw [List.pairwise_iff_getElem]
  constructor
  · intro h i j hi hj hij
    have := h j hj i hij
    rw [List.getD_eq_getElem?_getD, List.getD_eq_getElem?_getD, List.getElem?_eq_getElem hj, List.getElem?_eq_getElem hi] at this
    exact this
  · intro h i hi r hr
    rw [List.getD_eq_getElem?_getD, List.getD_eq_getElem?_getD, List.getElem?_eq_getElem hi, List.getElem?_eq_getElem (Nat.lt_trans hr hi)]
    exact h r i _ hi hr
theorem crGood_filter {O : List CR} {p : CR → Bool} (h : crGood O) : crGood (O.filter p) :=
  ⟨fun s hs => h.1 s (List.mem_filter.1 hs).1, good_pair.2 ((good_pair.1 h.2).filter p)⟩
theorem crGood_store {O : List CR} {Y : CR} (h : crGood O) (hY : crV Y ∧ ∃ n, n < 9 ∧ crSv Y = svN n) : crGood (keepS Y.x Y.y Y.z O ++ [Y]) := by
  refine crGood_add (crGood_filter h) hY fun r hr => ?_
  have := (List.mem_filter.1 (getD_mem (d := cr0) hr)).2
  show crIs Y.x Y.y Y.z ((keepS Y.x Y.y Y.z O).getD r cr0) = false
  cases hx : crIs Y.x Y.y Y.z ((keepS Y.x Y.y Y.z O).getD r cr0) with
  | false => rfl
  | true =>
    rw [show (!crIs Y.x Y.y Y.z ((List.filter (fun s => !crIs Y.x Y.y Y.z s) O).getD r cr0)) = !crIs Y.x Y.y Y.z ((keepS Y.x Y.y Y.z O).getD r cr0) from rfl, hx] at this
    cases this
theorem keep_last {O : List CR} {Y : CR} : (keepS Y.x Y.y Y.z O ++ [Y]).getD (keepS Y.x Y.y Y.z O).length cr0 = Y := by
  rw [app_getD' (Nat.le_refl _)]; simp
theorem ccS_good {o1 o2 o3 : List UInt8} {O : List CR} {Y : CR} (ho : validS o1 o2 o3 = true) (h : crGood O) (hY : crV Y ∧ ∃ n, n < 9 ∧ crSv Y = svN n) : ccS o1 o2 o3 O Y = (((o1, o2, o3), keepS Y.x Y.y Y.z O ++ [Y]), 0) := by
  have h1 := crGood_len (crGood_filter (p := fun s => !crIs Y.x Y.y Y.z s) h)
  have h2 : crGood [Y] := ⟨by intro s hs; rw [List.mem_singleton] at hs; subst hs; exact hY, fun i hi r hr => by simp at hi; omega⟩
  exact ccS_4 (crGood_C ho h) (crGood_C ho h2) (by unfold keepS; omega)
/-- a credential of a cache is got -/
theorem good_uniq {O : List CR} (h : crGood O) {i : Nat} (hi : i < O.length) : ∀ s ∈ O, crIs (O.getD i cr0).x (O.getD i cr0).y (O.getD i cr0).z s = true → s = O.getD i cr0 := by
  intro s hs hx
  obtain ⟨j, hj, rfl⟩ := mem_getD cr0 hs
  rcases Nat.lt_trichotomy j i with hlt | e | hgt
  · have := h.2 i hi j hlt
    rw [this] at hx; cases hx
  · subst e; rfl
  · have := h.2 j hj i hgt
    obtain ⟨a, b, c⟩ := crIs_is hx
    rw [a, b, c, crIs_yes rfl rfl rfl] at this
    cases this
theorem crG_at {O : List CR} (h : crGood O) {i : Nat} (hi : i < O.length) : crG O (O.getD i cr0).x (O.getD i cr0).y (O.getD i cr0).z = (O.getD i cr0, true) := by
  rw [crG_find]
  cases hf : O.find? (crIs (O.getD i cr0).x (O.getD i cr0).y (O.getD i cr0).z) with
  | none =>
    have := List.find?_eq_none.1 hf _ (getD_mem (d := cr0) hi)
    rw [crIs_yes rfl rfl rfl] at this
    exact absurd rfl this
  | some s =>
    rw [good_uniq h hi s (List.mem_of_find?_eq_some hf) (List.find?_some hf)]; rfl
theorem crG_fres {O : List CR} (h : crGood O) {i : Nat} (hi : i < O.length) (now : Int) : (crG (fresS now O) (O.getD i cr0).x (O.getD i cr0).y (O.getD i cr0).z).2 = !expS now (O.getD i cr0) := by
  rw [crG_find]
  cases hf : (fresS now O).find? (crIs (O.getD i cr0).x (O.getD i cr0).y (O.getD i cr0).z) with
  | none =>
    show false = _
    cases he : expS now (O.getD i cr0) with
    | true => rfl
    | false =>
      have hm : O.getD i cr0 ∈ fresS now O := List.mem_filter.2 ⟨getD_mem hi, by simp only [he]; rfl⟩
      have := List.find?_eq_none.1 hf _ hm
      rw [crIs_yes rfl rfl rfl] at this
      exact absurd rfl this
  | some s =>
    have hm := List.mem_filter.1 (List.mem_of_find?_eq_some hf)
    have e := good_uniq h hi s hm.1 (List.find?_some hf)
    rw [← e]
    exact hm.2.symm
theorem fres_len (now : Int) (l : List CR) : (fresS now l).length ≤ l.length := List.length_filter_le _ _
theorem fres_mem {now : Int} {l : List CR} {B : Nat} (h : ∀ s ∈ l, crSm B s) : ∀ s ∈ fresS now l, crSm B s := fun s hs => h s (List.mem_filter.1 hs).1
end Go.Sx

/-
  What databases are, as plain functions: for every input.
-/
import Derived.Test.YtcnemhfgpldplabPFwd
set_option linter.all false
namespace Go.Sx
structure DE where
  x : List UInt8
  y : List UInt8
  k : Int
  kv : Int
  ex : Int
  ml : Int
  atr : Int
  fl : Int
  un : Int
def de0 : DE := ⟨[], [], 0, 0, 0, 0, 0, 0, 0⟩
def deR (s : DE) : List L := [.s s.x, .s s.y, .i .u64 s.k, .i .i64 s.kv, .i .i64 s.ex, .i .i64 s.ml, .i .i64 s.atr, .i .i64 s.fl, .i .i64 s.un]
theorem deR_len (s : DE) : (deR s).length = 9 := rfl
/-- an entry that the machine may hold, with short texts -/
def deSm (B : Nat) (s : DE) : Prop := s.x.length ≤ B ∧ s.y.length ≤ B ∧ (0 ≤ s.k ∧ s.k ≤ 18446744073709551615)
/-- what an entry's numbers may be -/
def deN (s : DE) : Prop := ((0 ≤ s.kv ∧ s.kv ≤ 255) ∧ (0 ≤ s.ex ∧ s.ex ≤ 4294967295) ∧ (0 ≤ s.un ∧ s.un ≤ 4294967295)) ∧ (0 ≤ s.ml ∧ s.ml ≤ 255) ∧ (0 ≤ s.atr ∧ s.atr ≤ 3) ∧ (0 ≤ s.fl ∧ s.fl ≤ 20)
instance (s : DE) : Decidable (deN s) := by unfold deN; infer_instance
def deC (s : DE) : Int :=
  if nameS s.x = false ∨ instS s.y = false then 103 else
  if s.k ≠ 0 ∧ keyOk s.k = false then 10 else
  if ¬ deN s then 104 else 0
theorem deC_1 {s : DE} (h : nameS s.x = false ∨ instS s.y = false) : deC s = 103 := by rw [deC, if_pos h]
theorem deC_2 {s : DE} (h : nameS s.x = true) (h' : instS s.y = true) (h2 : s.k ≠ 0 ∧ keyOk s.k = false) : deC s = 10 := by rw [deC, if_neg (by rw [h, h']; decide), if_pos h2]
theorem deC_3 {s : DE} (h : nameS s.x = true) (h' : instS s.y = true) (h2 : s.k = 0 ∨ keyOk s.k = true) (h3 : ¬ deN s) : deC s = 104 := by
  rw [deC, if_neg (by rw [h, h']; decide), if_neg (fun hh => by rcases h2 with h | h; exact hh.1 h; rw [h] at hh; cases hh.2), if_pos h3]
theorem deC_4 {s : DE} (h : nameS s.x = true) (h' : instS s.y = true) (h2 : s.k = 0 ∨ keyOk s.k = true) (h3 : deN s) : deC s = 0 := by
  rw [deC, if_neg (by rw [h, h']; decide), if_neg (fun hh => by rcases h2 with h | h; exact hh.1 h; rw [h] at hh; cases hh.2), if_neg (fun hh => hh h3)]
theorem deC_is {s : DE} (h : deC s = 0) : nameS s.x = true ∧ instS s.y = true ∧ (s.k = 0 ∨ keyOk s.k = true) ∧ deN s := by
  unfold deC at h
  split at h
  · cases h
  · rename_i h1
    split at h
    · cases h
    · rename_i h2
      split at h
      · cases h
      · rename_i h3
        refine ⟨?_, ?_, ?_, Decidable.not_not.mp h3⟩
        · cases e : nameS s.x with
          | true => rfl
          | false => exact absurd (.inl e) h1
        · cases e : instS s.y with
          | true => rfl
          | false => exact absurd (.inr e) h1
        · by_cases e : s.k = 0
          · exact .inl e
          · cases e2 : keyOk s.k with
            | true => exact .inr rfl
            | false => exact absurd ⟨e, e2⟩ h2
/-- how entries compare -/
def deO (s t : DE) : Int := if cmpB s.x t.x ≠ 0 then cmpB s.x t.x else cmpB s.y t.y
theorem deO_1 {s t : DE} (h : ¬ cmpB s.x t.x = 0) : deO s t = cmpB s.x t.x := by rw [deO, if_pos h]
theorem deO_2 {s t : DE} (h : cmpB s.x t.x = 0) : deO s t = cmpB s.y t.y := by rw [deO, if_neg (fun hh => hh h)]
theorem deO_lt {s t : DE} : deO s t < 0 ↔ Op.bytesLess s.x t.x = true ∨ s.x = t.x ∧ Op.bytesLess s.y t.y = true := by
  rw [cmp_less, cmp_less, decide_eq_true_iff, decide_eq_true_iff, ← cmp_zero]
  unfold deO
  split <;> omega
theorem deO_zero {s t : DE} : deO s t = 0 ↔ s.x = t.x ∧ s.y = t.y := by
  rw [← cmp_zero, ← cmp_zero]
  unfold deO
  split <;> omega
theorem deO_anti (s t : DE) : deO t s = - deO s t := by
  have h1 := cmp_anti s.x t.x
  have h2 := cmp_anti s.y t.y
  unfold deO
  split <;> split <;> omega
/-- the error of an entry, given the one ahead of it -/
def deE (l : List DE) (i : Nat) : Int := if deC (l.getD i de0) ≠ 0 then deC (l.getD i de0) else if 0 < i ∧ deO (l.getD i de0) (l.getD (i - 1) de0) < 0 then 110 else 0
theorem deE_1 {l : List DE} {i : Nat} (h : ¬ deC (l.getD i de0) = 0) : deE l i = deC (l.getD i de0) := by rw [deE, if_pos h]
theorem deE_2 {l : List DE} {i : Nat} (h : deC (l.getD i de0) = 0) (h2 : 0 < i ∧ deO (l.getD i de0) (l.getD (i - 1) de0) < 0) : deE l i = 110 := by rw [deE, if_neg (fun hh => hh h), if_pos h2]
theorem deE_3 {l : List DE} {i : Nat} (h : deC (l.getD i de0) = 0) (h2 : ¬ (0 < i ∧ deO (l.getD i de0) (l.getD (i - 1) de0) < 0)) : deE l i = 0 := by rw [deE, if_neg (fun hh => hh h), if_neg h2]
/-- the error of a database -/
def dbC (r : List UInt8) (l : List DE) : Int := if realmS r = false then 103 else if 60 < l.length then 106 else firstE (deE l) l.length
theorem dbC_1 {r : List UInt8} {l : List DE} (h : realmS r = false) : dbC r l = 103 := by rw [dbC, if_pos h]
theorem dbC_2 {r : List UInt8} {l : List DE} (h : realmS r = true) (h2 : 60 < l.length) : dbC r l = 106 := by rw [dbC, if_neg (by rw [h]; decide), if_pos h2]
theorem dbC_at {r : List UInt8} {l : List DE} {i : Nat} {e : Int} (h : realmS r = true) (h2 : ¬ 60 < l.length) (hi : i < l.length) (h0 : ∀ j, j < i → deE l j = 0) (he : deE l i = e) (hn : e ≠ 0) : dbC r l = e := by
  rw [dbC, if_neg (by rw [h]; decide), if_neg h2, firstE_at hi h0 (by rw [he]; exact hn), he]
theorem dbC_ok {r : List UInt8} {l : List DE} (h : realmS r = true) (h2 : ¬ 60 < l.length) (h0 : ∀ j, j < l.length → deE l j = 0) : dbC r l = 0 := by
  rw [dbC, if_neg (by rw [h]; decide), if_neg h2, firstE_ok h0]
theorem dbC_is {r : List UInt8} {l : List DE} (h : dbC r l = 0) : realmS r = true ∧ l.length ≤ 60 ∧ ∀ j, j < l.length → deE l j = 0 := by
  unfold dbC at h
  split at h
  · cases h
  · rename_i h1
    split at h
    · cases h
    · exact ⟨by simpa using h1, by omega, firstE_is h⟩
/-- where an entry is: how many have the name, and the last one of them -/
def deIs (x y : List UInt8) (s : DE) : Bool := s.x == x && s.y == y
theorem deIs_yes {x y : List UInt8} {s : DE} (h1 : s.x = x) (h2 : s.y = y) : deIs x y s = true := by simp [deIs, h1, h2]
theorem deIs_no {x y : List UInt8} {s : DE} (h : ¬ (s.x = x ∧ s.y = y)) : deIs x y s = false := by
  rw [Bool.eq_false_iff]
  intro hh
  simp only [deIs, Bool.and_eq_true, beq_iff_eq] at hh
  exact h hh
/-- the index of the last one of the name among the first n, and how many there are -/
def dbK (x y : List UInt8) (l : List DE) : Nat → Int × Nat
  | 0 => (0, 0)
  | n + 1 => if deIs x y (l.getD n de0) = true then ((n : Int), (dbK x y l n).2 + 1) else dbK x y l n
theorem dbK_0 (x y : List UInt8) (l : List DE) : dbK x y l 0 = (0, 0) := rfl
theorem dbK_yes {x y : List UInt8} {l : List DE} {n : Nat} (h : deIs x y (l.getD n de0) = true) : dbK x y l (n + 1) = ((n : Int), (dbK x y l n).2 + 1) := by rw [dbK, if_pos h]
theorem dbK_no {x y : List UInt8} {l : List DE} {n : Nat} (h : deIs x y (l.getD n de0) = false) : dbK x y l (n + 1) = dbK x y l n := by rw [dbK, if_neg (by rw [h]; decide)]
theorem dbK_mono {x y : List UInt8} {l : List DE} : ∀ {n m : Nat}, n ≤ m → (dbK x y l n).2 ≤ (dbK x y l m).2
  | 0, 0, _ => Nat.le_refl _
  | n + 1, 0, h => absurd h (by omega)
  | n, m + 1, h => by
    rcases Nat.lt_or_ge n (m + 1) with h1 | h1
    · have ih := dbK_mono (x := x) (y := y) (l := l) (n := n) (m := m) (by omega)
      rw [dbK]
      split
      · dsimp only; omega
      · exact ih
    · have e : n = m + 1 := by omega
      rw [e]
      exact Nat.le_refl _
theorem dbK_lt {x y : List UInt8} {l : List DE} : ∀ {n : Nat}, (dbK x y l n).2 ≠ 0 → 0 ≤ (dbK x y l n).1 ∧ (dbK x y l n).1 < n
  | 0, h => absurd rfl h
  | n + 1, h => by
    cases e : deIs x y (l.getD n de0) with
    | true => rw [dbK_yes e]; dsimp only; omega
    | false =>
      rw [dbK_no e] at h ⊢
      have := dbK_lt h
      omega
def dbF (x y : List UInt8) (l : List DE) : Int × Int := if (dbK x y l l.length).2 = 0 then (0, 8) else if 1 < (dbK x y l l.length).2 then (0, 9) else ((dbK x y l l.length).1, 0)
theorem dbF_no {x y : List UInt8} {l : List DE} (h : (dbK x y l l.length).2 = 0) : dbF x y l = (0, 8) := by rw [dbF, if_pos h]
theorem dbF_many {x y : List UInt8} {l : List DE} (h : 1 < (dbK x y l l.length).2) : dbF x y l = (0, 9) := by rw [dbF, if_neg (by omega), if_pos h]
theorem dbF_one {x y : List UInt8} {l : List DE} (h : (dbK x y l l.length).2 = 1) : dbF x y l = ((dbK x y l l.length).1, 0) := by rw [dbF, if_neg (by omega), if_neg (by omega)]
/-- a second one of the name -/
theorem dbF_two {x y : List UInt8} {l : List DE} {j : Nat} (hj : j < l.length) (h : (dbK x y l j).2 = 1) (h2 : deIs x y (l.getD j de0) = true) : dbF x y l = (0, 9) := by
  refine dbF_many ?_
  have := dbK_mono (x := x) (y := y) (l := l) (n := j + 1) (m := l.length) (by omega)
  rw [dbK_yes h2] at this
  dsimp only at this
  omega
theorem dbF_lt {x y : List UInt8} {l : List DE} (h : (dbF x y l).2 = 0) : 0 ≤ (dbF x y l).1 ∧ (dbF x y l).1 < l.length := by
  unfold dbF at h ⊢
  split at h
  · cases h
  · rename_i h1
    rw [if_neg h1]
    split at h
    · cases h
    · rename_i h2
      rw [if_neg h2]
      exact dbK_lt h1
/-- an entry that may be used; b says that its attribute forbids it -/
def dbU (x y : List UInt8) (l : List DE) (now : Int) (b : Int → Bool) (e1 e2 : Int) : Int × Int :=
  if (dbF x y l).2 ≠ 0 then (0, (dbF x y l).2) else
  if keyOk (l.getD (dbF x y l).1.toNat de0).k = false then (0, 10) else
  if (l.getD (dbF x y l).1.toNat de0).ex ≠ 0 ∧ (l.getD (dbF x y l).1.toNat de0).ex ≤ now then (0, e1) else
  if b (l.getD (dbF x y l).1.toNat de0).atr = true then (0, e2) else ((dbF x y l).1, 0)
end Go.Sx

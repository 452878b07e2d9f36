/-
  Databases with an entry more, or with another one in a place, as plain functions: for every input.
-/
import Derived.Test.YtcnemhfgpldplabPDb
set_option linter.all false
namespace Go.Sx
def deV (s : DE) : Prop := deC s = 0
theorem deV_small {s : DE} (h : deV s) : deSm 255 s ∧ deN s := by
  obtain ⟨h1, h2, h3, h4⟩ := deC_is h
  have l1 := name_len h1
  have l2 := inst_len h2
  refine ⟨⟨by omega, by omega, ?_⟩, h4⟩
  rcases h3 with h3 | h3
  · rw [h3]; decide
  · have hk := keyOk_is h3
    have hk2 := key_parts s.k
    omega
theorem de_grow {A B : Nat} (hAB : A ≤ B) {s : DE} (h : deSm A s) : deSm B s := by
  obtain ⟨h1, h2, h3⟩ := h
  exact ⟨by omega, by omega, h3⟩
/-- no entry comes before the one ahead of it -/
def srt (l : List DE) : Prop := ∀ i, i + 1 < l.length → 0 ≤ deO (l.getD (i + 1) de0) (l.getD i de0)
theorem dbC_mk {r : List UInt8} {l : List DE} (h : realmS r = true) (h2 : l.length ≤ 60) (h3 : ∀ s ∈ l, deV s) (h4 : srt l) : dbC r l = 0 := by
  refine dbC_ok h (by omega) fun i hi => ?_
  have h5 := h3 _ (getD_mem (d := de0) hi)
  refine deE_3 h5 fun hh => ?_
  have h6 := h4 (i - 1) (by omega)
  rw [show i - 1 + 1 = i by omega] at h6
  omega
theorem dbC_un {r : List UInt8} {l : List DE} (h : dbC r l = 0) : realmS r = true ∧ l.length ≤ 60 ∧ (∀ s ∈ l, deV s) ∧ srt l := by
  obtain ⟨h1, h2, h3⟩ := dbC_is h
  refine ⟨h1, h2, fun s hs => ?_, fun i hi => ?_⟩
  · obtain ⟨j, hj, rfl⟩ := mem_getD de0 hs
    have := h3 j hj
    by_cases e : deC (l.getD j de0) = 0
    · exact e
    · rw [deE_1 e] at this; exact this
  · have := h3 (i + 1) hi
    by_cases e : deC (l.getD (i + 1) de0) = 0
    · by_cases e2 : 0 < i + 1 ∧ deO (l.getD (i + 1) de0) (l.getD (i + 1 - 1) de0) < 0
      · rw [deE_2 e e2] at this; cases this
      · rw [show i + 1 - 1 = i by omega] at e2; omega
    · rw [deE_1 e] at this; exact absurd this e
/-- where an entry goes, and the entries with it -/
def posD (e : DE) (l : List DE) : Nat := l.findIdx fun s => decide (0 < deO s e)
theorem posD_le (e : DE) (l : List DE) : posD e l ≤ l.length := List.findIdx_le_length
theorem posD_at {e : DE} {l : List DE} {j : Nat} (h : j < l.length) (h1 : ∀ i, i < j → ¬ 0 < deO (l.getD i de0) e) (h2 : 0 < deO (l.getD j de0) e) : posD e l = j :=
  find_at de0 h (fun i hi => decide_eq_false (h1 i hi)) (decide_eq_true h2)
theorem posD_no {e : DE} {l : List DE} (h1 : ∀ i, i < l.length → ¬ 0 < deO (l.getD i de0) e) : posD e l = l.length :=
  find_no de0 (fun i hi => decide_eq_false (h1 i hi))
theorem posD_hit {e : DE} {l : List DE} (h : posD e l < l.length) : 0 < deO (l.getD (posD e l) de0) e := by
  have := find_hit (p := fun s => decide (0 < deO s e)) de0 h
  exact of_decide_eq_true this
theorem posD_miss {e : DE} {l : List DE} {i : Nat} (h : i < posD e l) : ¬ 0 < deO (l.getD i de0) e := by
  have := find_miss (p := fun s => decide (0 < deO s e)) (l := l) (i := i) de0 h
  exact of_decide_eq_false this
def insD (e : DE) (l : List DE) : List DE := l.take (posD e l) ++ [e] ++ l.drop (posD e l)
theorem insD_len (e : DE) (l : List DE) : (insD e l).length = l.length + 1 := by
  have := posD_le e l
  simp [insD]; omega
theorem insD_mem {e : DE} {l : List DE} {s : DE} (h : s ∈ insD e l) : s = e ∨ s ∈ l := by
  rw [insD, List.mem_append, List.mem_append] at h
  rcases h with (h | h) | h
  · exact .inr (List.mem_of_mem_take h)
  · exact .inl (by simpa using h)
  · exact .inr (List.mem_of_mem_drop h)
theorem insD_get (e : DE) (l : List DE) (i : Nat) : (insD e l).getD i de0 = if i < posD e l then l.getD i de0 else if i = posD e l then e else l.getD (i - 1) de0 := by
  have hp := posD_le e l
  have ht : (l.take (posD e l)).length = posD e l := by simp; omega
  unfold insD
  split
  · rename_i h
    rw [app_getD (by simp; omega), app_getD (by omega), take_getD h]
  · rename_i h
    split
    · rename_i h2
      rw [app_getD (by simp; omega), app_getD' (by omega), ht, h2]
      simp
    · rename_i h2
      rw [app_getD' (by simp; omega)]
      rw [List.length_append, ht, List.length_singleton, List.getD_eq_getElem?_getD, List.getElem?_drop, ← List.getD_eq_getElem?_getD]
      congr 1; omega
theorem insD_srt {e : DE} {l : List DE} (h : srt l) : srt (insD e l) := by
  intro i hi
  rw [insD_len] at hi
  have hp := posD_le e l
  rw [insD_get, insD_get]
  by_cases h1 : i + 1 < posD e l
  · rw [if_pos h1, if_pos (by omega)]
    exact h i (by omega)
  · rw [if_neg h1]
    by_cases h2 : i + 1 = posD e l
    · rw [if_pos h2, if_pos (by omega)]
      have := posD_miss (e := e) (l := l) (i := i) (by omega)
      rw [deO_anti]; omega
    · rw [if_neg h2, if_neg (by omega)]
      by_cases h3 : i = posD e l
      · rw [if_pos h3, show i + 1 - 1 = posD e l by omega]
        have := posD_hit (e := e) (l := l) (by omega)
        omega
      · rw [if_neg h3, show i + 1 - 1 = i - 1 + 1 by omega]
        exact h (i - 1) (by omega)
theorem insD_ok {r : List UInt8} {e : DE} {l : List DE} (h : dbC r l = 0) (he : deV e) (h2 : l.length < 60) : dbC r (insD e l) = 0 := by
  obtain ⟨h1, _, h3, h4⟩ := dbC_un h
  refine dbC_mk h1 (by rw [insD_len]; omega) (fun s hs => ?_) (insD_srt h4)
  rcases insD_mem hs with rfl | hs
  · exact he
  · exact h3 s hs
/-- how many entries have a name -/
theorem dbK_pos {x y : List UInt8} {l : List DE} : ∀ {n i : Nat}, i < n → deIs x y (l.getD i de0) = true → 1 ≤ (dbK x y l n).2
  | 0, _, h, _ => by omega
  | n + 1, i, h, h1 => by
    by_cases e : i = n
    · subst e; rw [dbK_yes h1]; dsimp only; omega
    · have := dbK_pos (n := n) (i := i) (by omega) h1
      have := dbK_mono (x := x) (y := y) (l := l) (n := n) (m := n + 1) (by omega)
      omega
theorem dbK_one {x y : List UInt8} {l : List DE} : ∀ {n i : Nat}, i < n → deIs x y (l.getD i de0) = true → (dbK x y l n).2 = 1 → (dbK x y l n).1 = i
  | 0, _, h, _, _ => by omega
  | n + 1, i, h, h1, h2 => by
    cases e : deIs x y (l.getD n de0) with
    | true =>
      rw [dbK_yes e] at h2 ⊢
      dsimp only at h2 ⊢
      by_cases e2 : i = n
      · rw [e2]
      · have := dbK_pos (n := n) (i := i) (by omega) h1; omega
    | false =>
      rw [dbK_no e] at h2 ⊢
      refine dbK_one (n := n) (i := i) ?_ h1 h2
      by_cases e2 : i = n
      · subst e2; rw [e] at h1; cases h1
      · omega
theorem dbK_cnt {x y : List UInt8} {l : List DE} : ∀ {n : Nat}, n ≤ l.length → (dbK x y l n).2 = (l.take n).countP (deIs x y)
  | 0, _ => by simp [dbK]
  | n + 1, h => by
    have ih := dbK_cnt (x := x) (y := y) (l := l) (n := n) (by omega)
    rw [take_getD_succ de0 (by omega), List.countP_append]
    cases e : deIs x y (l.getD n de0) with
    | true => rw [dbK_yes e, List.countP_singleton, e, ih]; rfl
    | false => rw [dbK_no e, List.countP_singleton, e, ih]; rfl
theorem dbK_all {x y : List UInt8} {l : List DE} : (dbK x y l l.length).2 = l.countP (deIs x y) := by rw [dbK_cnt (Nat.le_refl _), List.take_length]
theorem insD_cnt (e : DE) (l : List DE) : (insD e l).countP (deIs e.x e.y) = l.countP (deIs e.x e.y) + 1 := by
  rw [insD, List.countP_append, List.countP_append]
  have h1 : [e].countP (deIs e.x e.y) = 1 := by simp [deIs]
  have h2 : (l.take (posD e l)).countP (deIs e.x e.y) + (l.drop (posD e l)).countP (deIs e.x e.y) = l.countP (deIs e.x e.y) := by
    rw [← List.countP_append, List.take_append_drop]
  omega
theorem dbF_ins1 {e : DE} {l : List DE} (h : (dbF e.x e.y l).2 = 8) : dbF e.x e.y (insD e l) = (((posD e l : Nat) : Int), 0) := by
  have h0 : (dbK e.x e.y l l.length).2 = 0 := by
    unfold dbF at h
    split at h
    · assumption
    · split at h
      · cases h
      · cases h
  rw [dbK_all] at h0
  have h1 : (dbK e.x e.y (insD e l) (insD e l).length).2 = 1 := by rw [dbK_all, insD_cnt, h0]
  rw [dbF_one h1]
  have hp := posD_le e l
  rw [dbK_one (i := posD e l) (by rw [insD_len]; omega) (by rw [insD_get, if_neg (by omega), if_pos rfl]; exact deIs_yes rfl rfl) h1]
theorem dbF_ins2 {e : DE} {l : List DE} (h : ¬ (dbF e.x e.y l).2 = 8) : dbF e.x e.y (insD e l) = (0, 9) := by
  have h0 : ¬ (dbK e.x e.y l l.length).2 = 0 := fun h0 => h (by rw [dbF_no h0])
  rw [dbK_all] at h0
  exact dbF_many (by rw [dbK_all, insD_cnt]; omega)
theorem insD_at (e : DE) (l : List DE) : (insD e l).getD (posD e l) de0 = e := by rw [insD_get, if_neg (by omega), if_pos rfl]
abbrev DbT := List UInt8 × List DE
def db0 : DbT := ([], [])
/-- with an entry more -/
def dbA (r : List UInt8) (l : List DE) (e : DE) : DbT × Int := if dbC r l ≠ 0 then (db0, dbC r l) else if deC e ≠ 0 then (db0, deC e) else if 60 ≤ l.length then (db0, 106) else ((r, insD e l), 0)
theorem dbA_1 {r : List UInt8} {l : List DE} {e : DE} (h : ¬ dbC r l = 0) : dbA r l e = (db0, dbC r l) := by rw [dbA, if_pos h]
theorem dbA_2 {r : List UInt8} {l : List DE} {e : DE} (h : dbC r l = 0) (h2 : ¬ deC e = 0) : dbA r l e = (db0, deC e) := by rw [dbA, if_neg (fun hh => hh h), if_pos h2]
theorem dbA_3 {r : List UInt8} {l : List DE} {e : DE} (h : dbC r l = 0) (h2 : deC e = 0) (h3 : 60 ≤ l.length) : dbA r l e = (db0, 106) := by rw [dbA, if_neg (fun hh => hh h), if_neg (fun hh => hh h2), if_pos h3]
theorem dbA_4 {r : List UInt8} {l : List DE} {e : DE} (h : dbC r l = 0) (h2 : deC e = 0) (h3 : ¬ 60 ≤ l.length) : dbA r l e = ((r, insD e l), 0) := by rw [dbA, if_neg (fun hh => hh h), if_neg (fun hh => hh h2), if_neg h3]
/-- an index of an entry -/
def dbX (r : List UInt8) (l : List DE) (i : Int) : Int := if dbC r l ≠ 0 then dbC r l else if i < 0 ∨ (l.length : Int) ≤ i then 104 else 0
theorem dbX_1 {r : List UInt8} {l : List DE} {i : Int} (h : ¬ dbC r l = 0) : dbX r l i = dbC r l := by rw [dbX, if_pos h]
theorem dbX_2 {r : List UInt8} {l : List DE} {i : Int} (h : dbC r l = 0) (h2 : i < 0 ∨ (l.length : Int) ≤ i) : dbX r l i = 104 := by rw [dbX, if_neg (fun hh => hh h), if_pos h2]
theorem dbX_3 {r : List UInt8} {l : List DE} {i : Int} (h : dbC r l = 0) (h2 : ¬ (i < 0 ∨ (l.length : Int) ≤ i)) : dbX r l i = 0 := by rw [dbX, if_neg (fun hh => hh h), if_neg h2]
theorem dbX_is {r : List UInt8} {l : List DE} {i : Int} (h : dbX r l i = 0) : dbC r l = 0 ∧ 0 ≤ i ∧ i < l.length := by
  unfold dbX at h
  split at h
  · rename_i h1; exact absurd h h1
  · rename_i h1
    split at h
    · cases h
    · exact ⟨Decidable.not_not.mp h1, by omega, by omega⟩
/-- with another entry in a place -/
def dbP (r : List UInt8) (l : List DE) (i : Int) (e : DE) : DbT × Int := if dbX r l i ≠ 0 then (db0, dbX r l i) else if deC e ≠ 0 then (db0, deC e) else if deO (l.getD i.toNat de0) e ≠ 0 then (db0, 103) else ((r, l.set i.toNat e), 0)
section
variable {r : List UInt8} {l : List DE} {i : Int} {e : DE} {k : Int}
theorem dbP_1 (h : ¬ dbX r l i = 0) : dbP r l i e = (db0, dbX r l i) := by rw [dbP, if_pos h]
theorem dbP_2 (h : dbX r l i = 0) (h2 : ¬ deC e = 0) : dbP r l i e = (db0, deC e) := by rw [dbP, if_neg (fun hh => hh h), if_pos h2]
theorem dbP_3 (h : dbX r l i = 0) (h2 : deC e = 0) (h3 : ¬ deO (l.getD i.toNat de0) e = 0) : dbP r l i e = (db0, 103) := by rw [dbP, if_neg (fun hh => hh h), if_neg (fun hh => hh h2), if_pos h3]
theorem dbP_4 (h : dbX r l i = 0) (h2 : deC e = 0) (h3 : deO (l.getD i.toNat de0) e = 0) : dbP r l i e = ((r, l.set i.toNat e), 0) := by rw [dbP, if_neg (fun hh => hh h), if_neg (fun hh => hh h2), if_neg (fun hh => hh h3)]
/-- with another key in a place -/
def rekD (s : DE) (k : Int) : DE := ⟨s.x, s.y, k, if s.kv < 255 then s.kv + 1 else 1, s.ex, s.ml, s.atr, s.fl, s.un⟩
def dbR (r : List UInt8) (l : List DE) (i k : Int) : DbT × Int := if dbX r l i ≠ 0 then (db0, dbX r l i) else if keyOk k = false then (db0, 10) else ((r, l.set i.toNat (rekD (l.getD i.toNat de0) k)), 0)
theorem dbR_1 (h : ¬ dbX r l i = 0) : dbR r l i k = (db0, dbX r l i) := by rw [dbR, if_pos h]
theorem dbR_2 (h : dbX r l i = 0) (h2 : keyOk k = false) : dbR r l i k = (db0, 10) := by rw [dbR, if_neg (fun hh => hh h), if_pos h2]
theorem dbR_3 (h : dbX r l i = 0) (h2 : keyOk k = true) : dbR r l i k = ((r, l.set i.toNat (rekD (l.getD i.toNat de0) k)), 0) := by rw [dbR, if_neg (fun hh => hh h), if_neg (by rw [h2]; decide)]
end
theorem rekD_ok {s : DE} {k : Int} (h : deV s) (hk : keyOk k = true) : deV (rekD s k) := by
  obtain ⟨h1, h2, h3, ⟨h4, h5, h6⟩, h7, h8, h9⟩ := deC_is h
  refine deC_4 h1 h2 (.inr hk) ⟨⟨?_, h5, h6⟩, h7, h8, h9⟩
  show 0 ≤ (if s.kv < 255 then s.kv + 1 else 1) ∧ (if s.kv < 255 then s.kv + 1 else 1) ≤ 255
  split <;> omega
theorem set_getD {l : List DE} {j i : Nat} {e : DE} (h : j < l.length) : (l.set j e).getD i de0 = if i = j then e else l.getD i de0 := by
  rw [List.getD_eq_getElem?_getD, List.getElem?_set]
  by_cases e1 : i = j
  · rw [if_pos e1, if_pos e1.symm]; simp [e1, h]
  · rw [if_neg e1, if_neg (fun e2 => e1 e2.symm), ← List.getD_eq_getElem?_getD]
theorem deO_congr {s t s' t' : DE} (h1 : s.x = s'.x) (h2 : s.y = s'.y) (h3 : t.x = t'.x) (h4 : t.y = t'.y) : deO s t = deO s' t' := by unfold deO; rw [h1, h2, h3, h4]
theorem set_ok {r : List UInt8} {l : List DE} {j : Nat} {e : DE} (h : dbC r l = 0) (hj : j < l.length) (he : deV e) (hx : (l.getD j de0).x = e.x) (hy : (l.getD j de0).y = e.y) : dbC r (l.set j e) = 0 := by
  obtain ⟨h1, h2, h3, h4⟩ := dbC_un h
  refine dbC_mk h1 (by rw [List.length_set]; exact h2) (fun s hs => ?_) fun i hi => ?_
  · rcases List.mem_or_eq_of_mem_set hs with hs | rfl
    · exact h3 s hs
    · exact he
  · rw [List.length_set] at hi
    have h5 := h4 i hi
    have g : ∀ i, ((l.set j e).getD i de0).x = (l.getD i de0).x ∧ ((l.set j e).getD i de0).y = (l.getD i de0).y := fun i => by
      rw [set_getD hj]
      split
      · rename_i e1; subst e1; exact ⟨hx.symm, hy.symm⟩
      · exact ⟨rfl, rfl⟩
    rw [deO_congr (g (i + 1)).1 (g (i + 1)).2 (g i).1 (g i).2]
    exact h5
/-- small entries stay small -/
theorem dbA_small {B : Nat} {r : List UInt8} {l : List DE} {e : DE} (h : ∀ s ∈ l, deSm B s) (he : deSm B e) : ∀ s ∈ (dbA r l e).1.2, deSm B s := fun s hs => by
  unfold dbA at hs
  split at hs
  · cases hs
  · split at hs
    · cases hs
    · split at hs
      · cases hs
      · rcases insD_mem hs with rfl | hs
        · exact he
        · exact h s hs
/-- a database that is too long for the laws -/
def dbLgE (s : DE) : Prop := 100 < s.x.length ∨ 100 < s.y.length
instance (s : DE) : Decidable (dbLgE s) := by unfold dbLgE; infer_instance
def dbLg (r : List UInt8) (l : List DE) : Bool := decide (70 < l.length ∨ 100 < r.length) || l.any fun s => decide (dbLgE s)
theorem dbLg_is {r : List UInt8} {l : List DE} (h : dbLg r l = false) : (l.length ≤ 70 ∧ r.length ≤ 100) ∧ ∀ s ∈ l, s.x.length ≤ 100 ∧ s.y.length ≤ 100 := by
  unfold dbLg at h
  rw [Bool.or_eq_false_iff, decide_eq_false_iff_not, List.any_eq_false] at h
  refine ⟨by omega, fun s hs => ?_⟩
  have := h.2 s hs
  rw [decide_eq_true_eq] at this
  unfold dbLgE at this
  omega
theorem dbLg_long {r : List UInt8} {l : List DE} (h : 70 < l.length ∨ 100 < r.length) : dbLg r l = true := by rw [dbLg, decide_eq_true h]; rfl
theorem dbLg_at {r : List UInt8} {l : List DE} {j : Nat} (h : j < l.length) (h2 : dbLgE (l.getD j de0)) : dbLg r l = true := by
  unfold dbLg
  rw [Bool.or_eq_true]
  right
  rw [List.any_eq_true]
  exact ⟨_, getD_mem (d := de0) h, decide_eq_true h2⟩
theorem dbLg_no {r : List UInt8} {l : List DE} (h : ¬ (70 < l.length ∨ 100 < r.length)) (h2 : ∀ i, i < l.length → ¬ dbLgE (l.getD i de0)) : dbLg r l = false := by
  unfold dbLg
  rw [decide_eq_false h, Bool.false_or, List.any_eq_false]
  intro s hs
  obtain ⟨j, hj, rfl⟩ := mem_getD de0 hs
  rw [decide_eq_true_eq]
  exact h2 j hj
def bitOn (bit a : Int) : Bool := IntKind.i64.wrap (bitN .and .i64 a bit) != 0
section
variable {x y : List UInt8} {l : List DE} {now bit e1 e2 : Int}
theorem dbU_1 (h : ¬ (dbF x y l).2 = 0) : dbU x y l now (bitOn bit) e1 e2 = (0, (dbF x y l).2) := by rw [dbU, if_pos h]
theorem dbU_2 (h : (dbF x y l).2 = 0) (h1 : keyOk (l.getD (dbF x y l).1.toNat de0).k = false) : dbU x y l now (bitOn bit) e1 e2 = (0, 10) := by rw [dbU, if_neg (fun hh => hh h), if_pos h1]
theorem dbU_3 (h : (dbF x y l).2 = 0) (h1 : keyOk (l.getD (dbF x y l).1.toNat de0).k = true) (h2 : ¬ (l.getD (dbF x y l).1.toNat de0).ex = 0 ∧ (l.getD (dbF x y l).1.toNat de0).ex ≤ now) : dbU x y l now (bitOn bit) e1 e2 = (0, e1) := by
  rw [dbU, if_neg (fun hh => hh h), if_neg (by rw [h1]; decide), if_pos h2]
theorem dbU_4 (h : (dbF x y l).2 = 0) (h1 : keyOk (l.getD (dbF x y l).1.toNat de0).k = true) (h2 : ¬ (¬ (l.getD (dbF x y l).1.toNat de0).ex = 0 ∧ (l.getD (dbF x y l).1.toNat de0).ex ≤ now)) (h3 : ¬ IntKind.i64.wrap (bitN .and .i64 (l.getD (dbF x y l).1.toNat de0).atr bit) = 0) : dbU x y l now (bitOn bit) e1 e2 = (0, e2) := by
  rw [dbU, if_neg (fun hh => hh h), if_neg (by rw [h1]; decide), if_neg h2, if_pos (by rw [bitOn, bne_iff_ne]; exact h3)]
theorem dbU_5 (h : (dbF x y l).2 = 0) (h1 : keyOk (l.getD (dbF x y l).1.toNat de0).k = true) (h2 : ¬ (¬ (l.getD (dbF x y l).1.toNat de0).ex = 0 ∧ (l.getD (dbF x y l).1.toNat de0).ex ≤ now)) (h3 : IntKind.i64.wrap (bitN .and .i64 (l.getD (dbF x y l).1.toNat de0).atr bit) = 0) : dbU x y l now (bitOn bit) e1 e2 = ((dbF x y l).1, 0) := by
  rw [dbU, if_neg (fun hh => hh h), if_neg (by rw [h1]; decide), if_neg h2, if_neg (by rw [bitOn, h3]; decide)]
end
end Go.Sx

/-
  Plain functions and laws of them: for every input.
-/
import Derived.Test.YtdpbmmmdmecfdaaGreatDoorPX1
import Derived.Lib.LaidTab
import Derived.Shelf.Strconv.Itoa1
set_option linter.all false
/-
  The caches that the laws make, as plain functions: for every input.
-/
namespace Go.Sx
theorem range_getD {n i : Nat} (h : i < n) : (List.range n).getD i 0 = i := by
  rw [List.getD_eq_getElem?_getD, List.getElem?_range h]; rfl
/-- a cache that is too long for the laws -/
def crLgE (s : CR) : Prop := 100 < s.x.length ∨ 100 < s.y.length ∨ 100 < s.z.length ∨ 400 < s.t.length
instance (s : CR) : Decidable (crLgE s) := by unfold crLgE; infer_instance
end Go.Sx

/-
  Lists that grow by an entry a step, as plain functions: for every input.
-/
namespace Go.Sx
theorem ent_ok {x y : List UInt8} {k kv ex ml atr fl un : Int} (hx : nameS x = true) (hy : instS y = true) (hk : k = 0 ∨ keyOk k = true) (h1 : 0 ≤ kv ∧ kv ≤ 255) (h2 : 0 ≤ ex ∧ ex ≤ 4294967295) (h3 : 0 ≤ un ∧ un ≤ 4294967295) (h4 : 0 ≤ ml ∧ ml ≤ 255) (h5 : 0 ≤ atr ∧ atr ≤ 3) (h6 : 0 ≤ fl ∧ fl ≤ 20) : deV ⟨x, y, k, kv, ex, ml, atr, fl, un⟩ :=
  deC_4 hx hy hk ⟨⟨h1, h2, h3⟩, h4, h5, h6⟩
theorem user_parts (n : Int) : nameS (userN n) = true := by
  have := user_valid n 0
  unfold validS at this
  simp only [Bool.and_eq_true] at this
  exact this.1
theorem inst_nil : instS [] = true := by decide +kernel
theorem attr_range {a b : Int} (ha : 0 ≤ a ∧ a < 5) (hb : 0 ≤ b ∧ b < 4) : 0 ≤ a / 4 * b ∧ a / 4 * b ≤ 3 := by
  have h1 : a / 4 = 0 ∨ a / 4 = 1 := by omega
  rcases h1 with h1 | h1
  · rw [h1]; omega
  · rw [h1]; omega
section
variable (E : Nat → DE) (P : Nat → Nat)
def genP : Nat → Nat
  | 0 => 0
  | j + 1 => P (genP j)
def genO : Nat → List DE
  | 0 => []
  | j + 1 => insD (E (genP P j)) (genO j)
def genN (n : Nat) : Nat := (List.range 61).findIdx fun j => decide (¬ (genP P j < n ∧ j < 60))
end
section
variable {E : Nat → DE} {P : Nat → Nat}
theorem genN_at {n j : Nat} (hj : j ≤ 60) (h : ∀ i, i < j → genP P i < n) (h2 : ¬ (genP P j < n ∧ j < 60)) : genN P n = j := by
  refine find_at 0 (by simp; omega) (fun i hi => ?_) ?_
  · rw [range_getD (by omega)]
    have := h i hi
    exact decide_eq_false (fun hh => hh ⟨this, by omega⟩)
  · rw [range_getD (by omega)]; exact decide_eq_true h2
theorem genN_le (n : Nat) : genN P n ≤ 60 := by
  have h : genN P n < 61 := by
    by_cases h : genN P n < (List.range 61).length
    · simpa using h
    · exfalso
      have := find_miss (p := fun j => decide (¬ (genP P j < n ∧ j < 60))) (l := List.range 61) (i := 60) 0 (by
        show 60 < genN P n
        have : (List.range 61).length = 61 := List.length_range
        omega)
      rw [range_getD (by omega)] at this
      have := of_decide_eq_false this
      omega
  omega
theorem genO_len : ∀ j, (genO E P j).length = j
  | 0 => rfl
  | j + 1 => by rw [genO, insD_len, genO_len j]
theorem genO_ok {r : List UInt8} (hr : realmS r = true) (hE : ∀ k, deV (E k)) : ∀ j, j ≤ 60 → dbC r (genO E P j) = 0
  | 0, _ => dbC_mk hr (by simp [genO]) (by simp [genO]) (by intro i hi; simp [genO] at hi)
  | j + 1, h => insD_ok (genO_ok hr hE j (by omega)) (hE _) (by rw [genO_len]; omega)
end
/-- one more entry than a list has before a place -/
theorem less_iff {s t : DE} (h : Op.bytesLess s.x t.x = true) : ¬ 0 < deO s t := by have := (deO_lt (s := s) (t := t)).2 (.inl h); omega
theorem less_iff2 {s t : DE} (h : s.x = t.x) (h2 : Op.bytesLess s.y t.y = true) : ¬ 0 < deO s t := by have := (deO_lt (s := s) (t := t)).2 (.inr ⟨h, h2⟩); omega
theorem less_iff3 {s t : DE} (h : s.x = t.x) (h2 : s.y = t.y) : ¬ 0 < deO s t := by have := (deO_zero (s := s) (t := t)).2 ⟨h, h2⟩; omega
theorem more_iff {s t : DE} (h : Op.bytesLess s.x t.x = false) (h2 : ¬ s.x = t.x) : 0 < deO s t := by
  have h3 : ¬ deO s t < 0 := fun hh => by
    rcases deO_lt.1 hh with h4 | h4
    · rw [h] at h4; cases h4
    · exact h2 h4.1
  have h4 : ¬ deO s t = 0 := fun hh => h2 (deO_zero.1 hh).1
  omega
theorem more_iff2 {s t : DE} (h : Op.bytesLess s.x t.x = false) (h2 : Op.bytesLess s.y t.y = false) (h3 : ¬ s.y = t.y) : 0 < deO s t := by
  have h4 : ¬ deO s t < 0 := fun hh => by
    rcases deO_lt.1 hh with h4 | h4
    · rw [h] at h4; cases h4
    · rw [h2] at h4; cases h4.2
  have h5 : ¬ deO s t = 0 := fun hh => h3 (deO_zero.1 hh).2
  omega
theorem take_all {O : List DE} {i : Nat} : (flat deR (O.drop i)).take ((O.length - i) * 9) = flat deR (O.drop i) := List.take_of_length_le (by rw [flat_len deR_len, List.length_drop]; omega)
end Go.Sx

/-
  What stands in the library's variables that nothing turns: the powers of ten, and two errors.
-/
set_option linter.all false
namespace Go.Sx
def glS (b : Nat) : Prop := b = 0 ∨ b = 2 ∨ b = 3
def glErr (o : Obj) : Prop := ∃ cs t f ev, o = .cells cs t f ∧ cs[0]? = some ev ∧ (ev = .nilIface ∨ ∃ te pe, ev = .iface te pe)
def glOk (b : Nat) (o : Obj) : Prop := if b = 0 then ∃ t f, o = .cells (Go.Lib.pow10Tab.map fun z => Value.int .u64 z).toArray t f else glErr o
end Go.Sx

/-
  What files with the keys of services are, as plain functions: for every input.
-/
namespace Go.Sx
structure SK where
  x : List UInt8
  y : List UInt8
  z : List UInt8
  n : Int
  k : Int
/-- the document's reader at an element -/
structure SkR where
  k1 : Int
  k2 : Int
  k3 : Int
  b3 : Bool
  k4 : Int
  b4 : Bool
  k5 : Int
  b5 : Bool
  s : SK
end Go.Sx

/-
  The cells of an entry of a database at any place: for every input.
-/
set_option linter.all false
namespace Go.Sx
theorem headS_deE {l : List DE} {j z : Nat} (hz : z = j * 9) {E : DE} (h0 : l.getD j de0 = E) {K : List UInt8 → List L → Prop} (h : j < l.length) (hk : K E.x (.s E.y :: .i .u64 E.k :: .i .i64 E.kv :: .i .i64 E.ex :: .i .i64 E.ml :: .i .i64 E.atr :: .i .i64 E.fl :: .i .i64 E.un :: flat deR (l.drop (j + 1)))) : headS ((flat deR l).drop z) K := by
  subst hz
  subst h0
  exact ⟨_, _, by rw [flat_at deR_len de0 h]; rfl, hk⟩
end Go.Sx

/-
  The text of a dump, piece by piece, as plain functions: for every input.
-/
set_option linter.all false
namespace Go.Sx
def numE (e : DE) : List Int := [e.kv, e.ex, e.ml, e.atr, e.fl, e.un]
def tabs (l : List Int) : List UInt8 := (l.map fun n => 9 :: dg n).flatten
theorem lineE_eq (e : DE) : lineE e = (((e.x ++ [9]) ++ e.y) ++ [9]) ++ dg e.k ++ tabs (numE e) := by
  simp [lineE, joi, colE, tabs, numE]
def outB (r : List UInt8) (l : List DE) (k : Nat) : List UInt8 := r ++ [10] ++ ((l.take k).map fun e => lineE e ++ [10]).flatten
theorem outB_0 (r : List UInt8) (l : List DE) : outB r l 0 = r ++ [10] := by simp [outB]
theorem outB_all (r : List UInt8) (l : List DE) : outB r l l.length = dumpB r l := by rw [outB, List.take_length, dumpB_eq]
theorem outB_step (r : List UInt8) {l : List DE} {k : Nat} (h : k < l.length) : outB r l (k + 1) = outB r l k ++ lineE l[k] ++ [10] := by
  rw [outB, outB, List.take_add_one, List.getElem?_eq_getElem h]
  simp only [Option.toList_some, List.map_append, List.map_cons, List.map_nil, List.flatten_append, List.flatten_cons, List.flatten_nil, List.append_nil, List.append_assoc]
theorem tabs_step {l : List Int} {j : Nat} (h : j < l.length) : tabs (l.take (j + 1)) = tabs (l.take j) ++ (9 :: dg l[j]) := by
  simp only [tabs]
  rw [List.take_add_one, List.getElem?_eq_getElem h]
  simp only [Option.toList_some, List.map_append, List.map_cons, List.map_nil, List.flatten_append, List.flatten_cons, List.flatten_nil, List.append_nil]
theorem numE_len (e : DE) : (numE e).length = 6 := rfl
theorem itoa_dg {n : Int} (h : 0 ≤ n) : Go.Lib.itoa n = dg n := by
  obtain ⟨u, rfl⟩ : ∃ u : Nat, n = u := ⟨n.toNat, by omega⟩
  rw [dg, Int.toNat_natCast]
  unfold Go.Lib.itoa
  rw [if_neg (by omega)]
  simp
theorem dgI_len {n : Int} (h : 0 ≤ n ∧ n ≤ 18446744073709551615) : (dg n).length ≤ 20 := by
  rw [dg]
  by_cases h0 : n.toNat = 0
  · rw [h0, Go.Lib.decDigits]; simp
  · rw [Go.Lib.decDigits_length]
    have := Go.Lib.numDigits_eq n.toNat (by omega) (by omega)
    split at this <;> omega
theorem tabsI_len {l : List Int} (h : ∀ n ∈ l, 0 ≤ n ∧ n ≤ 18446744073709551615) : (tabs l).length ≤ 21 * l.length := by
  induction l with
  | nil => simp [tabs]
  | cons a r ih =>
    have h1 := dgI_len (h a (by simp))
    have h2 := ih fun n hn => h n (by simp [hn])
    simp only [tabs, List.map_cons, List.flatten_cons, List.length_append, List.length_cons] at h2 ⊢
    omega
theorem lineE_len {e : DE} (h : deV e) : (lineE e).length ≤ 700 := by
  obtain ⟨h1, h2⟩ := deV_small h
  obtain ⟨n0, n1, n2, n3, n4, n5, n6⟩ := deV_num h
  have h3 := dgI_len (n := e.k) (by omega)
  have h4 : (tabs (numE e)).length ≤ 21 * (numE e).length := tabsI_len fun n hn => by
    simp only [numE, List.mem_cons, List.not_mem_nil, or_false] at hn
    rcases hn with rfl | rfl | rfl | rfl | rfl | rfl <;> omega
  rw [numE_len] at h4
  obtain ⟨g1, g2, _⟩ := h1
  rw [lineE_eq]
  simp only [List.length_append, List.length_cons, List.length_nil]
  omega
theorem outB_len {r : List UInt8} {l : List DE} (h : ∀ e ∈ l, deV e) : ∀ k, (outB r l k).length ≤ r.length + 1 + 701 * k := by
  intro k
  induction k with
  | zero => rw [outB_0]; simp
  | succ k ih =>
    by_cases hk : k < l.length
    · rw [outB_step r hk]
      have := lineE_len (h l[k] (List.getElem_mem hk))
      simp only [List.length_append, List.length_cons, List.length_nil]
      omega
    · have : outB r l (k + 1) = outB r l k := by rw [outB, outB, List.take_of_length_le (by omega), List.take_of_length_le (by omega)]
      rw [this]
      omega
end Go.Sx

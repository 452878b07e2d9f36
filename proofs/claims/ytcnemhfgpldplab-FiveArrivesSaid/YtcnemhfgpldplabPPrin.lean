/-
  Lists that are looked through, and what the names of principals are, as plain functions: for every input.
-/
import Derived.Test.YtcnemhfgpldplabPField
set_option linter.all false
namespace Go.Sx

theorem all_step {p : UInt8 → Bool} {s : List UInt8} {j : Nat} (hj : j < s.length) (h : (s.take j).all p = true) (hp : p (s.getD j 0) = true) : (s.take (j + 1)).all p = true := by
  rw [List.take_succ_eq_append_getElem hj, List.all_append, h]
  rw [List.getD_eq_getElem?_getD, List.getElem?_eq_getElem hj] at hp
  simpa using hp
theorem all_bad {p : UInt8 → Bool} {s : List UInt8} {j : Nat} (hj : j < s.length) (hp : p (s.getD j 0) = false) : s.all p = false := by
  rw [List.all_eq_false]
  refine ⟨s[j], List.getElem_mem hj, ?_⟩
  rw [List.getD_eq_getElem?_getD, List.getElem?_eq_getElem hj] at hp
  simpa using hp
theorem all_done {p : UInt8 → Bool} {s : List UInt8} {j : Nat} (hj : s.length ≤ j) (h : (s.take j).all p = true) : s.all p = true := by
  rwa [List.take_of_length_le hj] at h

def okB (w : List UInt8) (x : UInt8) : Bool := decide (33 ≤ x.toNat) && decide (x.toNat ≤ 126) && decide (Lib.indexByte w x < 0)
def printS (s w : List UInt8) : Bool := s.all (okB w)
theorem okB_yes {w : List UInt8} {x : UInt8} (h1 : 33 ≤ x.toNat) (h2 : x.toNat ≤ 126) (h3 : Lib.indexByte w x < 0) : okB w x = true := by simp [okB, h1, h2, h3]
theorem okB_no {w : List UInt8} {x : UInt8} (h : x.toNat < 33 ∨ 126 < x.toNat ∨ 0 ≤ Lib.indexByte w x) : okB w x = false := by
  unfold okB
  rcases h with h | h | h
  · rw [decide_eq_false (by omega)]; rfl
  · rw [decide_eq_false (p := x.toNat ≤ 126) (by omega)]; simp
  · rw [decide_eq_false (p := Lib.indexByte w x < 0) (by omega)]; simp

theorem u8_eq {x y : UInt8} (h : (x.toNat : Int) = (y.toNat : Int)) : x = y := UInt8.toNat_inj.mp (by omega)
theorem indexByte_hit {w : List UInt8} {c : UInt8} {k : Nat} (hk : k < w.length) (h : (c.toNat : Int) = ((w.getD k 0).toNat : Int)) : 0 ≤ Lib.indexByte w c := by
  have hb := indexByte_bounds w c
  by_cases h0 : Lib.indexByte w c = -1
  · exfalso
    have := Lib.indexByte_none h0 k
    rw [List.getElem?_eq_getElem hk] at this
    apply this
    rw [u8_eq h, List.getD_eq_getElem?_getD, List.getElem?_eq_getElem hk]
    rfl
  · omega
theorem miss_step {w : List UInt8} {c : UInt8} {k : Nat} (h : ∀ i, i < k → w.getD i 0 ≠ c) (h0 : ¬ (c.toNat : Int) = ((w.getD k 0).toNat : Int)) : ∀ i, i < k + 1 → w.getD i 0 ≠ c := by
  intro i hi
  by_cases e : i = k
  · subst e
    intro he
    rw [he] at h0
    exact h0 rfl
  · exact h i (by omega)
theorem miss_all {w : List UInt8} {c : UInt8} {k : Nat} (h : ∀ i, i < k → w.getD i 0 ≠ c) (hk : w.length ≤ k) : Lib.indexByte w c < 0 := by
  rw [indexByte_no w c fun i hi => h i (by omega)]
  omega
/-- the place of a byte, or the length -/
def placeS (s : List UInt8) (c : UInt8) : Int := if Lib.indexByte s c < 0 then s.length else Lib.indexByte s c
theorem place_at {s : List UInt8} {c : UInt8} {k : Nat} (hk : k < s.length) (h : ∀ i, i < k → s.getD i 0 ≠ c) (h0 : ((s.getD k 0).toNat : Int) = (c.toNat : Int)) : placeS s c = k := by
  rw [placeS, indexByte_at s c k hk (u8_eq h0) h, if_neg (by omega)]
theorem place_no {s : List UInt8} {c : UInt8} {k : Nat} (hk : s.length ≤ k) (h : ∀ i, i < k → s.getD i 0 ≠ c) : placeS s c = s.length := by
  rw [placeS, if_pos (miss_all h hk)]

def nameS (s : List UInt8) : Bool := decide (s ≠ []) && (decide (s.length ≤ 39) && printS s [46, 64])
def instS (s : List UInt8) : Bool := decide (s.length ≤ 39) && printS s [64]
def realmS (s : List UInt8) : Bool := decide (s ≠ []) && instS s
def validS (x y z : List UInt8) : Bool := nameS x && (instS y && realmS z)

theorem place_bounds (s : List UInt8) (c : UInt8) : 0 ≤ placeS s c ∧ placeS s c ≤ s.length := by
  have := indexByte_bounds s c
  unfold placeS
  split <;> omega
def frontS (s : List UInt8) (c : UInt8) : List UInt8 := s.take (placeS s c).toNat
def behindS (s : List UInt8) (c : UInt8) : List UInt8 := s.drop ((placeS s c).toNat + 1)
def foundS (s : List UInt8) (c : UInt8) : Bool := decide (placeS s c < s.length)
theorem front_le (s : List UInt8) (c : UInt8) : (frontS s c).length ≤ s.length := by simp [frontS]; omega
theorem behind_le (s : List UInt8) (c : UInt8) : (behindS s c).length ≤ s.length := by simp [behindS]
theorem cut_no {s : List UInt8} {c : UInt8} (h : Lib.indexByte s c < 0) : frontS s c = s ∧ behindS s c = [] ∧ foundS s c = false := by
  have e : placeS s c = s.length := by rw [placeS, if_pos h]
  refine ⟨?_, ?_, ?_⟩
  · rw [frontS, e, Int.toNat_natCast, List.take_length]
  · rw [behindS, e, Int.toNat_natCast, List.drop_of_length_le (by omega)]
  · rw [foundS, e]; simp
theorem cut_yes {s : List UInt8} {c : UInt8} (h : 0 ≤ Lib.indexByte s c) : placeS s c = Lib.indexByte s c ∧ foundS s c = true := by
  have e : placeS s c = Lib.indexByte s c := by rw [placeS, if_neg (by omega)]
  have := indexByte_bounds s c
  exact ⟨e, by rw [foundS, e]; exact decide_eq_true (by omega)⟩
def parseR (s r : List UInt8) : List UInt8 := if foundS s 64 then behindS s 64 else r
def parseS (s r : List UInt8) : (List UInt8 × List UInt8 × List UInt8) × Int :=
  if validS (frontS (frontS s 64) 46) (behindS (frontS s 64) 46) (parseR s r) = true then ((frontS (frontS s 64) 46, behindS (frontS s 64) 46, parseR s r), 0) else (([], [], []), 103)
theorem parseS_ok {s r x : List UInt8} (hx : parseR s r = x) (h : validS (frontS (frontS s 64) 46) (behindS (frontS s 64) 46) x = true) : parseS s r = ((frontS (frontS s 64) 46, behindS (frontS s 64) 46, x), 0) := by
  subst hx; rw [parseS, if_pos h]
theorem parseS_no {s r x : List UInt8} (hx : parseR s r = x) (h : validS (frontS (frontS s 64) 46) (behindS (frontS s 64) 46) x = false) : parseS s r = (([], [], []), 103) := by
  subst hx; rw [parseS, if_neg (by simp [h])]
def formatS (x y z : List UInt8) : List UInt8 × Int := if validS x y z = true then (if y = [] then x ++ [64] ++ z else x ++ ([46] ++ y) ++ [64] ++ z, 0) else ([], 103)
theorem formatS_no {x y z : List UInt8} (h : validS x y z = false) : formatS x y z = ([], 103) := by rw [formatS, if_neg (by simp [h])]
theorem formatS_0 {x y z : List UInt8} (h : validS x y z = true) (hy : y = []) : formatS x y z = (x ++ [64] ++ z, 0) := by rw [formatS, if_pos h, if_pos hy]
theorem formatS_1 {x y z : List UInt8} (h : validS x y z = true) (hy : ¬ y = []) : formatS x y z = (x ++ ([46] ++ y) ++ [64] ++ z, 0) := by rw [formatS, if_pos h, if_neg hy]

theorem okB_ne {w : List UInt8} {x c : UInt8} (h : okB w x = true) (hc : c ∈ w) : x ≠ c := by
  intro e
  subst e
  have h3 : Lib.indexByte w x < 0 := by
    unfold okB at h
    simp only [Bool.and_eq_true, decide_eq_true_eq] at h
    exact h.2
  obtain ⟨k, hk, he⟩ := mem_getD 0 hc
  have := indexByte_hit (w := w) (c := x) hk (by rw [he])
  omega
theorem print_ne {s w : List UInt8} {c : UInt8} (h : printS s w = true) (hc : c ∈ w) : c ∉ s := by
  intro hm
  have := List.all_eq_true.mp h c hm
  exact okB_ne this hc rfl
theorem indexByte_mid : ∀ (a b : List UInt8) (c : UInt8), c ∉ a → Lib.indexByte (a ++ c :: b) c = a.length
  | [], b, c, _ => by simp [Lib.indexByte]
  | x :: a, b, c, h => by
    have hx : x ≠ c := fun e => h (by simp [e])
    have ih := indexByte_mid a b c (fun hm => h (by simp [hm]))
    rw [List.cons_append]
    unfold Lib.indexByte
    rw [ih]
    simp [hx]
    try omega
theorem indexByte_out (a : List UInt8) (c : UInt8) (h : c ∉ a) : Lib.indexByte a c = -1 := by
  refine indexByte_no _ _ fun i hi he => h ?_
  rw [← he]
  exact getD_mem hi
theorem cut_mid {a b : List UInt8} {c : UInt8} (h : c ∉ a) : frontS (a ++ c :: b) c = a ∧ behindS (a ++ c :: b) c = b ∧ foundS (a ++ c :: b) c = true := by
  have e := indexByte_mid a b c h
  have ⟨e1, e2⟩ := cut_yes (s := a ++ c :: b) (c := c) (by omega)
  rw [e] at e1
  refine ⟨?_, ?_, e2⟩
  · rw [frontS, e1, Int.toNat_natCast, List.take_left]
  · rw [behindS, e1, Int.toNat_natCast]
    simp
theorem valid_parts {x y z : List UInt8} (h : validS x y z = true) : (46 ∉ x) ∧ (64 ∉ x) ∧ (64 ∉ y) := by
  unfold validS nameS instS at h
  simp only [Bool.and_eq_true] at h
  exact ⟨print_ne h.1.2.2 (by simp), print_ne h.1.2.2 (by simp), print_ne h.2.1.2 (by simp)⟩
/-- what is formatted is parsed as it was -/
theorem parse_format {x y z r : List UInt8} (h : validS x y z = true) : parseS (formatS x y z).1 r = ((x, y, z), 0) := by
  obtain ⟨h1, h2, h3⟩ := valid_parts h
  by_cases hy : y = []
  · subst hy
    rw [formatS_0 h rfl]
    have e : x ++ [64] ++ z = x ++ 64 :: z := by simp
    show parseS (x ++ [64] ++ z) r = _
    rw [e]
    obtain ⟨f1, f2, f3⟩ := cut_mid (a := x) (b := z) h2
    obtain ⟨g1, g2, g3⟩ := cut_no (s := x) (c := 46) (by rw [indexByte_out _ _ h1]; omega)
    rw [parseS_ok (x := z) (by rw [parseR, f3, if_pos rfl, f2]) (by rw [f1, g1, g2]; exact h), f1, g1, g2]
  · rw [formatS_1 h hy]
    show parseS (x ++ ([46] ++ y) ++ [64] ++ z) r = _
    have e : x ++ ([46] ++ y) ++ [64] ++ z = (x ++ 46 :: y) ++ 64 :: z := by simp
    rw [e]
    have h4 : (64 : UInt8) ∉ x ++ 46 :: y := by
      rw [List.mem_append, List.mem_cons]
      rintro (hh | hh | hh)
      · exact h2 hh
      · revert hh; decide
      · exact h3 hh
    obtain ⟨f1, f2, f3⟩ := cut_mid (a := x ++ 46 :: y) (b := z) h4
    obtain ⟨g1, g2, g3⟩ := cut_mid (a := x) (b := y) h1
    rw [parseS_ok (x := z) (by rw [parseR, f3, if_pos rfl, f2]) (by rw [f1, g1, g2]; exact h), f1, g1, g2]

abbrev cmpB := Lib.compareBytes
theorem cmp_bounds : ∀ a b : List UInt8, cmpB a b = -1 ∨ cmpB a b = 0 ∨ cmpB a b = 1
  | [], [] => by simp [cmpB, Lib.compareBytes]
  | [], _ :: _ => by simp [cmpB, Lib.compareBytes]
  | _ :: _, [] => by simp [cmpB, Lib.compareBytes]
  | a :: x, b :: y => by
    have ih := cmp_bounds x y
    unfold cmpB at ih ⊢
    unfold Lib.compareBytes
    split
    · simp
    · split
      · simp
      · exact ih
theorem cmp_zero : ∀ a b : List UInt8, cmpB a b = 0 ↔ a = b
  | [], [] => by simp [cmpB, Lib.compareBytes]
  | [], _ :: _ => by simp [cmpB, Lib.compareBytes]
  | _ :: _, [] => by simp [cmpB, Lib.compareBytes]
  | a :: x, b :: y => by
    have ih := cmp_zero x y
    unfold cmpB at ih ⊢
    unfold Lib.compareBytes
    by_cases h1 : a < b
    · rw [if_pos h1]
      have : a ≠ b := fun e => by subst e; exact UInt8.lt_irrefl _ h1
      simp [this]
    · rw [if_neg h1]
      by_cases h2 : b < a
      · rw [if_pos h2]
        have : a ≠ b := fun e => by subst e; exact UInt8.lt_irrefl _ h2
        simp [this]
      · rw [if_neg h2, ih]
        have : a = b := UInt8.le_antisymm (UInt8.not_lt.mp h2) (UInt8.not_lt.mp h1)
        simp [this]
theorem cmp_anti : ∀ a b : List UInt8, cmpB b a = - cmpB a b
  | [], [] => by simp [cmpB, Lib.compareBytes]
  | [], _ :: _ => by simp [cmpB, Lib.compareBytes]
  | _ :: _, [] => by simp [cmpB, Lib.compareBytes]
  | a :: x, b :: y => by
    have ih := cmp_anti x y
    unfold cmpB at ih ⊢
    unfold Lib.compareBytes
    by_cases h1 : a < b
    · have h2 : ¬ b < a := UInt8.lt_asymm h1
      simp [h1, h2]
    · by_cases h2 : b < a
      · simp [h1, h2]
      · simp [h1, h2, ih]
theorem cmp_trans : ∀ a b c : List UInt8, cmpB a b ≤ 0 → cmpB b c ≤ 0 → cmpB a c ≤ 0
  | [], _, [] => by simp [cmpB, Lib.compareBytes]
  | [], _, _ :: _ => by simp [cmpB, Lib.compareBytes]
  | _ :: _, [], _ => by simp [cmpB, Lib.compareBytes]
  | _ :: _, _ :: _, [] => by simp [cmpB, Lib.compareBytes]
  | a :: x, b :: y, c :: z => by
    have ih := cmp_trans x y z
    unfold cmpB at ih ⊢
    unfold Lib.compareBytes
    by_cases h1 : a < b
    · by_cases h2 : b < c
      · simp [h1, h2, UInt8.lt_trans h1 h2]
      · by_cases h3 : c < b
        · simp [h2, h3]
        · have : b = c := UInt8.le_antisymm (UInt8.not_lt.mp h3) (UInt8.not_lt.mp h2)
          subst this
          simp [h1]
    · by_cases h2 : b < a
      · simp [h1, h2]
      · have : a = b := UInt8.le_antisymm (UInt8.not_lt.mp h2) (UInt8.not_lt.mp h1)
        subst this
        by_cases h3 : a < c
        · simp [h3]
        · by_cases h4 : c < a
          · simp [h3, h4]
          · simpa [h3, h4] using ih
theorem cmp_less : ∀ a b : List UInt8, Op.bytesLess a b = decide (cmpB a b < 0)
  | [], [] => by simp [cmpB, Lib.compareBytes, Op.bytesLess]
  | [], _ :: _ => by simp [cmpB, Lib.compareBytes, Op.bytesLess]
  | _ :: _, [] => by simp [cmpB, Lib.compareBytes, Op.bytesLess]
  | a :: x, b :: y => by
    have ih := cmp_less x y
    unfold cmpB at ih ⊢
    unfold Lib.compareBytes Op.bytesLess
    rw [ih]
    by_cases h1 : a < b
    · simp [h1]
    · by_cases h2 : b < a
      · have : a ≠ b := fun e => by subst e; exact UInt8.lt_irrefl _ h2
        simp [h1, h2, this]
      · have : a = b := UInt8.le_antisymm (UInt8.not_lt.mp h2) (UInt8.not_lt.mp h1)
        simp [this]
def prinCmp (x y z u v w : List UInt8) : Int := if cmpB z w ≠ 0 then cmpB z w else if cmpB x u ≠ 0 then cmpB x u else cmpB y v
theorem prinCmp_bounds (x y z u v w : List UInt8) : -1 ≤ prinCmp x y z u v w ∧ prinCmp x y z u v w ≤ 1 := by
  have h1 := cmp_bounds z w
  have h2 := cmp_bounds x u
  have h3 := cmp_bounds y v
  unfold prinCmp
  split
  · omega
  · split <;> omega
theorem prinCmp_anti (x y z u v w : List UInt8) : prinCmp u v w x y z = - prinCmp x y z u v w := by
  have h1 := cmp_anti z w
  have h2 := cmp_anti x u
  have h3 := cmp_anti y v
  unfold prinCmp
  rw [h1, h2, h3]
  by_cases e1 : cmpB z w = 0
  · by_cases e2 : cmpB x u = 0
    · simp [e1, e2]
    · simp [e1, e2]
  · simp [e1]
theorem prinCmp_zero (x y z u v w : List UInt8) : prinCmp x y z u v w = 0 ↔ x = u ∧ y = v ∧ z = w := by
  have h1 := cmp_zero z w
  have h2 := cmp_zero x u
  have h3 := cmp_zero y v
  unfold prinCmp
  rw [← h1, ← h2, ← h3]
  split
  · omega
  · split <;> omega
theorem prinCmp_trans {x y z u v w p q r : List UInt8} (ha : prinCmp x y z u v w ≤ 0) (hb : prinCmp u v w p q r ≤ 0) : prinCmp x y z p q r ≤ 0 := by
  have a1 := cmp_bounds z w
  have b1 := cmp_bounds w r
  have c1 := cmp_bounds z r
  have t1 := cmp_trans z w r
  have t1' := cmp_trans r z w
  have t1'' := cmp_trans w r z
  have n1 := cmp_anti z w
  have n2 := cmp_anti w r
  have n3 := cmp_anti z r
  have a2 := cmp_bounds x u
  have b2 := cmp_bounds u p
  have c2 := cmp_bounds x p
  have t2 := cmp_trans x u p
  have t2' := cmp_trans p x u
  have t2'' := cmp_trans u p x
  have m1 := cmp_anti x u
  have m2 := cmp_anti u p
  have m3 := cmp_anti x p
  have t3 := cmp_trans y v q
  unfold prinCmp at *
  split at ha <;> split at hb <;> split <;> (try omega) <;> split at ha <;> (try omega) <;> split at hb <;> (try omega) <;> split <;> omega
end Go.Sx

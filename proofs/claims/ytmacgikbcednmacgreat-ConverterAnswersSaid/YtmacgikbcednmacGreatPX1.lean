/-
  Plain functions and laws of them: for every input.
-/
import Derived.Test.YtmacgikbcednmacGreatSxLib
import Derived.Lib.BytesEntry
import Derived.Lib.IndexLaws
import Derived.Test.YtmacgikbcednmacGreatSxC
set_option linter.all false
/-
  What the fields of messages are, as plain functions: for every input.
-/
namespace Go.Sx

def padN (n : Nat) : Nat := (8 - n % 8) % 8
def padS (b : List UInt8) : List UInt8 := b ++ List.replicate (padN b.length) 0
@[simp] theorem padS_len (b : List UInt8) : (padS b).length = b.length + padN b.length := by simp [padS]

def roomS (len at_ n : Int) : Int := if at_ < 0 ∨ at_ > len ∨ n < 0 then 104 else if n > len - at_ then 101 else 0

theorem roomS_ok {len k n : Int} (h : roomS len k n = 0) : 0 ≤ k ∧ k ≤ len ∧ 0 ≤ n ∧ n ≤ len - k := by
  unfold roomS at h
  split at h
  · cases h
  · split at h
    · cases h
    · omega

def getV (little : Bool) (size : Nat) (b : List UInt8) (at_ : Int) : Int :=
  (List.range size).foldl (fun n i => n * 256 + ((b.getD (at_ + ((if little then size - 1 - i else i : Nat) : Int)).toNat 0).toNat : Int)) 0
def getS (little : Bool) (size : Nat) (b : List UInt8) (at_ : Int) : Int × Int × Int :=
  if roomS b.length at_ size ≠ 0 then (0, 0, roomS b.length at_ size) else (getV little size b at_, at_ + size, 0)

def bytesS (b : List UInt8) (at_ n : Int) : List UInt8 × Int × Int :=
  if roomS b.length at_ n ≠ 0 then ([], 0, roomS b.length at_ n) else ((b.take (at_ + n).toNat).drop at_.toNat, at_ + n, 0)

theorem bytesS_ok {b : List UInt8} {k n : Int} (h : roomS b.length k n = 0) : bytesS b k n = ((b.take (k + n).toNat).drop k.toNat, k + n, 0) := by simp [bytesS, h]
theorem bytesS_no {b : List UInt8} {k n : Int} (h : ¬ roomS b.length k n = 0) : bytesS b k n = ([], 0, roomS b.length k n) := by simp [bytesS, h]
theorem bytesS_104 {b : List UInt8} {k n : Int} (h : k < 0 ∨ k > b.length ∨ n < 0) : bytesS b k n = ([], 0, 104) := by simp [bytesS, roomS, h]
theorem roomS_101 {len : Int} {k n : Int} (h1 : 0 ≤ k) (h2 : k ≤ len) (h3 : 0 ≤ n) (h4 : n > len - k) : roomS len k n = 101 := by
  unfold roomS
  rw [if_neg (by omega), if_pos h4]
theorem roomS_0 {len : Int} {k n : Int} (h1 : 0 ≤ k) (h2 : k ≤ len) (h3 : 0 ≤ n) (h4 : n ≤ len - k) : roomS len k n = 0 := by
  unfold roomS
  rw [if_neg (by omega), if_neg (by omega)]
theorem bytesS_101 {b : List UInt8} {k n : Int} (h1 : 0 ≤ k) (h2 : k ≤ b.length) (h3 : 0 ≤ n) (h4 : n > b.length - k) : bytesS b k n = ([], 0, 101) := by
  have e := roomS_101 h1 h2 h3 h4
  simp [bytesS, e]
theorem bytesS_len {b : List UInt8} {k n : Int} (h : roomS b.length k n = 0) : (bytesS b k n).1.length = n.toNat := by
  have hr := roomS_ok h
  rw [bytesS_ok h]
  simp
  omega
theorem bytesS_le (b : List UInt8) (k n : Int) : (bytesS b k n).1.length ≤ b.length := by
  unfold bytesS
  split
  · simp
  · simp; omega
theorem cut_getD {b : List UInt8} {k n : Int} {j : Nat} (h : roomS b.length k n = 0) (hj : (j : Int) < n) : ((b.take (k + n).toNat).drop k.toNat).getD j 0 = b.getD (k + (j : Int)).toNat 0 := by
  have hr := roomS_ok h
  rw [List.getD_eq_getElem?_getD, List.getD_eq_getElem?_getD, List.getElem?_drop, List.getElem?_take]
  rw [if_pos (by omega), show k.toNat + j = (k + (j : Int)).toNat by omega]

theorem getV_cut {l : Bool} {size : Nat} {b : List UInt8} {k : Int} (h : roomS b.length k size = 0) : getV l size b k =
    (List.range size).foldl (fun n i => n * 256 + ((((b.take (k + size).toNat).drop k.toNat).getD (if l then size - 1 - i else i) 0).toNat : Int)) 0 := by
  unfold getV
  have key : ∀ (q : List Nat) (a : Int), (∀ i ∈ q, i < size) →
      q.foldl (fun n i => n * 256 + ((b.getD (k + ((if l then size - 1 - i else i : Nat) : Int)).toNat 0).toNat : Int)) a =
      q.foldl (fun n i => n * 256 + ((((b.take (k + size).toNat).drop k.toNat).getD (if l then size - 1 - i else i) 0).toNat : Int)) a := by
    intro q
    induction q with
    | nil => intro a _; rfl
    | cons x q ih =>
      intro a hq
      have hx := hq x (by simp)
      simp only [List.foldl_cons]
      rw [cut_getD h (by split <;> omega)]
      exact ih _ (fun i hi => hq i (by simp [hi]))
  exact key _ _ (fun i hi => by simpa using hi)
theorem getS_cut {l : Bool} {size : Nat} {b : List UInt8} {k : Int} (h : roomS b.length k size = 0) : getS l size b k =
    ((List.range size).foldl (fun n i => n * 256 + ((((b.take (k + size).toNat).drop k.toNat).getD (if l then size - 1 - i else i) 0).toNat : Int)) 0, k + size, 0) := by
  rw [getS, if_neg (by simp [h]), getV_cut h]
theorem getS_ok {l : Bool} {size : Nat} {b : List UInt8} {k : Int} (h : roomS b.length k size = 0) : getS l size b k = (getV l size b k, k + size, 0) := by
  rw [getS, if_neg (by simp [h])]
theorem getS_no {l : Bool} {size : Nat} {b : List UInt8} {k : Int} (h : ¬ roomS b.length k size = 0) : getS l size b k = (0, 0, roomS b.length k size) := by
  rw [getS, if_pos h]

def restS (b : List UInt8) (at_ : Int) : List UInt8 := (b.drop at_.toNat).take 40
def textS (b : List UInt8) (at_ : Int) : List UInt8 × Int × Int :=
  if roomS b.length at_ 0 ≠ 0 then ([], 0, roomS b.length at_ 0) else
  if Lib.indexByte (restS b at_) 0 ≥ 0 then ((restS b at_).take (Lib.indexByte (restS b at_) 0).toNat, at_ + Lib.indexByte (restS b at_) 0 + 1, 0) else
  if (restS b at_).length = 40 then ([], 0, 105) else ([], 0, 101)

theorem textS_no {b : List UInt8} {k : Int} (h : ¬ roomS b.length k 0 = 0) : textS b k = ([], 0, roomS b.length k 0) := by
  rw [textS, if_pos h]
theorem textS_yes {b R : List UInt8} {k : Int} (h : roomS b.length k 0 = 0) (hR : restS b k = R) (h1 : 0 ≤ Lib.indexByte R 0) : textS b k = (R.take (Lib.indexByte R 0).toNat, k + Lib.indexByte R 0 + 1, 0) := by
  rw [textS, if_neg (by simp [h]), hR, if_pos h1]
theorem textS_long {b R : List UInt8} {k : Int} (h : roomS b.length k 0 = 0) (hR : restS b k = R) (h1 : Lib.indexByte R 0 < 0) (h2 : R.length = 40) : textS b k = ([], 0, 105) := by
  rw [textS, if_neg (by simp [h]), hR, if_neg (by omega), if_pos h2]
theorem textS_end {b R : List UInt8} {k : Int} (h : roomS b.length k 0 = 0) (hR : restS b k = R) (h1 : Lib.indexByte R 0 < 0) (h2 : ¬ R.length = 40) : textS b k = ([], 0, 101) := by
  rw [textS, if_neg (by simp [h]), hR, if_neg (by omega), if_neg h2]
theorem rest_len {b : List UInt8} {k : Int} (hk : 0 ≤ k ∧ k ≤ b.length) : (restS b k).length = min 40 (b.length - k.toNat) := by
  simp [restS]
theorem rest_getD {b : List UInt8} {k : Int} {i : Nat} (hk : 0 ≤ k) (hi : i < 40) : (restS b k).getD i 0 = b.getD (k + i).toNat 0 := by
  rw [restS, List.getD_eq_getElem?_getD, List.getD_eq_getElem?_getD, List.getElem?_take, if_pos hi, List.getElem?_drop, show (k + i).toNat = k.toNat + i by omega]
theorem rest_take {b : List UInt8} {k : Int} {i : Nat} (hk : 0 ≤ k) (hi : i ≤ 40) : (b.take (k + i).toNat).drop k.toNat = (restS b k).take i := by
  rw [restS, List.take_take, show min i 40 = i by omega, List.drop_take]
  congr 1
  omega

theorem indexByte_at : ∀ (l : List UInt8) (c : UInt8) (k : Nat), k < l.length → l.getD k 0 = c → (∀ i, i < k → l.getD i 0 ≠ c) → Lib.indexByte l c = k
  | [], c, k, h, _, _ => by simp at h
  | x :: l, c, 0, _, h, _ => by simp at h; simp [Lib.indexByte, h]
  | x :: l, c, k + 1, h1, h2, h3 => by
    have hx : x ≠ c := by simpa using h3 0 (by omega)
    have ih := indexByte_at l c k (by simpa using h1) (by simpa using h2) (fun i hi => by simpa using h3 (i + 1) (by omega))
    unfold Lib.indexByte
    rw [ih]
    simp [hx]
    try omega
theorem indexByte_bounds (l : List UInt8) (c : UInt8) : -1 ≤ Lib.indexByte l c ∧ Lib.indexByte l c < l.length := by
  refine ⟨Lib.indexByte_ge l c, ?_⟩
  by_cases h : Lib.indexByte l c < 0
  · omega
  · obtain ⟨h1, _⟩ := Lib.indexByte_some (l := l) (c := c) (o := (Lib.indexByte l c).toNat) (by omega)
    obtain ⟨h2, _⟩ := List.getElem?_eq_some_iff.mp h1
    omega
theorem indexByte_no : ∀ (l : List UInt8) (c : UInt8), (∀ i, i < l.length → l.getD i 0 ≠ c) → Lib.indexByte l c = -1
  | [], c, _ => rfl
  | x :: l, c, h => by
    have hx : x ≠ c := by simpa using h 0 (by simp)
    have ih := indexByte_no l c (fun i hi => by simpa using h (i + 1) (by simpa using hi))
    unfold Lib.indexByte
    rw [ih]
    simp [hx]

theorem u8_zero {x : UInt8} (h : (x.toNat : Int) = 0) : x = 0 := UInt8.toNat_inj.mp (by simpa using h)
theorem textS_zero {b : List UInt8} {k : Int} {j : Nat} (h : roomS b.length k 0 = 0) (hj : j < 40) (hl : k + j < b.length) (hz : ∀ i, i < j → (restS b k).getD i 0 ≠ 0)
    (h0 : ((b.getD (k + j).toNat 0).toNat : Int) = 0) : textS b k = ((b.take (k + j).toNat).drop k.toNat, k + j + 1, 0) := by
  have hr := roomS_ok h
  have hlen := rest_len (b := b) (k := k) (by omega)
  have e : Lib.indexByte (restS b k) 0 = j := indexByte_at _ _ j (by omega) (by rw [rest_getD hr.1 hj]; exact u8_zero h0) hz
  rw [textS_yes h rfl (by omega), e, rest_take hr.1 (by omega)]
  rfl
theorem textS_step {b : List UInt8} {k : Int} {j : Nat} (hk : 0 ≤ k) (hj : j < 40) (hz : ∀ i, i < j → (restS b k).getD i 0 ≠ 0)
    (h0 : ¬ ((b.getD (k + j).toNat 0).toNat : Int) = 0) : ∀ i, i < j + 1 → (restS b k).getD i 0 ≠ 0 := by
  intro i hi
  by_cases e : i = j
  · subst e
    rw [rest_getD hk hj]
    intro h
    rw [h] at h0
    exact h0 rfl
  · exact hz i (by omega)

theorem padS_eq {b : List UInt8} {i : Nat} (hi : i ≤ padN b.length) (h : ((b.length : Int) + i) % 8 = 0) : padS b = b ++ List.replicate i 0 := by
  have : i = padN b.length := by unfold padN at *; omega
  rw [padS, this]
theorem padN_lt (n : Nat) : padN n < 8 := by unfold padN; omega
theorem rep_u8 (x : UInt8) : ∀ n : Nat, rep [L.i .u8 (x.toNat : Int)] n = (List.replicate n x).map u8
  | 0 => rfl
  | n + 1 => by rw [rep, rep_u8 x n]; rfl
end Go.Sx

/-
  Lists that are looked through, and what the names of principals are, as plain functions: for every input.
-/
namespace Go.Sx

theorem all_step {p : UInt8 → Bool} {s : List UInt8} {j : Nat} (hj : j < s.length) (h : (s.take j).all p = true) (hp : p (s.getD j 0) = true) : (s.take (j + 1)).all p = true := by
  rw [List.take_succ_eq_append_getElem hj, List.all_append, h]
  rw [List.getD_eq_getElem?_getD, List.getElem?_eq_getElem hj] at hp
  simpa using hp
theorem all_bad {p : UInt8 → Bool} {s : List UInt8} {j : Nat} (hj : j < s.length) (hp : p (s.getD j 0) = false) : s.all p = false := by
  rw [List.all_eq_false]
  refine ⟨s[j], List.getElem_mem hj, ?_⟩
  rw [List.getD_eq_getElem?_getD, List.getElem?_eq_getElem hj] at hp
  simpa using hp
theorem all_done {p : UInt8 → Bool} {s : List UInt8} {j : Nat} (hj : s.length ≤ j) (h : (s.take j).all p = true) : s.all p = true := by
  rwa [List.take_of_length_le hj] at h

def okB (w : List UInt8) (x : UInt8) : Bool := decide (33 ≤ x.toNat) && decide (x.toNat ≤ 126) && decide (Lib.indexByte w x < 0)
def printS (s w : List UInt8) : Bool := s.all (okB w)
theorem okB_yes {w : List UInt8} {x : UInt8} (h1 : 33 ≤ x.toNat) (h2 : x.toNat ≤ 126) (h3 : Lib.indexByte w x < 0) : okB w x = true := by simp [okB, h1, h2, h3]
theorem okB_no {w : List UInt8} {x : UInt8} (h : x.toNat < 33 ∨ 126 < x.toNat ∨ 0 ≤ Lib.indexByte w x) : okB w x = false := by
  unfold okB
  rcases h with h | h | h
  · rw [decide_eq_false (by omega)]; rfl
  · rw [decide_eq_false (p := x.toNat ≤ 126) (by omega)]; simp
  · rw [decide_eq_false (p := Lib.indexByte w x < 0) (by omega)]; simp

theorem u8_eq {x y : UInt8} (h : (x.toNat : Int) = (y.toNat : Int)) : x = y := UInt8.toNat_inj.mp (by omega)
theorem indexByte_hit {w : List UInt8} {c : UInt8} {k : Nat} (hk : k < w.length) (h : (c.toNat : Int) = ((w.getD k 0).toNat : Int)) : 0 ≤ Lib.indexByte w c := by
  have hb := indexByte_bounds w c
  by_cases h0 : Lib.indexByte w c = -1
  · exfalso
    have := Lib.indexByte_none h0 k
    rw [List.getElem?_eq_getElem hk] at this
    apply this
    rw [u8_eq h, List.getD_eq_getElem?_getD, List.getElem?_eq_getElem hk]
    rfl
  · omega
theorem miss_step {w : List UInt8} {c : UInt8} {k : Nat} (h : ∀ i, i < k → w.getD i 0 ≠ c) (h0 : ¬ (c.toNat : Int) = ((w.getD k 0).toNat : Int)) : ∀ i, i < k + 1 → w.getD i 0 ≠ c := by
  intro i hi
  by_cases e : i = k
  · subst e
    intro he
    rw [he] at h0
    exact h0 rfl
  · exact h i (by omega)
theorem miss_all {w : List UInt8} {c : UInt8} {k : Nat} (h : ∀ i, i < k → w.getD i 0 ≠ c) (hk : w.length ≤ k) : Lib.indexByte w c < 0 := by
  rw [indexByte_no w c fun i hi => h i (by omega)]
  omega
def nameS (s : List UInt8) : Bool := decide (s ≠ []) && (decide (s.length ≤ 39) && printS s [46, 64])
def instS (s : List UInt8) : Bool := decide (s.length ≤ 39) && printS s [64]
def realmS (s : List UInt8) : Bool := decide (s ≠ []) && instS s
def validS (x y z : List UInt8) : Bool := nameS x && (instS y && realmS z)

theorem indexByte_mid : ∀ (a b : List UInt8) (c : UInt8), c ∉ a → Lib.indexByte (a ++ c :: b) c = a.length
  | [], b, c, _ => by simp [Lib.indexByte]
  | x :: a, b, c, h => by
    have hx : x ≠ c := fun e => h (by simp [e])
    have ih := indexByte_mid a b c (fun hm => h (by simp [hm]))
    rw [List.cons_append]
    unfold Lib.indexByte
    rw [ih]
    simp [hx]
    try omega
abbrev cmpB := Lib.compareBytes
theorem cmp_zero : ∀ a b : List UInt8, cmpB a b = 0 ↔ a = b
  | [], [] => by simp [cmpB, Lib.compareBytes]
  | [], _ :: _ => by simp [cmpB, Lib.compareBytes]
  | _ :: _, [] => by simp [cmpB, Lib.compareBytes]
  | a :: x, b :: y => by
    have ih := cmp_zero x y
    unfold cmpB at ih ⊢
    unfold Lib.compareBytes
    by_cases h1 : a < b
    · rw [if_pos h1]
      have : a ≠ b := fun e => by subst e; exact UInt8.lt_irrefl _ h1
      simp [this]
    · rw [if_neg h1]
      by_cases h2 : b < a
      · rw [if_pos h2]
        have : a ≠ b := fun e => by subst e; exact UInt8.lt_irrefl _ h2
        simp [this]
      · rw [if_neg h2, ih]
        have : a = b := UInt8.le_antisymm (UInt8.not_lt.mp h2) (UInt8.not_lt.mp h1)
        simp [this]
theorem cmp_anti : ∀ a b : List UInt8, cmpB b a = - cmpB a b
  | [], [] => by simp [cmpB, Lib.compareBytes]
  | [], _ :: _ => by simp [cmpB, Lib.compareBytes]
  | _ :: _, [] => by simp [cmpB, Lib.compareBytes]
  | a :: x, b :: y => by
    have ih := cmp_anti x y
    unfold cmpB at ih ⊢
    unfold Lib.compareBytes
    by_cases h1 : a < b
    · have h2 : ¬ b < a := UInt8.lt_asymm h1
      simp [h1, h2]
    · by_cases h2 : b < a
      · simp [h1, h2]
      · simp [h1, h2, ih]
theorem cmp_less : ∀ a b : List UInt8, Op.bytesLess a b = decide (cmpB a b < 0)
  | [], [] => by simp [cmpB, Lib.compareBytes, Op.bytesLess]
  | [], _ :: _ => by simp [cmpB, Lib.compareBytes, Op.bytesLess]
  | _ :: _, [] => by simp [cmpB, Lib.compareBytes, Op.bytesLess]
  | a :: x, b :: y => by
    have ih := cmp_less x y
    unfold cmpB at ih ⊢
    unfold Lib.compareBytes Op.bytesLess
    rw [ih]
    by_cases h1 : a < b
    · simp [h1]
    · by_cases h2 : b < a
      · have : a ≠ b := fun e => by subst e; exact UInt8.lt_irrefl _ h2
        simp [h1, h2, this]
      · have : a = b := UInt8.le_antisymm (UInt8.not_lt.mp h2) (UInt8.not_lt.mp h1)
        simp [this]
end Go.Sx

/-
  The names, keys and numbers that the laws' data are made of, as plain functions: for every input.
-/
namespace Go.Sx

/-- the number that a source hands out at its place k -/
def nx (l : List UInt8) (k : Nat) (n : Int) : Int := ((l.getD k 0).toNat : Int) % n
/-- where a source stands behind k numbers -/
def atS (l : List UInt8) (k : Nat) : Int := ((min k l.length : Nat) : Int)
theorem nx_bounds (l : List UInt8) (k : Nat) {n : Int} (h : 0 < n) : 0 ≤ nx l k n ∧ nx l k n < n := ⟨Int.emod_nonneg _ (by omega), Int.emod_lt_of_pos _ h⟩
theorem nx_end {l : List UInt8} {k : Nat} {n : Int} (h : l.length ≤ k) : nx l k n = 0 := by
  rw [nx, List.getD_eq_getElem?_getD, List.getElem?_eq_none h]
  simp

def realmN (n : Int) : List UInt8 := if n % 3 = 0 then [65, 84, 72] else if n % 3 = 1 then [66, 79, 83] else [67, 65, 77]
def userN (n : Int) : List UInt8 := if n % 3 = 0 then [97, 110, 110] else if n % 3 = 1 then [98, 111, 98] else [99, 97, 116]
def serviceN (n : Int) : List UInt8 := if n % 3 = 0 then [109, 97, 105, 108] else if n % 3 = 1 then [110, 102, 115] else [107, 114, 98, 116, 103, 116]
def serviceI (n : Int) : List UInt8 := if n % 3 = 0 then [] else if n % 3 = 1 then [104, 111, 109, 101] else [65, 84, 72]
theorem user_valid (n m : Int) : validS (userN n) [] (realmN m) = true := by
  unfold userN realmN
  split
  · split
    · decide +kernel
    · split <;> decide +kernel
  · split
    · split
      · decide +kernel
      · split <;> decide +kernel
    · split
      · decide +kernel
      · split <;> decide +kernel
theorem realm_valid (m : Int) : realmS (realmN m) = true := by
  unfold realmN
  split
  · decide +kernel
  · split <;> decide +kernel
theorem service_valid (n : Int) : nameS (serviceN n) = true ∧ instS (serviceI n) = true := by
  unfold serviceN serviceI
  split
  · decide +kernel
  · split <;> decide +kernel
theorem name_len {s : List UInt8} (h : nameS s = true) : s.length ≤ 39 := by
  unfold nameS at h
  simp only [Bool.and_eq_true, decide_eq_true_eq] at h
  exact h.2.1
theorem inst_len {s : List UInt8} (h : instS s = true) : s.length ≤ 39 := by
  unfold instS at h
  simp only [Bool.and_eq_true, decide_eq_true_eq] at h
  exact h.1
theorem realm_len {s : List UInt8} (h : realmS s = true) : s.length ≤ 39 := by
  unfold realmS at h
  simp only [Bool.and_eq_true] at h
  exact inst_len h.2
theorem valid_len {x y z : List UInt8} (h : validS x y z = true) : x.length ≤ 39 ∧ y.length ≤ 39 ∧ z.length ≤ 39 := by
  unfold validS at h
  simp only [Bool.and_eq_true] at h
  exact ⟨name_len h.1, inst_len h.2.1, realm_len h.2.2⟩

theorem put_u8 (b : List UInt8) (k : Nat) (x : UInt8) (h : k < b.length) : putAt (b.map u8) k [L.i .u8 (x.toNat : Int)] = (b.set k x).map u8 := by
  unfold putAt
  rw [List.set_eq_take_append_cons_drop, if_pos h]
  simp [List.map_take, List.map_drop, u8]
theorem bitK_byte {op : BinOp} {a b : Int} {K : Int → Prop} (hk : K ((byteOf (bitN op .u8 a b)).toNat : Int)) : bitK op .u8 a b K := ⟨by rw [← byteOf_toNat]; exact hk⟩
theorem shlK_byte {a b : Int} {K : Int → Prop} (h : 0 ≤ b) (hk : K ((byteOf (a * 2 ^ (min b.toNat IntKind.u8.bits))).toNat : Int)) : shlK .u8 a b K := ⟨h, by rw [← byteOf_toNat]; exact hk⟩
theorem remK_at {a b : Int} (c : Int) {K : Int → Prop} (e : b = c) (h : 0 ≤ a ∧ 0 < c) (hk : K (a % c)) : remK a b K := by
  subst e
  exact remK_pos h hk
end Go.Sx

/-
  What was written is read as it was: plain functions, for every input.
-/
namespace Go.Sx

theorem byteOf_val (n : Int) : ((byteOf n).toNat : Int) = n % 256 := by
  rw [byteOf_toNat]
  simp [IntKind.wrap, IntKind.bits, IntKind.signed]
theorem digit_val (n : Int) (i : Nat) : ((digit n i).toNat : Int) = n / 256 ^ i % 256 := by
  rw [digit, byteOf_val, Int.fdiv_eq_ediv_of_nonneg _ (by exact Int.pow_nonneg (by omega))]
theorem mid_getD {p d r : List UInt8} {k : Int} {i : Nat} (hk : k = p.length) (hi : i < d.length) : (p ++ d ++ r).getD (k + (i : Int)).toNat 0 = d.getD i 0 := by
  subst hk
  rw [show ((p.length : Int) + (i : Int)).toNat = p.length + i by omega, List.append_assoc, List.getD_eq_getElem?_getD, List.getD_eq_getElem?_getD, List.getElem?_append_right (by omega), List.getElem?_append_left (by omega)]
  congr 2
  omega
theorem getV_mid {l : Bool} {size : Nat} {p d r : List UInt8} {k : Int} (hk : k = p.length) (hd : d.length = size) : getV l size (p ++ d ++ r) k =
    (List.range size).foldl (fun n i => n * 256 + ((d.getD (if l then size - 1 - i else i) 0).toNat : Int)) 0 := by
  unfold getV
  have key : ∀ (q : List Nat) (a : Int), (∀ i ∈ q, i < size) →
      q.foldl (fun n i => n * 256 + (((p ++ d ++ r).getD (k + ((if l then size - 1 - i else i : Nat) : Int)).toNat 0).toNat : Int)) a =
      q.foldl (fun n i => n * 256 + ((d.getD (if l then size - 1 - i else i) 0).toNat : Int)) a := by
    intro q
    induction q with
    | nil => intro a _; rfl
    | cons x q ih =>
      intro a hq
      have hx := hq x (by simp)
      simp only [List.foldl_cons]
      rw [mid_getD hk (by split <;> omega)]
      exact ih _ (fun i hi => hq i (by simp [hi]))
  exact key _ _ (fun i hi => by simpa using hi)
theorem num4 (l : Bool) (n : Int) (h : 0 ≤ n ∧ n ≤ 4294967295) : (List.range 4).foldl (fun m i => m * 256 + (((numS l 4 n).getD (if l then 4 - 1 - i else i) 0).toNat : Int)) 0 = n := by
  have d0 := digit_val n 0
  have d1 := digit_val n 1
  have d2 := digit_val n 2
  have d3 := digit_val n 3
  cases l
  · simp [numS, List.range, List.range.loop] at *
    omega
  · simp [numS, List.range, List.range.loop] at *
    omega
theorem num2 (l : Bool) (n : Int) (h : 0 ≤ n ∧ n ≤ 65535) : (List.range 2).foldl (fun m i => m * 256 + (((numS l 2 n).getD (if l then 2 - 1 - i else i) 0).toNat : Int)) 0 = n := by
  have d0 := digit_val n 0
  have d1 := digit_val n 1
  cases l
  · simp [numS, List.range, List.range.loop] at *
    omega
  · simp [numS, List.range, List.range.loop] at *
    omega
theorem num1 (l : Bool) (n : Int) (h : 0 ≤ n ∧ n ≤ 255) : (List.range 1).foldl (fun m i => m * 256 + (((numS l 1 n).getD (if l then 1 - 1 - i else i) 0).toNat : Int)) 0 = n := by
  have d0 := digit_val n 0
  cases l
  · simp [numS, List.range, List.range.loop] at *
    omega
  · simp [numS, List.range, List.range.loop] at *
    omega
theorem getS4_at {l : Bool} {b p r : List UInt8} {n k : Int} (hb : b = p ++ numS l 4 n ++ r) (hk : k = p.length) (hn : 0 ≤ n ∧ n ≤ 4294967295) : getS l 4 b k = (n, k + 4, 0) := by
  subst hb
  rw [getS_ok (roomS_0 (by omega) (by simp; omega) (by omega) (by simp; omega)), getV_mid hk (by simp), num4 l n hn]
  rfl
theorem getS2_at {l : Bool} {b p r : List UInt8} {n k : Int} (hb : b = p ++ numS l 2 n ++ r) (hk : k = p.length) (hn : 0 ≤ n ∧ n ≤ 65535) : getS l 2 b k = (n, k + 2, 0) := by
  subst hb
  rw [getS_ok (roomS_0 (by omega) (by simp; omega) (by omega) (by simp; omega)), getV_mid hk (by simp), num2 l n hn]
  rfl
theorem getS1_at {l : Bool} {b p r : List UInt8} {n k : Int} (hb : b = p ++ numS l 1 n ++ r) (hk : k = p.length) (hn : 0 ≤ n ∧ n ≤ 255) : getS l 1 b k = (n, k + 1, 0) := by
  subst hb
  rw [getS_ok (roomS_0 (by omega) (by simp; omega) (by omega) (by simp; omega)), getV_mid hk (by simp), num1 l n hn]
  rfl
theorem bytesS_at {b p d r : List UInt8} {k n : Int} (hb : b = p ++ d ++ r) (hk : k = p.length) (hn : n = d.length) : bytesS b k n = (d, k + n, 0) := by
  subst hb; subst hk; subst hn
  rw [bytesS_ok (roomS_0 (by omega) (by simp; omega) (by omega) (by simp; omega))]
  congr 1
  rw [show ((p.length : Int) + (d.length : Int)).toNat = (p ++ d).length by simp; omega, List.take_left, Int.toNat_natCast, List.drop_left]
theorem textS_at {b p s r : List UInt8} {k : Int} (hb : b = p ++ (s ++ [0]) ++ r) (hk : k = p.length) (hs : s.length ≤ 39) (hz : 0 ∉ s) : textS b k = (s, k + s.length + 1, 0) := by
  have hr : roomS b.length k 0 = 0 := by subst hb; exact roomS_0 (by omega) (by simp; omega) (by omega) (by simp; omega)
  have hrest : restS b k = s ++ 0 :: (r.take (39 - s.length)) := by
    subst hb; subst hk
    rw [restS, Int.toNat_natCast, List.append_assoc, List.drop_left, List.append_assoc, List.take_append, List.take_of_length_le (by omega)]
    congr 1
    rw [show 40 - s.length = (39 - s.length) + 1 by omega]
    rfl
  have hi := indexByte_mid s (r.take (39 - s.length)) 0 hz
  rw [textS_yes hr hrest (by omega), hi, Int.toNat_natCast, List.take_left]
def prinS (b : List UInt8) (k : Int) : (List UInt8 × List UInt8 × List UInt8) × Int × Int :=
  if (textS b k).2.2 ≠ 0 then (([], [], []), 0, (textS b k).2.2) else
  if (textS b (textS b k).2.1).2.2 ≠ 0 then (([], [], []), 0, (textS b (textS b k).2.1).2.2) else
  if (textS b (textS b (textS b k).2.1).2.1).2.2 ≠ 0 then (([], [], []), 0, (textS b (textS b (textS b k).2.1).2.1).2.2) else
  if validS (textS b k).1 (textS b (textS b k).2.1).1 (textS b (textS b (textS b k).2.1).2.1).1 = true then
    (((textS b k).1, (textS b (textS b k).2.1).1, (textS b (textS b (textS b k).2.1).2.1).1), (textS b (textS b (textS b k).2.1).2.1).2.1, 0)
  else (([], [], []), 0, 103)
theorem prinS_1 {b : List UInt8} {k : Int} (h : ¬ (textS b k).2.2 = 0) : prinS b k = (([], [], []), 0, (textS b k).2.2) := by rw [prinS, if_pos h]
theorem prinS_2 {b : List UInt8} {k : Int} (h : (textS b k).2.2 = 0) (h2 : ¬ (textS b (textS b k).2.1).2.2 = 0) : prinS b k = (([], [], []), 0, (textS b (textS b k).2.1).2.2) := by rw [prinS, if_neg (by simp [h]), if_pos h2]
theorem prinS_3 {b : List UInt8} {k : Int} (h : (textS b k).2.2 = 0) (h2 : (textS b (textS b k).2.1).2.2 = 0) (h3 : ¬ (textS b (textS b (textS b k).2.1).2.1).2.2 = 0) : prinS b k = (([], [], []), 0, (textS b (textS b (textS b k).2.1).2.1).2.2) := by
  rw [prinS, if_neg (by simp [h]), if_neg (by simp [h2]), if_pos h3]
theorem prinS_4 {b : List UInt8} {k : Int} (h : (textS b k).2.2 = 0) (h2 : (textS b (textS b k).2.1).2.2 = 0) (h3 : (textS b (textS b (textS b k).2.1).2.1).2.2 = 0) (hv : validS (textS b k).1 (textS b (textS b k).2.1).1 (textS b (textS b (textS b k).2.1).2.1).1 = false) : prinS b k = (([], [], []), 0, 103) := by
  rw [prinS, if_neg (by simp [h]), if_neg (by simp [h2]), if_neg (by simp [h3]), if_neg (by simp [hv])]
theorem prinS_5 {b : List UInt8} {k : Int} (h : (textS b k).2.2 = 0) (h2 : (textS b (textS b k).2.1).2.2 = 0) (h3 : (textS b (textS b (textS b k).2.1).2.1).2.2 = 0) (hv : validS (textS b k).1 (textS b (textS b k).2.1).1 (textS b (textS b (textS b k).2.1).2.1).1 = true) : prinS b k = (((textS b k).1, (textS b (textS b k).2.1).1, (textS b (textS b (textS b k).2.1).2.1).1), (textS b (textS b (textS b k).2.1).2.1).2.1, 0) := by
  rw [prinS, if_neg (by simp [h]), if_neg (by simp [h2]), if_neg (by simp [h3]), if_pos hv]
theorem text_next (b : List UInt8) (k : Int) : 0 ≤ (textS b k).2.1 ∧ (textS b k).2.1 ≤ b.length := by
  unfold textS
  split
  · simp
  · rename_i h
    have hr := roomS_ok (Decidable.not_not.mp h)
    split
    · have hi := indexByte_bounds (restS b k) 0
      have hl := rest_len (b := b) (k := k) (by omega)
      simp only
      omega
    · split <;> simp
theorem text_len (b : List UInt8) (k : Int) : (textS b k).1.length ≤ 40 := by
  unfold textS
  split
  · simp
  · split
    · simp [restS]; omega
    · split <;> simp
theorem get_next (l : Bool) (s : Nat) (b : List UInt8) (k : Int) : 0 ≤ (getS l s b k).2.1 ∧ (getS l s b k).2.1 ≤ b.length := by
  unfold getS
  split
  · simp
  · rename_i h
    have hr := roomS_ok (Decidable.not_not.mp h)
    simp only
    omega
theorem bytes_next (b : List UInt8) (k n : Int) : 0 ≤ (bytesS b k n).2.1 ∧ (bytesS b k n).2.1 ≤ b.length := by
  unfold bytesS
  split
  · simp
  · rename_i h
    have hr := roomS_ok (Decidable.not_not.mp h)
    simp only
    omega
theorem prin_next (b : List UInt8) (k : Int) : 0 ≤ (prinS b k).2.1 ∧ (prinS b k).2.1 ≤ b.length := by
  have h := text_next b (textS b (textS b k).2.1).2.1
  unfold prinS
  split
  · simp
  · split
    · simp
    · split
      · simp
      · split
        · simp only; omega
        · simp
theorem prin_len (b : List UInt8) (k : Int) : (prinS b k).1.1.length ≤ 40 ∧ (prinS b k).1.2.1.length ≤ 40 ∧ (prinS b k).1.2.2.length ≤ 40 := by
  have h1 := text_len b k
  have h2 := text_len b (textS b k).2.1
  have h3 := text_len b (textS b (textS b k).2.1).2.1
  unfold prinS
  split
  · simp
  · split
    · simp
    · split
      · simp
      · split
        · exact ⟨h1, h2, h3⟩
        · simp
theorem print_nz {s w : List UInt8} (h : printS s w = true) : 0 ∉ s := by
  intro hm
  have := List.all_eq_true.mp h 0 hm
  unfold okB at this
  simp at this
theorem name_nz {s : List UInt8} (h : nameS s = true) : 0 ∉ s := by
  unfold nameS at h
  simp only [Bool.and_eq_true] at h
  exact print_nz h.2.2
theorem inst_nz {s : List UInt8} (h : instS s = true) : 0 ∉ s := by
  unfold instS at h
  simp only [Bool.and_eq_true] at h
  exact print_nz h.2
theorem realm_nz {s : List UInt8} (h : realmS s = true) : 0 ∉ s := by
  unfold realmS at h
  simp only [Bool.and_eq_true] at h
  exact inst_nz h.2
theorem valid_nz {x y z : List UInt8} (h : validS x y z = true) : 0 ∉ x ∧ 0 ∉ y ∧ 0 ∉ z := by
  unfold validS at h
  simp only [Bool.and_eq_true] at h
  exact ⟨name_nz h.1, inst_nz h.2.1, realm_nz h.2.2⟩
/-- three texts that stand in some bytes -/
theorem prin_texts {b p x y z r : List UInt8} {k : Int} (hb : b = p ++ (x ++ [0] ++ y ++ [0] ++ z ++ [0]) ++ r) (hk : k = p.length) (hv : validS x y z = true) :
    textS b k = (x, k + x.length + 1, 0) ∧ textS b (k + x.length + 1) = (y, k + x.length + 1 + y.length + 1, 0) ∧ textS b (k + x.length + 1 + y.length + 1) = (z, k + x.length + 1 + y.length + 1 + z.length + 1, 0) := by
  obtain ⟨l1, l2, l3⟩ := valid_len hv
  obtain ⟨n1, n2, n3⟩ := valid_nz hv
  exact ⟨textS_at (p := p) (r := y ++ [0] ++ z ++ [0] ++ r) (by rw [hb]; simp) hk l1 n1,
    textS_at (p := p ++ x ++ [0]) (r := z ++ [0] ++ r) (by rw [hb]; simp) (by simp; omega) l2 n2,
    textS_at (p := p ++ x ++ [0] ++ y ++ [0]) (r := r) (by rw [hb]; simp) (by simp; omega) l3 n3⟩
theorem prinS_at {b p x y z r : List UInt8} {k : Int} (hb : b = p ++ (x ++ [0] ++ y ++ [0] ++ z ++ [0]) ++ r) (hk : k = p.length) (hv : validS x y z = true) :
    prinS b k = ((x, y, z), k + x.length + 1 + y.length + 1 + z.length + 1, 0) := by
  obtain ⟨h1, h2, h3⟩ := prin_texts hb hk hv
  rw [prinS_5] <;> simp [h1, h2, h3, hv]

/-- the reader of the document's answer: where it stands, and whether it is bad -/
def mvA (k : Int) (bad : Bool) (next e : Int) : Int := if bad = true ∨ e ≠ 0 then k else next
def mvB (bad : Bool) (e : Int) : Bool := bad || decide (e ≠ 0)
@[simp] theorem mvA_ok (k n : Int) : mvA k false n 0 = n := by simp [mvA]
@[simp] theorem mvB_ok : mvB false 0 = false := by simp [mvB]
theorem mvA_bounds {k n e m : Int} {bad : Bool} (h1 : 0 ≤ k ∧ k ≤ m) (h2 : 0 ≤ n ∧ n ≤ m) : 0 ≤ mvA k bad n e ∧ mvA k bad n e ≤ m := by
  unfold mvA
  split <;> omega
end Go.Sx

/-
  What authenticators are, as plain functions: for every input.
-/
namespace Go.Sx

def ordN (l : Bool) : Int := if l then 1 else 0
end Go.Sx

/-
  What keys are, as plain functions: for every input.
-/
namespace Go.Sx

def keyTop (k : Int) : Int := k / 72057594037927936
def keyLow (k : Int) : Int := k % 72057594037927936
def keyOk (k : Int) : Bool := decide ((keyTop k = 1 ∨ keyTop k = 2) ∧ 1 ≤ keyLow k ∧ keyLow k ≤ 4294967295)
def classS (k : Int) : Int := if keyOk k = true then keyTop k else 0
def serialS (k : Int) : Int := if keyOk k = true then keyLow k else 0
theorem keyOk_yes {k : Int} (h : (keyTop k = 1 ∨ keyTop k = 2) ∧ 1 ≤ keyLow k ∧ keyLow k ≤ 4294967295) : keyOk k = true := decide_eq_true h
theorem keyOk_is {k : Int} (h : keyOk k = true) : (keyTop k = 1 ∨ keyTop k = 2) ∧ 1 ≤ keyLow k ∧ keyLow k ≤ 4294967295 := of_decide_eq_true h
theorem key_parts (k : Int) : k = keyTop k * 72057594037927936 + keyLow k ∧ 0 ≤ keyLow k ∧ keyLow k < 72057594037927936 := by
  unfold keyTop keyLow
  omega
theorem top_bounds {k : Int} (h : 0 ≤ k ∧ k ≤ 18446744073709551615) : 0 ≤ keyTop k ∧ keyTop k ≤ 255 := by
  unfold keyTop
  omega

theorem shrK_56 {k b : Int} {K : Int → Prop} (h : b = 56) (hk : K (keyTop k)) : shrK .u64 k b K := by
  subst h
  refine shrK_intro (m := 72057594037927936) (by omega) rfl ?_
  rw [Int.fdiv_eq_ediv_of_nonneg _ (by omega)]
  exact hk
theorem bitN_and56 {k : Int} (h : 0 ≤ k ∧ k ≤ 18446744073709551615) : bitN .and .u64 k 72057594037927935 = keyLow k := by
  obtain ⟨n, rfl⟩ := Int.eq_ofNat_of_zero_le h.1
  unfold bitN
  show ((BitVec.ofInt 64 (n : Int) &&& BitVec.ofInt 64 72057594037927935).toNat : Int) = _
  rw [BitVec.ofInt_natCast, BitVec.toNat_and, BitVec.toNat_ofNat, Nat.mod_eq_of_lt (by omega)]
  have h2 : (BitVec.ofInt 64 72057594037927935).toNat = 2 ^ 56 - 1 := by decide
  rw [h2, Nat.and_two_pow_sub_one_eq_mod]
  unfold keyLow
  omega
theorem bitK_and56 {k m : Int} {K : Int → Prop} (h : 0 ≤ k ∧ k ≤ 18446744073709551615) (hm : m = 72057594037927935) (hk : K (keyLow k)) : bitK .and .u64 k m K := by
  subst hm
  have := key_parts k
  exact ⟨by rw [bitN_and56 h, wrap_u64 (by omega)]; exact hk⟩
theorem bitN_or56 {c s : Int} (hc : 0 ≤ c ∧ c ≤ 255) (hs : 0 ≤ s ∧ s < 72057594037927936) : bitN .or .u64 (c * 72057594037927936) s = c * 72057594037927936 + s := by
  obtain ⟨n, rfl⟩ := Int.eq_ofNat_of_zero_le hc.1
  obtain ⟨y, rfl⟩ := Int.eq_ofNat_of_zero_le hs.1
  unfold bitN
  have h1 : ((n : Int) * 72057594037927936) = ((n * 72057594037927936 : Nat) : Int) := by omega
  show ((BitVec.ofInt 64 ((n : Int) * 72057594037927936) ||| BitVec.ofInt 64 (y : Int)).toNat : Int) = _
  rw [h1, BitVec.ofInt_natCast, BitVec.ofInt_natCast, BitVec.toNat_or, BitVec.toNat_ofNat, BitVec.toNat_ofNat, Nat.mod_eq_of_lt (by omega), Nat.mod_eq_of_lt (by omega)]
  have h2 : n * 72057594037927936 ||| y = n * 72057594037927936 + y := by
    have := Nat.two_pow_add_eq_or_of_lt (i := 56) (b := y) (by omega) n
    rw [Nat.mul_comm] at this
    exact this.symm
  rw [h2]
  omega
theorem bitK_or56 {a s : Int} (c : Int) {K : Int → Prop} (ha : a = c * 72057594037927936) (hc : 0 ≤ c ∧ c ≤ 255) (hs : 0 ≤ s ∧ s < 72057594037927936) (hk : K (c * 72057594037927936 + s)) : bitK .or .u64 a s K := by
  subst ha
  exact ⟨by rw [bitN_or56 hc hs, wrap_u64 (by omega)]; exact hk⟩
theorem shlK_56 {c b : Int} {K : Int → Prop} (h : b = 56) (hc : 0 ≤ c ∧ c ≤ 255) (hk : K (c * 72057594037927936)) : shlK .u64 c b K := by
  subst h
  exact shlK_intro (m := c * 72057594037927936) (by omega) rfl (wrapK_u64 (by omega) hk)
theorem shlK_u8 {a b : Int} {K : Int → Prop} (h : b = 8) (hr : 0 ≤ a ∧ a ≤ 72057594037927935) (hc : K (a * 256)) : shlK .u64 a b K := by
  subst h
  exact shlK_intro (m := a * 256) (by omega) rfl (wrapK_u64 (by omega) hc)
theorem bitN_or64 {a x : Int} (ha : 0 ≤ a ∧ a ≤ 72057594037927935) (hx : 0 ≤ x ∧ x ≤ 255) : bitN .or .u64 (a * 256) x = a * 256 + x := by
  obtain ⟨n, rfl⟩ := Int.eq_ofNat_of_zero_le ha.1
  obtain ⟨y, rfl⟩ := Int.eq_ofNat_of_zero_le hx.1
  unfold bitN
  have h1 : ((n : Int) * 256) = ((n * 256 : Nat) : Int) := by omega
  show ((BitVec.ofInt 64 ((n : Int) * 256) ||| BitVec.ofInt 64 (y : Int)).toNat : Int) = _
  rw [h1, BitVec.ofInt_natCast, BitVec.ofInt_natCast, BitVec.toNat_or, BitVec.toNat_ofNat, BitVec.toNat_ofNat, Nat.mod_eq_of_lt (by omega), Nat.mod_eq_of_lt (by omega)]
  have h2 : n * 256 ||| y = n * 256 + y := by
    have := Nat.two_pow_add_eq_or_of_lt (i := 8) (b := y) (by omega) n
    rw [Nat.mul_comm] at this
    exact this.symm
  rw [h2]
  omega
theorem bitK_or64 {a x : Int} {K : Int → Prop} (ha : 0 ≤ a ∧ a ≤ 72057594037927935) (hx : 0 ≤ x ∧ x ≤ 255) (hc : K (a * 256 + x)) : bitK .or .u64 (a * 256) x K := ⟨by rw [bitN_or64 ha hx, wrap_u64 (by omega)]; exact hc⟩

/-- a key's eight bytes -/
def keyB (k : Int) : List UInt8 := [digit k 7, digit k 6, digit k 5, digit k 4, digit k 3, digit k 2, digit k 1, digit k 0]
theorem keyB_len (k : Int) : (keyB k).length = 8 := rfl
def keyV (b : List UInt8) : Int := (((((((0 * 256 + ((b.getD 0 0).toNat : Int)) * 256 + ((b.getD 1 0).toNat : Int)) * 256 + ((b.getD 2 0).toNat : Int)) * 256 + ((b.getD 3 0).toNat : Int)) * 256 + ((b.getD 4 0).toNat : Int)) * 256 + ((b.getD 5 0).toNat : Int)) * 256 + ((b.getD 6 0).toNat : Int)) * 256 + ((b.getD 7 0).toNat : Int)
theorem keyV_keyB {k : Int} (h : 0 ≤ k ∧ k ≤ 18446744073709551615) : keyV (keyB k) = k := by
  have d0 := digit_val k 0
  have d1 := digit_val k 1
  have d2 := digit_val k 2
  have d3 := digit_val k 3
  have d4 := digit_val k 4
  have d5 := digit_val k 5
  have d6 := digit_val k 6
  have d7 := digit_val k 7
  simp [keyV, keyB] at *
  omega
theorem keyV_bounds (b : List UInt8) : 0 ≤ keyV b ∧ keyV b ≤ 18446744073709551615 := by
  have h0 := byte_lt (b.getD 0 0)
  have h1 := byte_lt (b.getD 1 0)
  have h2 := byte_lt (b.getD 2 0)
  have h3 := byte_lt (b.getD 3 0)
  have h4 := byte_lt (b.getD 4 0)
  have h5 := byte_lt (b.getD 5 0)
  have h6 := byte_lt (b.getD 6 0)
  have h7 := byte_lt (b.getD 7 0)
  unfold keyV
  omega
def readK (b : List UInt8) : Int × Bool := if b.length = 8 ∧ keyOk (keyV b) = true then (keyV b, true) else (0, false)
theorem readK_ok {b : List UInt8} (h1 : b.length = 8) (h2 : keyOk (keyV b) = true) : readK b = (keyV b, true) := by rw [readK, if_pos ⟨h1, h2⟩]
theorem readK_no {b : List UInt8} (h : ¬ b.length = 8 ∨ keyOk (keyV b) = false) : readK b = (0, false) := by
  rw [readK, if_neg (fun hh => by rcases h with h | h; exact h hh.1; rw [h] at hh; exact absurd hh.2 (by simp))]
theorem readK_key {k : Int} (h : 0 ≤ k ∧ k ≤ 18446744073709551615) (hk : keyOk k = true) : readK (keyB k) = (k, true) := by
  rw [readK_ok rfl (by rw [keyV_keyB h]; exact hk), keyV_keyB h]
theorem readK_bounds (b : List UInt8) : 0 ≤ (readK b).1 ∧ (readK b).1 ≤ 18446744073709551615 := by
  have := keyV_bounds b
  unfold readK
  split
  · exact this
  · simp
def makeK (c s : Int) : Int := if (c = 1 ∨ c = 2) ∧ 1 ≤ s ∧ s ≤ 4294967295 then c * 72057594037927936 + s else 0
theorem makeK_key {k : Int} (h : keyOk k = true) : makeK (keyTop k) (keyLow k) = k := by
  have h1 := keyOk_is h
  have h2 := key_parts k
  rw [makeK, if_pos h1]
  omega
theorem makeK_not {k : Int} (hk : ¬ k = 0) (h : keyOk k = false) : ¬ makeK (keyTop k) (keyLow k) = k := by
  have h1 : ¬ ((keyTop k = 1 ∨ keyTop k = 2) ∧ 1 ≤ keyLow k ∧ keyLow k ≤ 4294967295) := of_decide_eq_false h
  rw [makeK, if_neg h1]
  omega
def sessN (n : Int) : Int := 144115188075855872 + (1 + n)
def longK (n : Int) : Int := 72057594037927936 + (1 + n)
theorem long_ok {n : Int} (h : 0 ≤ n ∧ n ≤ 1000000) : keyOk (longK n) = true ∧ keyTop (longK n) = 1 ∧ classS (longK n) = 1 := by
  have h1 : keyTop (longK n) = 1 := by unfold keyTop longK; omega
  have h2 : keyOk (longK n) = true := keyOk_yes ⟨.inl h1, by unfold keyLow longK; omega, by unfold keyLow longK; omega⟩
  exact ⟨h2, h1, by rw [classS, if_pos h2, h1]⟩
end Go.Sx

/-
  What tickets are, as plain functions: for every input.
-/
namespace Go.Sx

def tickR (ad lf is : Int) : Prop := (0 ≤ ad ∧ ad ≤ 4294967295) ∧ (0 ≤ lf ∧ lf ≤ 255) ∧ (0 ≤ is ∧ is ≤ 4294967295)
instance (ad lf is : Int) : Decidable (tickR ad lf is) := by unfold tickR; infer_instance
def tickC (x y z : List UInt8) (ad se lf is : Int) (sn si : List UInt8) : Int :=
  if validS x y z = true ∧ nameS sn = true ∧ instS si = true then (if classS se = 2 then (if tickR ad lf is then 0 else 104) else 10) else 103
theorem tickC_3 {x y z : List UInt8} {ad se lf is : Int} {sn si : List UInt8} (h : validS x y z = false ∨ nameS sn = false ∨ instS si = false) : tickC x y z ad se lf is sn si = 103 := by
  rw [tickC, if_neg]
  rintro ⟨h1, h2, h3⟩
  rcases h with h | h | h
  · rw [h] at h1; cases h1
  · rw [h] at h2; cases h2
  · rw [h] at h3; cases h3
theorem tickC_10 {x y z : List UInt8} {ad se lf is : Int} {sn si : List UInt8} (h1 : validS x y z = true) (h2 : nameS sn = true) (h3 : instS si = true) (h : ¬ classS se = 2) : tickC x y z ad se lf is sn si = 10 := by
  rw [tickC, if_pos ⟨h1, h2, h3⟩, if_neg h]
theorem tickC_4 {x y z : List UInt8} {ad se lf is : Int} {sn si : List UInt8} (h1 : validS x y z = true) (h2 : nameS sn = true) (h3 : instS si = true) (h : classS se = 2) (hr : ¬ ((0 ≤ ad ∧ ad ≤ 4294967295) ∧ (0 ≤ lf ∧ lf ≤ 255) ∧ (0 ≤ is ∧ is ≤ 4294967295))) : tickC x y z ad se lf is sn si = 104 := by
  rw [tickC, if_pos ⟨h1, h2, h3⟩, if_pos h, if_neg (show ¬ tickR ad lf is from hr)]
theorem tickC_0 {x y z : List UInt8} {ad se lf is : Int} {sn si : List UInt8} (h1 : validS x y z = true) (h2 : nameS sn = true) (h3 : instS si = true) (h : classS se = 2) (ha : 0 ≤ ad ∧ ad ≤ 4294967295) (hl : 0 ≤ lf ∧ lf ≤ 255) (hi : 0 ≤ is ∧ is ≤ 4294967295) : tickC x y z ad se lf is sn si = 0 := by
  rw [tickC, if_pos ⟨h1, h2, h3⟩, if_pos h, if_pos (show tickR ad lf is from ⟨ha, hl, hi⟩)]
theorem tickC_ok {x y z : List UInt8} {ad se lf is : Int} {sn si : List UInt8} (h : tickC x y z ad se lf is sn si = 0) : validS x y z = true ∧ nameS sn = true ∧ instS si = true ∧ classS se = 2 ∧ (0 ≤ ad ∧ ad ≤ 4294967295) ∧ (0 ≤ lf ∧ lf ≤ 255) ∧ (0 ≤ is ∧ is ≤ 4294967295) := by
  unfold tickC at h
  split at h
  · rename_i hv
    split at h
    · rename_i hc
      split at h
      · rename_i hr; exact ⟨hv.1, hv.2.1, hv.2.2, hc, hr⟩
      · cases h
    · cases h
  · cases h
def tickB (li : Bool) (x y z : List UInt8) (ad se lf is : Int) (sn si : List UInt8) : List UInt8 := [] ++ numS false 1 (ordN li) ++ x ++ [0] ++ y ++ [0] ++ z ++ [0] ++ numS li 4 ad ++ keyB se ++ numS false 1 lf ++ numS li 4 is ++ sn ++ [0] ++ si ++ [0]
def tickE (li : Bool) (x y z : List UInt8) (ad se lf is : Int) (sn si : List UInt8) : List UInt8 := padS (tickB li x y z ad se lf is sn si)
theorem tickB_len (li : Bool) (x y z : List UInt8) (ad se lf is : Int) (sn si : List UInt8) : (tickB li x y z ad se lf is sn si).length = 0 + 1 + x.length + 1 + y.length + 1 + z.length + 1 + 4 + 8 + 1 + 4 + sn.length + 1 + si.length + 1 := by simp [tickB, keyB_len]; omega
def tickN (li : Bool) (x y z : List UInt8) (ad se lf is : Int) (sn si : List UInt8) : List UInt8 × Int := if tickC x y z ad se lf is sn si = 0 then (tickE li x y z ad se lf is sn si, 0) else ([], tickC x y z ad se lf is sn si)
theorem tickN_ok {li : Bool} {x y z : List UInt8} {ad se lf is : Int} {sn si : List UInt8} (h : tickC x y z ad se lf is sn si = 0) : tickN li x y z ad se lf is sn si = (tickE li x y z ad se lf is sn si, 0) := by rw [tickN, if_pos h]
theorem tickN_no {li : Bool} {x y z : List UInt8} {ad se lf is : Int} {sn si : List UInt8} (h : ¬ tickC x y z ad se lf is sn si = 0) : tickN li x y z ad se lf is sn si = ([], tickC x y z ad se lf is sn si) := by rw [tickN, if_neg h]
theorem tickE_len {li : Bool} {x y z : List UInt8} {ad se lf is : Int} {sn si : List UInt8} (hv : tickC x y z ad se lf is sn si = 0) : 0 < (tickE li x y z ad se lf is sn si).length ∧ (tickE li x y z ad se lf is sn si).length ≤ 224 := by
  obtain ⟨h1, h2, h3, _⟩ := tickC_ok hv
  have h := valid_len h1
  have h4 := name_len h2
  have h5 := inst_len h3
  have hp : padN (tickB li x y z ad se lf is sn si).length = (8 - (tickB li x y z ad se lf is sn si).length % 8) % 8 := rfl
  rw [tickE, padS_len]
  rw [tickB_len] at hp ⊢
  omega
/-- what the program reads -/
def uO (b : List UInt8) := getS false 1 b 0
def uB (b : List UInt8) : Bool := (uO b).1 == 1
def uP (b : List UInt8) := prinS b (uO b).2.1
def uA (b : List UInt8) := getS (uB b) 4 b (uP b).2.1
def uK (b : List UInt8) := bytesS b (uA b).2.1 8
def uS (b : List UInt8) := readK (uK b).1
def uL (b : List UInt8) := getS false 1 b (uK b).2.1
def uI (b : List UInt8) := getS (uB b) 4 b (uL b).2.1
def uN (b : List UInt8) := textS b (uI b).2.1
abbrev TickT := Bool × List UInt8 × List UInt8 × List UInt8 × Int × Int × Int × Int × List UInt8 × List UInt8
def tick0 : TickT := (false, [], [], [], 0, 0, 0, 0, [], [])
end Go.Sx

/-
  What the headers of messages are, as plain functions: for every input.
-/
namespace Go.Sx

def putS (k : Int) (l : Bool) : List UInt8 := if 1 ≤ k ∧ k ≤ 10 then [4, byteOf (2 * k + if l then 1 else 0)] else []
theorem putS_yes {k : Int} {l : Bool} (h1 : 1 ≤ k) (h2 : k ≤ 10) : putS k l = [4, byteOf (2 * k + if l then 1 else 0)] := by simp [putS, h1, h2]
theorem putS_no {k : Int} {l : Bool} (h : ¬ (1 ≤ k ∧ k ≤ 10)) : putS k l = [] := by simp [putS, h]
def readS (b : List UInt8) : Int × Bool × Int :=
  if b.length < 2 then (0, false, 101) else
  if (b.getD 0 0).toNat ≠ 4 then (0, false, 39) else
  if 1 ≤ (b.getD 1 0).toNat / 2 ∧ (b.getD 1 0).toNat / 2 ≤ 10 then (((b.getD 1 0).toNat : Int) / 2, ((b.getD 1 0).toNat : Int) % 2 == 1, 0) else (0, false, 40)

/-- which of some types a message has -/
def isS (b : List UInt8) (ks : List Int) : Bool × Int :=
  if (readS b).2.2 ≠ 0 then (false, (readS b).2.2) else if (readS b).1 ∈ ks then ((readS b).2.1, 0) else (false, 40)

end Go.Sx

/-
  What stands in some bytes from an index on, and what is read there: plain functions, for every input.
-/
namespace Go.Sx
/-- the bytes from K on -/
def Sfx (b : List UInt8) (K : Int) (r : List UInt8) : Prop := ∃ p, b = p ++ r ∧ K = p.length
theorem sfx_0 (b : List UInt8) : Sfx b 0 b := ⟨[], rfl, rfl⟩
theorem sfx_of {b p r : List UInt8} {K : Int} (h : b = p ++ r) (hK : K = p.length) : Sfx b K r := ⟨p, h, hK⟩
theorem sfx_bytes {b d r : List UInt8} {K n : Int} (h : Sfx b K (d ++ r)) (hn : n = d.length) : ∃ K', bytesS b K n = (d, K', 0) ∧ Sfx b K' r := by
  obtain ⟨p, h1, h2⟩ := h
  exact ⟨K + n, bytesS_at (p := p) (r := r) (by rw [h1]; simp) h2 hn, p ++ d, by rw [h1]; simp, by simp; omega⟩
theorem sfx_num4 {l : Bool} {b r : List UInt8} {K n : Int} (h : Sfx b K (numS l 4 n ++ r)) (hn : 0 ≤ n ∧ n ≤ 4294967295) : ∃ K', getS l 4 b K = (n, K', 0) ∧ Sfx b K' r := by
  obtain ⟨p, h1, h2⟩ := h
  exact ⟨K + 4, getS4_at (p := p) (r := r) (by rw [h1]; simp) h2 hn, p ++ numS l 4 n, by rw [h1]; simp, by simp; omega⟩
theorem sfx_num2 {l : Bool} {b r : List UInt8} {K n : Int} (h : Sfx b K (numS l 2 n ++ r)) (hn : 0 ≤ n ∧ n ≤ 65535) : ∃ K', getS l 2 b K = (n, K', 0) ∧ Sfx b K' r := by
  obtain ⟨p, h1, h2⟩ := h
  exact ⟨K + 2, getS2_at (p := p) (r := r) (by rw [h1]; simp) h2 hn, p ++ numS l 2 n, by rw [h1]; simp, by simp; omega⟩
theorem sfx_num1 {l : Bool} {b r : List UInt8} {K n : Int} (h : Sfx b K (numS l 1 n ++ r)) (hn : 0 ≤ n ∧ n ≤ 255) : ∃ K', getS l 1 b K = (n, K', 0) ∧ Sfx b K' r := by
  obtain ⟨p, h1, h2⟩ := h
  exact ⟨K + 1, getS1_at (p := p) (r := r) (by rw [h1]; simp) h2 hn, p ++ numS l 1 n, by rw [h1]; simp, by simp; omega⟩
theorem sfx_text {b s r : List UInt8} {K : Int} (h : Sfx b K (s ++ ([0] ++ r))) (hs : s.length ≤ 39) (hz : 0 ∉ s) : ∃ K', textS b K = (s, K', 0) ∧ Sfx b K' r := by
  obtain ⟨p, h1, h2⟩ := h
  exact ⟨K + s.length + 1, textS_at (p := p) (r := r) (by rw [h1]; simp) h2 hs hz, p ++ s ++ [0], by rw [h1]; simp, by simp; omega⟩
theorem sfx_prin {b x y z r : List UInt8} {K : Int} (h : Sfx b K (x ++ ([0] ++ (y ++ ([0] ++ (z ++ ([0] ++ r))))))) (hv : validS x y z = true) : ∃ K', prinS b K = ((x, y, z), K', 0) ∧ Sfx b K' r := by
  obtain ⟨p, h1, h2⟩ := h
  exact ⟨K + x.length + 1 + y.length + 1 + z.length + 1, prinS_at (p := p) (r := r) (by rw [h1]; simp) h2 hv, p ++ x ++ [0] ++ y ++ [0] ++ z ++ [0], by rw [h1]; simp, by simp; omega⟩
theorem sfx_texts {b x y z r : List UInt8} {K : Int} (h : Sfx b K (x ++ ([0] ++ (y ++ ([0] ++ (z ++ ([0] ++ r))))))) (hv : validS x y z = true) : ∃ K1 K2 K', textS b K = (x, K1, 0) ∧ textS b K1 = (y, K2, 0) ∧ textS b K2 = (z, K', 0) ∧ prinS b K = ((x, y, z), K', 0) ∧ Sfx b K' r := by
  obtain ⟨l1, l2, l3⟩ := valid_len hv
  obtain ⟨n1, n2, n3⟩ := valid_nz hv
  obtain ⟨K0, e0, _⟩ := sfx_prin h hv
  obtain ⟨K1, e1, h1⟩ := sfx_text h l1 n1
  obtain ⟨K2, e2, h2⟩ := sfx_text h1 l2 n2
  obtain ⟨K3, e3, h3⟩ := sfx_text h2 l3 n3
  have : prinS b K = ((x, y, z), K3, 0) := by rw [prinS_5] <;> simp [e1, e2, e3, hv]
  exact ⟨K1, K2, K3, e1, e2, e3, this, h3⟩
end Go.Sx

/-
  Readers of encodings in general: plain functions, for every input.
-/
namespace Go.Sx
def mvS (s : Int × Bool) (q : Int × Int) : Int × Bool := (mvA s.1 s.2 q.1 q.2, mvB s.2 q.2)
theorem mvS_ok (k n : Int) : mvS (k, false) (n, 0) = (n, false) := by simp [mvS]
theorem mvS_bounds {s : Int × Bool} {q : Int × Int} {c L : Int} (h1 : 0 ≤ s.1 ∧ s.1 ≤ max c L) (h2 : 0 ≤ q.1 ∧ q.1 ≤ L) : 0 ≤ (mvS s q).1 ∧ (mvS s q).1 ≤ max c L := by
  show 0 ≤ mvA _ _ _ _ ∧ mvA _ _ _ _ ≤ _
  unfold mvA
  split <;> omega
theorem boolK_refl {α : Type} [BEq α] [ReflBEq α] {x : α} {A B : Prop} (h : A) : boolK (x == x) A B := ⟨fun _ => h, fun e => by rw [BEq.rfl] at e; cases e⟩
/-- a decoder: what is read, if its encoding is the same bytes -/
def decG {T : Type} (N : T → List UInt8 × Int) (rd : List UInt8 → T) (z : T) (b : List UInt8) : T × Int := if (N (rd b)).2 = 0 ∧ (N (rd b)).1 = b then (rd b, 0) else (z, 100)
section
variable {T : Type} {N : T → List UInt8 × Int} {rd rd' : List UInt8 → T} {bad : List UInt8 → Bool} {z t : T} {b : List UInt8}
theorem decG_yes (h1 : (N (rd b)).2 = 0) (h2 : (N (rd b)).1 = b) : decG N rd z b = (rd b, 0) := by rw [decG, if_pos ⟨h1, h2⟩]
theorem decG_trip (hr : N t = (b, 0) → rd b = t) (h : N t = (b, 0)) : decG N rd z b = (t, 0) := by
  have e := hr h
  rw [decG_yes (by rw [e, h]) (by rw [e, h]), e]
theorem pair_of {x : List UInt8 × Int} (h1 : x.2 = 0) (h2 : x.1 = b) : x = (b, 0) := by cases x; cases h1; cases h2; rfl
theorem decG_is (h : (decG N rd z b).2 = 0) : N (rd b) = (b, 0) ∧ decG N rd z b = (rd b, 0) := by
  unfold decG at h ⊢
  split at h
  · rename_i hh; rw [if_pos hh]; exact ⟨pair_of hh.1 hh.2, rfl⟩
  · cases h
theorem decG_ref (hr : N (rd' b) = (b, 0) → rd b = rd' b) (h1 : (N (rd' b)).2 = 0) (h2 : (N (rd' b)).1 = b) : decG N rd z b = (rd' b, 0) :=
  decG_trip hr (pair_of h1 h2)
theorem decG_bad (hr : N (rd b) = (b, 0) → rd' b = rd b ∧ bad b = false) (h : bad b = true ∨ ¬ (N (rd' b)).2 = 0 ∨ ¬ (N (rd' b)).1 = b) : decG N rd z b = (z, 100) := by
  by_cases hd : (N (rd b)).2 = 0 ∧ (N (rd b)).1 = b
  · exfalso
    have e := pair_of hd.1 hd.2
    obtain ⟨e1, e2⟩ := hr e
    rw [e1, e2, e] at h
    simp at h
  · rw [decG, if_neg hd]
end
end Go.Sx

/-
  Records, parts and messages of version 5, as plain functions: for every input.
-/
set_option linter.all false
namespace Go.Sx
/-- the program's reader: where it stands, and whether it failed -/
def mvF (s : Int × Bool) (q : Int × Int) : Int × Bool := (if q.2 = 0 then q.1 else s.1, s.2 || decide (q.2 ≠ 0))
theorem mvF_ok (k n : Int) : mvF (k, false) (n, 0) = (n, false) := by simp [mvF]
theorem mvF_bounds {s : Int × Bool} {q : Int × Int} {c L : Int} (h1 : 0 ≤ s.1 ∧ s.1 ≤ max c L) (h2 : 0 ≤ q.1 ∧ q.1 ≤ L) : 0 ≤ (mvF s q).1 ∧ (mvF s q).1 ≤ max c L := by
  show 0 ≤ (if q.2 = 0 then q.1 else s.1) ∧ (if q.2 = 0 then q.1 else s.1) ≤ _
  split <;> omega
def kyF (s : Int × Bool) (ok : Bool) : Int × Bool := (s.1, s.2 || !ok)
theorem kyF_ok (k : Int) : kyF (k, false) true = (k, false) := rfl
def u32R (n : Int) : Prop := 0 ≤ n ∧ n ≤ 4294967295
instance (n : Int) : Decidable (u32R n) := by unfold u32R; infer_instance
structure FRec where
  (c1 c2 c3 s1 s2 s3 : List UInt8)
  (k st en ad : Int)
structure FPart where
  (k : Int)
  (s1 s2 s3 : List UInt8)
  (st en : Int)
  (rc : List UInt8)
structure FMsg where
  (op : Int)
  (n1 n2 n3 bx : List UInt8)
def fr0 : FRec := ⟨[], [], [], [], [], [], 0, 0, 0, 0⟩
def fm0 : FMsg := ⟨0, [], [], [], []⟩
def frB (t : FRec) : List UInt8 := [] ++ t.c1 ++ [0] ++ t.c2 ++ [0] ++ t.c3 ++ [0] ++ t.s1 ++ [0] ++ t.s2 ++ [0] ++ t.s3 ++ [0] ++ keyB t.k ++ numS false 4 t.st ++ numS false 4 t.en ++ numS false 4 t.ad
def fmB (t : FMsg) : List UInt8 := [4, 20] ++ numS false 1 t.op ++ t.n1 ++ [0] ++ t.n2 ++ [0] ++ t.n3 ++ [0] ++ numS false 2 (t.bx.length : Int) ++ t.bx
def frN (t : FRec) : List UInt8 × Int := if validS t.c1 t.c2 t.c3 = true ∧ validS t.s1 t.s2 t.s3 = true then (if classS t.k = 2 then (if (u32R t.st ∧ u32R t.en ∧ t.st ≤ t.en) ∧ u32R t.ad then (padS (frB t), 0) else ([], 104)) else ([], 10)) else ([], 103)
def fmN (t : FMsg) : List UInt8 × Int := if t.op = 1 ∨ t.op = 2 ∨ t.op = 3 then (if validS t.n1 t.n2 t.n3 = true then (if t.bx.length ≤ 1012 then (fmB t, 0) else ([], 105)) else ([], 103)) else ([], 40)
section
variable {t : FRec}
theorem frN_103 (h : ¬ (validS t.c1 t.c2 t.c3 = true ∧ validS t.s1 t.s2 t.s3 = true)) : frN t = ([], 103) := by
  rw [frN, if_neg h]
theorem frN_10 (h0 : validS t.c1 t.c2 t.c3 = true ∧ validS t.s1 t.s2 t.s3 = true) (h : ¬ (classS t.k = 2)) : frN t = ([], 10) := by
  rw [frN, if_pos h0, if_neg h]
theorem frN_104 (h0 : validS t.c1 t.c2 t.c3 = true ∧ validS t.s1 t.s2 t.s3 = true) (h1 : classS t.k = 2) (h : ¬ ((u32R t.st ∧ u32R t.en ∧ t.st ≤ t.en) ∧ u32R t.ad)) : frN t = ([], 104) := by
  rw [frN, if_pos h0, if_pos h1, if_neg h]
theorem frN_ok (h0 : validS t.c1 t.c2 t.c3 = true ∧ validS t.s1 t.s2 t.s3 = true) (h1 : classS t.k = 2) (h2 : (u32R t.st ∧ u32R t.en ∧ t.st ≤ t.en) ∧ u32R t.ad) : frN t = (padS (frB t), 0) := by
  rw [frN, if_pos h0, if_pos h1, if_pos h2]
theorem frN_is {b : List UInt8} (h : frN t = (b, 0)) : (validS t.c1 t.c2 t.c3 = true ∧ validS t.s1 t.s2 t.s3 = true) ∧ (classS t.k = 2) ∧ ((u32R t.st ∧ u32R t.en ∧ t.st ≤ t.en) ∧ u32R t.ad) ∧ padS (frB t) = b := by
  by_cases h0 : validS t.c1 t.c2 t.c3 = true ∧ validS t.s1 t.s2 t.s3 = true
  case neg => rw [frN_103 h0] at h; cases h
  by_cases h1 : classS t.k = 2
  case neg => rw [frN_10 h0 h1] at h; cases h
  by_cases h2 : (u32R t.st ∧ u32R t.en ∧ t.st ≤ t.en) ∧ u32R t.ad
  case neg => rw [frN_104 h0 h1 h2] at h; cases h
  rw [frN_ok h0 h1 h2] at h
  cases h
  exact ⟨h0, h1, h2, rfl⟩
end
section
variable {t : FPart}
end
section
variable {t : FMsg}
theorem fmN_40 (h : ¬ (t.op = 1 ∨ t.op = 2 ∨ t.op = 3)) : fmN t = ([], 40) := by
  rw [fmN, if_neg h]
theorem fmN_103 (h0 : t.op = 1 ∨ t.op = 2 ∨ t.op = 3) (h : ¬ (validS t.n1 t.n2 t.n3 = true)) : fmN t = ([], 103) := by
  rw [fmN, if_pos h0, if_neg h]
theorem fmN_105 (h0 : t.op = 1 ∨ t.op = 2 ∨ t.op = 3) (h1 : validS t.n1 t.n2 t.n3 = true) (h : ¬ (t.bx.length ≤ 1012)) : fmN t = ([], 105) := by
  rw [fmN, if_pos h0, if_pos h1, if_neg h]
theorem fmN_ok (h0 : t.op = 1 ∨ t.op = 2 ∨ t.op = 3) (h1 : validS t.n1 t.n2 t.n3 = true) (h2 : t.bx.length ≤ 1012) : fmN t = (fmB t, 0) := by
  rw [fmN, if_pos h0, if_pos h1, if_pos h2]
theorem fmN_is {b : List UInt8} (h : fmN t = (b, 0)) : (t.op = 1 ∨ t.op = 2 ∨ t.op = 3) ∧ (validS t.n1 t.n2 t.n3 = true) ∧ (t.bx.length ≤ 1012) ∧ fmB t = b := by
  by_cases h0 : t.op = 1 ∨ t.op = 2 ∨ t.op = 3
  case neg => rw [fmN_40 h0] at h; cases h
  by_cases h1 : validS t.n1 t.n2 t.n3 = true
  case neg => rw [fmN_103 h0 h1] at h; cases h
  by_cases h2 : t.bx.length ≤ 1012
  case neg => rw [fmN_105 h0 h1 h2] at h; cases h
  rw [fmN_ok h0 h1 h2] at h
  cases h
  exact ⟨h0, h1, h2, rfl⟩
end
def fru0 (b : List UInt8) := prinS b 0
def frp1 (b : List UInt8) : Int × Bool := mvF ((0, false) : Int × Bool) (fru0 b).2
def fru1 (b : List UInt8) := prinS b (frp1 b).1
def frp2 (b : List UInt8) : Int × Bool := mvF (frp1 b) (fru1 b).2
def fru2 (b : List UInt8) := bytesS b (frp2 b).1 8
def frp2k (b : List UInt8) : Int × Bool := mvF (frp2 b) (fru2 b).2
def frp3 (b : List UInt8) : Int × Bool := kyF (frp2k b) (readK (fru2 b).1).2
def fru3 (b : List UInt8) := getS false 4 b (frp3 b).1
def frp4 (b : List UInt8) : Int × Bool := mvF (frp3 b) (fru3 b).2
def fru4 (b : List UInt8) := getS false 4 b (frp4 b).1
def frp5 (b : List UInt8) : Int × Bool := mvF (frp4 b) (fru4 b).2
def fru5 (b : List UInt8) := getS false 4 b (frp5 b).1
def frp6 (b : List UInt8) : Int × Bool := mvF (frp5 b) (fru5 b).2
def frw0_0 (b : List UInt8) := textS b 0
def frs0_1 (b : List UInt8) : Int × Bool := mvS ((0, false) : Int × Bool) (frw0_0 b).2
def frw0_1 (b : List UInt8) := textS b (frs0_1 b).1
def frs0_2 (b : List UInt8) : Int × Bool := mvS (frs0_1 b) (frw0_1 b).2
def frw0_2 (b : List UInt8) := textS b (frs0_2 b).1
def frw0 (b : List UInt8) : (List UInt8 × List UInt8 × List UInt8) × Int × Int := (((frw0_0 b).1, (frw0_1 b).1, (frw0_2 b).1), (frw0_2 b).2)
def frs1 (b : List UInt8) : Int × Bool := mvS (frs0_2 b) (frw0_2 b).2
def frw1_0 (b : List UInt8) := textS b (frs1 b).1
def frs1_1 (b : List UInt8) : Int × Bool := mvS (frs1 b) (frw1_0 b).2
def frw1_1 (b : List UInt8) := textS b (frs1_1 b).1
def frs1_2 (b : List UInt8) : Int × Bool := mvS (frs1_1 b) (frw1_1 b).2
def frw1_2 (b : List UInt8) := textS b (frs1_2 b).1
def frw1 (b : List UInt8) : (List UInt8 × List UInt8 × List UInt8) × Int × Int := (((frw1_0 b).1, (frw1_1 b).1, (frw1_2 b).1), (frw1_2 b).2)
def frs2 (b : List UInt8) : Int × Bool := mvS (frs1_2 b) (frw1_2 b).2
def frw2 (b : List UInt8) := bytesS b (frs2 b).1 8
def frs3 (b : List UInt8) : Int × Bool := mvS (frs2 b) (frw2 b).2
def frw3 (b : List UInt8) := getS false 4 b (frs3 b).1
def frs4 (b : List UInt8) : Int × Bool := mvS (frs3 b) (frw3 b).2
def frw4 (b : List UInt8) := getS false 4 b (frs4 b).1
def frs5 (b : List UInt8) : Int × Bool := mvS (frs4 b) (frw4 b).2
def frw5 (b : List UInt8) := getS false 4 b (frs5 b).1
def frs6 (b : List UInt8) : Int × Bool := mvS (frs5 b) (frw5 b).2
theorem frp_bounds (b : List UInt8) : (0 ≤ (frp1 b).1 ∧ (frp1 b).1 ≤ max (0 : Int) (b.length : Int)) ∧ (0 ≤ (frp2 b).1 ∧ (frp2 b).1 ≤ max (0 : Int) (b.length : Int)) ∧ (0 ≤ (frp3 b).1 ∧ (frp3 b).1 ≤ max (0 : Int) (b.length : Int)) ∧ (0 ≤ (frp4 b).1 ∧ (frp4 b).1 ≤ max (0 : Int) (b.length : Int)) ∧ (0 ≤ (frp5 b).1 ∧ (frp5 b).1 ≤ max (0 : Int) (b.length : Int)) ∧ (0 ≤ (frp6 b).1 ∧ (frp6 b).1 ≤ max (0 : Int) (b.length : Int)) := by
  have g0 : (0 ≤ ((0, false) : Int × Bool).1 ∧ ((0, false) : Int × Bool).1 ≤ max (0 : Int) (b.length : Int)) := by simp only; omega
  have g1 : (0 ≤ (frp1 b).1 ∧ (frp1 b).1 ≤ max (0 : Int) (b.length : Int)) := mvF_bounds g0 (prin_next _ _)
  have g2 : (0 ≤ (frp2 b).1 ∧ (frp2 b).1 ≤ max (0 : Int) (b.length : Int)) := mvF_bounds g1 (prin_next _ _)
  have g3 : (0 ≤ (frp3 b).1 ∧ (frp3 b).1 ≤ max (0 : Int) (b.length : Int)) := mvF_bounds g2 (bytes_next _ _ _)
  have g4 : (0 ≤ (frp4 b).1 ∧ (frp4 b).1 ≤ max (0 : Int) (b.length : Int)) := mvF_bounds g3 (get_next _ _ _ _)
  have g5 : (0 ≤ (frp5 b).1 ∧ (frp5 b).1 ≤ max (0 : Int) (b.length : Int)) := mvF_bounds g4 (get_next _ _ _ _)
  have g6 : (0 ≤ (frp6 b).1 ∧ (frp6 b).1 ≤ max (0 : Int) (b.length : Int)) := mvF_bounds g5 (get_next _ _ _ _)
  exact ⟨g1, g2, g3, g4, g5, g6⟩
theorem frs_bounds (b : List UInt8) : (0 ≤ (frs1 b).1 ∧ (frs1 b).1 ≤ max (0 : Int) (b.length : Int)) ∧ (0 ≤ (frs2 b).1 ∧ (frs2 b).1 ≤ max (0 : Int) (b.length : Int)) ∧ (0 ≤ (frs3 b).1 ∧ (frs3 b).1 ≤ max (0 : Int) (b.length : Int)) ∧ (0 ≤ (frs4 b).1 ∧ (frs4 b).1 ≤ max (0 : Int) (b.length : Int)) ∧ (0 ≤ (frs5 b).1 ∧ (frs5 b).1 ≤ max (0 : Int) (b.length : Int)) ∧ (0 ≤ (frs6 b).1 ∧ (frs6 b).1 ≤ max (0 : Int) (b.length : Int)) := by
  have g0 : (0 ≤ ((0, false) : Int × Bool).1 ∧ ((0, false) : Int × Bool).1 ≤ max (0 : Int) (b.length : Int)) := by simp only; omega
  have g0_1 : (0 ≤ (frs0_1 b).1 ∧ (frs0_1 b).1 ≤ max (0 : Int) (b.length : Int)) := mvS_bounds g0 (text_next _ _)
  have g0_2 : (0 ≤ (frs0_2 b).1 ∧ (frs0_2 b).1 ≤ max (0 : Int) (b.length : Int)) := mvS_bounds g0_1 (text_next _ _)
  have g1 : (0 ≤ (frs1 b).1 ∧ (frs1 b).1 ≤ max (0 : Int) (b.length : Int)) := mvS_bounds g0_2 (text_next _ _)
  have g1_1 : (0 ≤ (frs1_1 b).1 ∧ (frs1_1 b).1 ≤ max (0 : Int) (b.length : Int)) := mvS_bounds g1 (text_next _ _)
  have g1_2 : (0 ≤ (frs1_2 b).1 ∧ (frs1_2 b).1 ≤ max (0 : Int) (b.length : Int)) := mvS_bounds g1_1 (text_next _ _)
  have g2 : (0 ≤ (frs2 b).1 ∧ (frs2 b).1 ≤ max (0 : Int) (b.length : Int)) := mvS_bounds g1_2 (text_next _ _)
  have g3 : (0 ≤ (frs3 b).1 ∧ (frs3 b).1 ≤ max (0 : Int) (b.length : Int)) := mvS_bounds g2 (bytes_next _ _ _)
  have g4 : (0 ≤ (frs4 b).1 ∧ (frs4 b).1 ≤ max (0 : Int) (b.length : Int)) := mvS_bounds g3 (get_next _ _ _ _)
  have g5 : (0 ≤ (frs5 b).1 ∧ (frs5 b).1 ≤ max (0 : Int) (b.length : Int)) := mvS_bounds g4 (get_next _ _ _ _)
  have g6 : (0 ≤ (frs6 b).1 ∧ (frs6 b).1 ≤ max (0 : Int) (b.length : Int)) := mvS_bounds g5 (get_next _ _ _ _)
  exact ⟨g1, g2, g3, g4, g5, g6⟩
def frRu (b : List UInt8) : FRec := ⟨(fru0 b).1.1, (fru0 b).1.2.1, (fru0 b).1.2.2, (fru1 b).1.1, (fru1 b).1.2.1, (fru1 b).1.2.2, (readK (fru2 b).1).1, (fru3 b).1, (fru4 b).1, (fru5 b).1⟩
def frRw (b : List UInt8) : FRec := ⟨(frw0 b).1.1, (frw0 b).1.2.1, (frw0 b).1.2.2, (frw1 b).1.1, (frw1 b).1.2.1, (frw1 b).1.2.2, (readK (frw2 b).1).1, (frw3 b).1, (frw4 b).1, (frw5 b).1⟩
def fmu0 (b : List UInt8) := getS false 1 b 2
def fmp1 (b : List UInt8) : Int × Bool := mvF ((2, false) : Int × Bool) (fmu0 b).2
def fmu1 (b : List UInt8) := prinS b (fmp1 b).1
def fmp2 (b : List UInt8) : Int × Bool := mvF (fmp1 b) (fmu1 b).2
def fmu2 (b : List UInt8) := getS false 2 b (fmp2 b).1
def fmp3 (b : List UInt8) : Int × Bool := mvF (fmp2 b) (fmu2 b).2
def fmu3 (b : List UInt8) := bytesS b (fmp3 b).1 (fmu2 b).1
def fmp4 (b : List UInt8) : Int × Bool := mvF (fmp3 b) (fmu3 b).2
def fmw0 (b : List UInt8) := getS false 1 b 2
def fms1 (b : List UInt8) : Int × Bool := mvS ((2, false) : Int × Bool) (fmw0 b).2
def fmw1_0 (b : List UInt8) := textS b (fms1 b).1
def fms1_1 (b : List UInt8) : Int × Bool := mvS (fms1 b) (fmw1_0 b).2
def fmw1_1 (b : List UInt8) := textS b (fms1_1 b).1
def fms1_2 (b : List UInt8) : Int × Bool := mvS (fms1_1 b) (fmw1_1 b).2
def fmw1_2 (b : List UInt8) := textS b (fms1_2 b).1
def fmw1 (b : List UInt8) : (List UInt8 × List UInt8 × List UInt8) × Int × Int := (((fmw1_0 b).1, (fmw1_1 b).1, (fmw1_2 b).1), (fmw1_2 b).2)
def fms2 (b : List UInt8) : Int × Bool := mvS (fms1_2 b) (fmw1_2 b).2
def fmw2 (b : List UInt8) := getS false 2 b (fms2 b).1
def fms3 (b : List UInt8) : Int × Bool := mvS (fms2 b) (fmw2 b).2
def fmw3 (b : List UInt8) := bytesS b (fms3 b).1 (fmw2 b).1
def fms4 (b : List UInt8) : Int × Bool := mvS (fms3 b) (fmw3 b).2
theorem fmp_bounds (b : List UInt8) : (0 ≤ (fmp1 b).1 ∧ (fmp1 b).1 ≤ max (2 : Int) (b.length : Int)) ∧ (0 ≤ (fmp2 b).1 ∧ (fmp2 b).1 ≤ max (2 : Int) (b.length : Int)) ∧ (0 ≤ (fmp3 b).1 ∧ (fmp3 b).1 ≤ max (2 : Int) (b.length : Int)) ∧ (0 ≤ (fmp4 b).1 ∧ (fmp4 b).1 ≤ max (2 : Int) (b.length : Int)) := by
  have g0 : (0 ≤ ((2, false) : Int × Bool).1 ∧ ((2, false) : Int × Bool).1 ≤ max (2 : Int) (b.length : Int)) := by simp only; omega
  have g1 : (0 ≤ (fmp1 b).1 ∧ (fmp1 b).1 ≤ max (2 : Int) (b.length : Int)) := mvF_bounds g0 (get_next _ _ _ _)
  have g2 : (0 ≤ (fmp2 b).1 ∧ (fmp2 b).1 ≤ max (2 : Int) (b.length : Int)) := mvF_bounds g1 (prin_next _ _)
  have g3 : (0 ≤ (fmp3 b).1 ∧ (fmp3 b).1 ≤ max (2 : Int) (b.length : Int)) := mvF_bounds g2 (get_next _ _ _ _)
  have g4 : (0 ≤ (fmp4 b).1 ∧ (fmp4 b).1 ≤ max (2 : Int) (b.length : Int)) := mvF_bounds g3 (bytes_next _ _ _)
  exact ⟨g1, g2, g3, g4⟩
theorem fms_bounds (b : List UInt8) : (0 ≤ (fms1 b).1 ∧ (fms1 b).1 ≤ max (2 : Int) (b.length : Int)) ∧ (0 ≤ (fms2 b).1 ∧ (fms2 b).1 ≤ max (2 : Int) (b.length : Int)) ∧ (0 ≤ (fms3 b).1 ∧ (fms3 b).1 ≤ max (2 : Int) (b.length : Int)) ∧ (0 ≤ (fms4 b).1 ∧ (fms4 b).1 ≤ max (2 : Int) (b.length : Int)) := by
  have g0 : (0 ≤ ((2, false) : Int × Bool).1 ∧ ((2, false) : Int × Bool).1 ≤ max (2 : Int) (b.length : Int)) := by simp only; omega
  have g1 : (0 ≤ (fms1 b).1 ∧ (fms1 b).1 ≤ max (2 : Int) (b.length : Int)) := mvS_bounds g0 (get_next _ _ _ _)
  have g1_1 : (0 ≤ (fms1_1 b).1 ∧ (fms1_1 b).1 ≤ max (2 : Int) (b.length : Int)) := mvS_bounds g1 (text_next _ _)
  have g1_2 : (0 ≤ (fms1_2 b).1 ∧ (fms1_2 b).1 ≤ max (2 : Int) (b.length : Int)) := mvS_bounds g1_1 (text_next _ _)
  have g2 : (0 ≤ (fms2 b).1 ∧ (fms2 b).1 ≤ max (2 : Int) (b.length : Int)) := mvS_bounds g1_2 (text_next _ _)
  have g3 : (0 ≤ (fms3 b).1 ∧ (fms3 b).1 ≤ max (2 : Int) (b.length : Int)) := mvS_bounds g2 (get_next _ _ _ _)
  have g4 : (0 ≤ (fms4 b).1 ∧ (fms4 b).1 ≤ max (2 : Int) (b.length : Int)) := mvS_bounds g3 (bytes_next _ _ _)
  exact ⟨g1, g2, g3, g4⟩
def fmRu (b : List UInt8) : FMsg := ⟨(fmu0 b).1, (fmu1 b).1.1, (fmu1 b).1.2.1, (fmu1 b).1.2.2, (fmu3 b).1⟩
def fmRw (b : List UInt8) : FMsg := ⟨(fmw0 b).1, (fmw1 b).1.1, (fmw1 b).1.2.1, (fmw1 b).1.2.2, (fmw3 b).1⟩
theorem fr_read {c1 c2 c3 s1 s2 s3 : List UInt8} {k st en ad : Int} (hc : validS c1 c2 c3 = true) (hs1 : validS s1 s2 s3 = true) (hk : 0 ≤ k ∧ k ≤ 18446744073709551615) (hk2 : keyOk k = true) (h1 : 0 ≤ st ∧ st ≤ 4294967295) (h2 : 0 ≤ en ∧ en ≤ 4294967295) (h3 : 0 ≤ ad ∧ ad ≤ 4294967295) {b r : List UInt8} (hs : Sfx b 0 (c1 ++ ([0] ++ (c2 ++ ([0] ++ (c3 ++ ([0] ++ (s1 ++ ([0] ++ (s2 ++ ([0] ++ (s3 ++ ([0] ++ (keyB k ++ (numS false 4 st ++ (numS false 4 en ++ (numS false 4 ad ++ (r)))))))))))))))))) : frRu b = (⟨c1, c2, c3, s1, s2, s3, k, st, en, ad⟩ : FRec) ∧ frRw b = (⟨c1, c2, c3, s1, s2, s3, k, st, en, ad⟩ : FRec) ∧ (frp6 b).2 = false ∧ (frs6 b).2 = false := by
  obtain ⟨K0_1, K0_2, K0, e0_1, e0_2, e0_3, e0, q0⟩ := sfx_texts hs hc
  have x0 : (fru0 b) = ((c1, c2, c3), K0, 0) := by
    simp only [fru0]
    exact e0
  have p1 : (frp1 b) = (K0, false) := by simp only [frp1, x0, mvF_ok]
  have y0_0 : frw0_0 b = (c1, K0_1, 0) := by
    simp only [frw0_0]
    exact e0_1
  have z0_1 : frs0_1 b = (K0_1, false) := by simp only [frs0_1, y0_0, mvS_ok]
  have y0_1 : frw0_1 b = (c2, K0_2, 0) := by
    simp only [frw0_1, z0_1]
    exact e0_2
  have z0_2 : frs0_2 b = (K0_2, false) := by simp only [frs0_2, z0_1, y0_1, mvS_ok]
  have y0_2 : frw0_2 b = (c3, K0, 0) := by
    simp only [frw0_2, z0_2]
    exact e0_3
  have y0 : (frw0 b) = ((c1, c2, c3), K0, 0) := by simp only [frw0, y0_0, y0_1, y0_2]
  have z1 : (frs1 b) = (K0, false) := by simp only [frs1, z0_2, y0_2, mvS_ok]
  obtain ⟨K1_1, K1_2, K1, e1_1, e1_2, e1_3, e1, q1⟩ := sfx_texts q0 hs1
  have x1 : (fru1 b) = ((s1, s2, s3), K1, 0) := by
    simp only [fru1, p1]
    exact e1
  have p2 : (frp2 b) = (K1, false) := by simp only [frp2, p1, x1, mvF_ok]
  have y1_0 : frw1_0 b = (s1, K1_1, 0) := by
    simp only [frw1_0, z1]
    exact e1_1
  have z1_1 : frs1_1 b = (K1_1, false) := by simp only [frs1_1, z1, y1_0, mvS_ok]
  have y1_1 : frw1_1 b = (s2, K1_2, 0) := by
    simp only [frw1_1, z1_1]
    exact e1_2
  have z1_2 : frs1_2 b = (K1_2, false) := by simp only [frs1_2, z1_1, y1_1, mvS_ok]
  have y1_2 : frw1_2 b = (s3, K1, 0) := by
    simp only [frw1_2, z1_2]
    exact e1_3
  have y1 : (frw1 b) = ((s1, s2, s3), K1, 0) := by simp only [frw1, y1_0, y1_1, y1_2]
  have z2 : (frs2 b) = (K1, false) := by simp only [frs2, z1_2, y1_2, mvS_ok]
  obtain ⟨K2, e2, q2⟩ := sfx_bytes q1 rfl
  have x2 : (fru2 b) = (keyB k, K2, 0) := by
    simp only [fru2, p2]
    exact e2
  have p2k : frp2k b = (K2, false) := by simp only [frp2k, p2, x2, mvF_ok]
  have p3 : (frp3 b) = (K2, false) := by simp only [frp3, p2k, x2, readK_key hk hk2, kyF_ok]
  have y2 : (frw2 b) = (keyB k, K2, 0) := by
    simp only [frw2, z2]
    exact e2
  have z3 : (frs3 b) = (K2, false) := by simp only [frs3, z2, y2, mvS_ok]
  obtain ⟨K3, e3, q3⟩ := sfx_num4 q2 h1
  have x3 : (fru3 b) = (st, K3, 0) := by
    simp only [fru3, p3]
    exact e3
  have p4 : (frp4 b) = (K3, false) := by simp only [frp4, p3, x3, mvF_ok]
  have y3 : (frw3 b) = (st, K3, 0) := by
    simp only [frw3, z3]
    exact e3
  have z4 : (frs4 b) = (K3, false) := by simp only [frs4, z3, y3, mvS_ok]
  obtain ⟨K4, e4, q4⟩ := sfx_num4 q3 h2
  have x4 : (fru4 b) = (en, K4, 0) := by
    simp only [fru4, p4]
    exact e4
  have p5 : (frp5 b) = (K4, false) := by simp only [frp5, p4, x4, mvF_ok]
  have y4 : (frw4 b) = (en, K4, 0) := by
    simp only [frw4, z4]
    exact e4
  have z5 : (frs5 b) = (K4, false) := by simp only [frs5, z4, y4, mvS_ok]
  obtain ⟨K5, e5, q5⟩ := sfx_num4 q4 h3
  have x5 : (fru5 b) = (ad, K5, 0) := by
    simp only [fru5, p5]
    exact e5
  have p6 : (frp6 b) = (K5, false) := by simp only [frp6, p5, x5, mvF_ok]
  have y5 : (frw5 b) = (ad, K5, 0) := by
    simp only [frw5, z5]
    exact e5
  have z6 : (frs6 b) = (K5, false) := by simp only [frs6, z5, y5, mvS_ok]
  refine ⟨?_, ?_, by rw [p6], by rw [z6]⟩
  · simp only [frRu, x0, x1, x2, x3, x4, x5, readK_key hk hk2]
  · simp only [frRw, y0, y1, y2, y3, y4, y5, readK_key hk hk2]
theorem fm_read {n1 n2 n3 bx : List UInt8} {op : Int} (hn : validS n1 n2 n3 = true) (h1 : 0 ≤ op ∧ op ≤ 255) (h3 : 0 ≤ (bx.length : Int) ∧ (bx.length : Int) ≤ 65535) {b r : List UInt8} (hs : Sfx b 2 (numS false 1 op ++ (n1 ++ ([0] ++ (n2 ++ ([0] ++ (n3 ++ ([0] ++ (numS false 2 (bx.length : Int) ++ (bx ++ (r))))))))))) : fmRu b = (⟨op, n1, n2, n3, bx⟩ : FMsg) ∧ fmRw b = (⟨op, n1, n2, n3, bx⟩ : FMsg) ∧ (fmp4 b).2 = false ∧ (fms4 b).2 = false := by
  obtain ⟨K0, e0, q0⟩ := sfx_num1 hs h1
  have x0 : (fmu0 b) = (op, K0, 0) := by
    simp only [fmu0]
    exact e0
  have p1 : (fmp1 b) = (K0, false) := by simp only [fmp1, x0, mvF_ok]
  have y0 : (fmw0 b) = (op, K0, 0) := by
    simp only [fmw0]
    exact e0
  have z1 : (fms1 b) = (K0, false) := by simp only [fms1, y0, mvS_ok]
  obtain ⟨K1_1, K1_2, K1, e1_1, e1_2, e1_3, e1, q1⟩ := sfx_texts q0 hn
  have x1 : (fmu1 b) = ((n1, n2, n3), K1, 0) := by
    simp only [fmu1, p1]
    exact e1
  have p2 : (fmp2 b) = (K1, false) := by simp only [fmp2, p1, x1, mvF_ok]
  have y1_0 : fmw1_0 b = (n1, K1_1, 0) := by
    simp only [fmw1_0, z1]
    exact e1_1
  have z1_1 : fms1_1 b = (K1_1, false) := by simp only [fms1_1, z1, y1_0, mvS_ok]
  have y1_1 : fmw1_1 b = (n2, K1_2, 0) := by
    simp only [fmw1_1, z1_1]
    exact e1_2
  have z1_2 : fms1_2 b = (K1_2, false) := by simp only [fms1_2, z1_1, y1_1, mvS_ok]
  have y1_2 : fmw1_2 b = (n3, K1, 0) := by
    simp only [fmw1_2, z1_2]
    exact e1_3
  have y1 : (fmw1 b) = ((n1, n2, n3), K1, 0) := by simp only [fmw1, y1_0, y1_1, y1_2]
  have z2 : (fms2 b) = (K1, false) := by simp only [fms2, z1_2, y1_2, mvS_ok]
  obtain ⟨K2, e2, q2⟩ := sfx_num2 q1 h3
  have x2 : (fmu2 b) = ((bx.length : Int), K2, 0) := by
    simp only [fmu2, p2]
    exact e2
  have p3 : (fmp3 b) = (K2, false) := by simp only [fmp3, p2, x2, mvF_ok]
  have y2 : (fmw2 b) = ((bx.length : Int), K2, 0) := by
    simp only [fmw2, z2]
    exact e2
  have z3 : (fms3 b) = (K2, false) := by simp only [fms3, z2, y2, mvS_ok]
  obtain ⟨K3, e3, q3⟩ := sfx_bytes q2 rfl
  have x3 : (fmu3 b) = (bx, K3, 0) := by
    simp only [fmu3, p3, x0, x1, x2]
    exact e3
  have p4 : (fmp4 b) = (K3, false) := by simp only [fmp4, p3, x3, mvF_ok]
  have y3 : (fmw3 b) = (bx, K3, 0) := by
    simp only [fmw3, z3, y0, y1, y2]
    exact e3
  have z4 : (fms4 b) = (K3, false) := by simp only [fms4, z3, y3, mvS_ok]
  refine ⟨?_, ?_, by rw [p4], by rw [z4]⟩
  · simp only [fmRu, x0, x1, x2, x3]
  · simp only [fmRw, y0, y1, y2, y3]
theorem class2_ok {k : Int} (h : classS k = 2) : keyOk k = true := by
  unfold classS at h
  split at h
  · assumption
  · cases h
theorem keyOk_range {k : Int} (h : keyOk k = true) : 0 ≤ k ∧ k ≤ 18446744073709551615 := by
  have := of_decide_eq_true h
  unfold keyTop keyLow at this
  omega
theorem fr_rd {t : FRec} {b : List UInt8} (h : frN t = (b, 0)) : frRu b = t ∧ frRw b = t ∧ (frp6 b).2 = false ∧ (frs6 b).2 = false := by
  obtain ⟨⟨hc, hs⟩, hk, ⟨⟨h1, h2, _⟩, h3⟩, hb⟩ := frN_is h
  have hk2 := class2_ok hk
  exact fr_read (r := List.replicate (padN (frB t).length) 0) hc hs (keyOk_range hk2) hk2 h1 h2 h3 (by
    have e : b = t.c1 ++ ([0] ++ (t.c2 ++ ([0] ++ (t.c3 ++ ([0] ++ (t.s1 ++ ([0] ++ (t.s2 ++ ([0] ++ (t.s3 ++ ([0] ++ (keyB t.k ++ (numS false 4 t.st ++ (numS false 4 t.en ++ (numS false 4 t.ad ++ List.replicate (padN (frB t).length) 0))))))))))))))) := by
      rw [← hb, padS]
      generalize List.replicate (padN (frB t).length) (0 : UInt8) = Z
      rw [frB]
      simp only [List.append_assoc, List.nil_append]
    exact e ▸ sfx_0 _)
theorem fm_rd {t : FMsg} {b : List UInt8} (h : fmN t = (b, 0)) : fmRu b = t ∧ fmRw b = t ∧ (fmp4 b).2 = false ∧ (fms4 b).2 = false := by
  obtain ⟨h1, hn, h3, hb⟩ := fmN_is h
  exact fm_read (r := []) hn (by omega) (by omega) (by
    have e : b = [4, 20] ++ (numS false 1 t.op ++ (t.n1 ++ ([0] ++ (t.n2 ++ ([0] ++ (t.n3 ++ ([0] ++ (numS false 2 (t.bx.length : Int) ++ (t.bx ++ []))))))))) := by
      rw [← hb, fmB]
      simp only [List.append_assoc, List.append_nil]
    exact sfx_of e rfl)
def frD (b : List UInt8) : FRec × Int := decG frN frRu fr0 b
section
variable {b : List UInt8}
theorem frD_u1 (h1 : (frN (frRu b)).2 = 0) (h2 : (frN (frRu b)).1 = b) : frD b = (frRu b, 0) := decG_yes h1 h2
theorem frD_u0 (h : (frp6 b).2 = true ∨ ¬ (frN (frRu b)).2 = 0 ∨ ¬ (frN (frRu b)).1 = b) : frD b = (fr0, 100) := decG_bad (rd' := frRu) (bad := fun b => (frp6 b).2) (fun e => ⟨rfl, (fr_rd e).2.2.1⟩) h
theorem frD_w1 (h1 : (frN (frRw b)).2 = 0) (h2 : (frN (frRw b)).1 = b) : frD b = (frRw b, 0) := decG_ref (rd' := frRw) (fun e => (fr_rd e).1) h1 h2
theorem frD_w0 (h : (frs6 b).2 = true ∨ ¬ (frN (frRw b)).2 = 0 ∨ ¬ (frN (frRw b)).1 = b) : frD b = (fr0, 100) := decG_bad (rd' := frRw) (bad := fun b => (frs6 b).2) (fun e => ⟨(fr_rd e).2.1, (fr_rd e).2.2.2⟩) h
end
section
variable {b : List UInt8}
end
def fmD (b : List UInt8) : FMsg × Int := if (isS b [10]).2 = 0 then decG fmN fmRu fm0 b else (fm0, (isS b [10]).2)
theorem fmD_head {b : List UInt8} (h : ¬ (isS b [10]).2 = 0) : fmD b = (fm0, (isS b [10]).2) := by rw [fmD, if_neg h]
section
variable {b : List UInt8}
theorem fmD_u1 (h0 : (isS b [10]).2 = 0) (h1 : (fmN (fmRu b)).2 = 0) (h2 : (fmN (fmRu b)).1 = b) : fmD b = (fmRu b, 0) := by rw [fmD, if_pos h0]; exact decG_yes h1 h2
theorem fmD_u0 (h0 : (isS b [10]).2 = 0) (h : (fmp4 b).2 = true ∨ ¬ (fmN (fmRu b)).2 = 0 ∨ ¬ (fmN (fmRu b)).1 = b) : fmD b = (fm0, 100) := by rw [fmD, if_pos h0]; exact decG_bad (rd' := fmRu) (bad := fun b => (fmp4 b).2) (fun e => ⟨rfl, (fm_rd e).2.2.1⟩) h
theorem fmD_w1 (h0 : (isS b [10]).2 = 0) (h1 : (fmN (fmRw b)).2 = 0) (h2 : (fmN (fmRw b)).1 = b) : fmD b = (fmRw b, 0) := by rw [fmD, if_pos h0]; exact decG_ref (rd' := fmRw) (fun e => (fm_rd e).1) h1 h2
theorem fmD_w0 (h0 : (isS b [10]).2 = 0) (h : (fms4 b).2 = true ∨ ¬ (fmN (fmRw b)).2 = 0 ∨ ¬ (fmN (fmRw b)).1 = b) : fmD b = (fm0, 100) := by rw [fmD, if_pos h0]; exact decG_bad (rd' := fmRw) (bad := fun b => (fms4 b).2) (fun e => ⟨(fm_rd e).2.1, (fm_rd e).2.2.2⟩) h
end
end Go.Sx

/-
  Slices of structs: rows of leaves, one behind the other; the first error of a list; plain functions, for every input.
-/
namespace Go.Sx
def flat {α : Type} (f : α → List L) (l : List α) : List L := (l.map f).flatten
section
variable {α : Type} {f : α → List L} {sz : Nat}
theorem flat_cons (x : α) (l : List α) : flat f (x :: l) = f x ++ flat f l := by simp [flat]
theorem flat_append (a b : List α) : flat f (a ++ b) = flat f a ++ flat f b := by simp [flat]
theorem flat_one (x : α) : flat f [x] = f x := by simp [flat]
theorem flat_len (hf : ∀ x, (f x).length = sz) : ∀ l : List α, (flat f l).length = l.length * sz
  | [] => by simp [flat]
  | x :: l => by rw [flat_cons, List.length_append, hf, flat_len hf l, List.length_cons, Nat.succ_mul]; omega
theorem flat_drop (hf : ∀ x, (f x).length = sz) : ∀ (l : List α) (j : Nat), (flat f l).drop (j * sz) = flat f (l.drop j)
  | l, 0 => by simp
  | [], j + 1 => by simp [flat]
  | x :: l, j + 1 => by
    rw [flat_cons, List.drop_succ_cons, ← flat_drop hf l j, show (j + 1) * sz = sz + j * sz by rw [Nat.succ_mul]; omega, ← List.drop_drop]
    congr 1
    rw [← hf x, List.drop_left]
theorem flat_take (hf : ∀ x, (f x).length = sz) : ∀ (l : List α) (j : Nat), (flat f l).take (j * sz) = flat f (l.take j)
  | l, 0 => by simp [flat]
  | [], j + 1 => by simp [flat]
  | x :: l, j + 1 => by
    rw [flat_cons, List.take_succ_cons, flat_cons, ← flat_take hf l j, show (j + 1) * sz = sz + j * sz by rw [Nat.succ_mul]; omega]
    rw [List.take_append, List.take_of_length_le (by rw [hf]; omega), hf, show sz + j * sz - sz = j * sz by omega]
theorem drop_getD_cons {l : List α} {j : Nat} (d : α) (h : j < l.length) : l.drop j = l.getD j d :: l.drop (j + 1) := by
  rw [List.drop_eq_getElem_cons h, List.getD_eq_getElem?_getD, List.getElem?_eq_getElem h]; rfl
theorem flat_at (hf : ∀ x, (f x).length = sz) {l : List α} {j : Nat} (d : α) (h : j < l.length) : (flat f l).drop (j * sz) = f (l.getD j d) ++ flat f (l.drop (j + 1)) := by
  rw [flat_drop hf, drop_getD_cons d h, flat_cons]
theorem take_getD {l : List α} {j i : Nat} {d : α} (h : i < j) : (l.take j).getD i d = l.getD i d := by
  rw [List.getD_eq_getElem?_getD, List.getD_eq_getElem?_getD, List.getElem?_take, if_pos h]
theorem app_getD {a b : List α} {i : Nat} {d : α} (h : i < a.length) : (a ++ b).getD i d = a.getD i d := by
  rw [List.getD_eq_getElem?_getD, List.getD_eq_getElem?_getD, List.getElem?_append_left h]
theorem app_getD' {a b : List α} {i : Nat} {d : α} (h : a.length ≤ i) : (a ++ b).getD i d = b.getD (i - a.length) d := by
  rw [List.getD_eq_getElem?_getD, List.getD_eq_getElem?_getD, List.getElem?_append_right h]
/-- the place of the first element of a kind, or the length -/
theorem find_at {p : α → Bool} : ∀ {l : List α} {j : Nat} (d : α), j < l.length → (∀ i, i < j → p (l.getD i d) = false) → p (l.getD j d) = true → l.findIdx p = j
  | [], j, d, h, _, _ => by simp at h
  | x :: l, 0, d, _, _, h => by
    have h : p x = true := by simpa using h
    rw [List.findIdx_cons, h]; rfl
  | x :: l, j + 1, d, h1, h2, h3 => by
    have hx : p x = false := by simpa using h2 0 (by omega)
    have ih := find_at (p := p) (l := l) (j := j) d (by simpa using h1) (fun i hi => by simpa using h2 (i + 1) (by omega)) (by simpa using h3)
    rw [List.findIdx_cons, hx, ih]; rfl
theorem find_no {p : α → Bool} : ∀ {l : List α} (d : α), (∀ i, i < l.length → p (l.getD i d) = false) → l.findIdx p = l.length
  | [], d, _ => rfl
  | x :: l, d, h => by
    have hx : p x = false := by simpa using h 0 (by simp)
    have ih := find_no (p := p) (l := l) d (fun i hi => by simpa using h (i + 1) (by simpa using hi))
    rw [List.findIdx_cons, hx, ih]; rfl
theorem find_hit {p : α → Bool} {l : List α} (d : α) (h : l.findIdx p < l.length) : p (l.getD (l.findIdx p) d) = true := by
  rw [List.getD_eq_getElem?_getD, List.getElem?_eq_getElem h]
  exact List.findIdx_getElem (w := h)
theorem find_miss {p : α → Bool} {l : List α} {i : Nat} (d : α) (h : i < l.findIdx p) : p (l.getD i d) = false := by
  have hl : i < l.length := Nat.lt_of_lt_of_le h List.findIdx_le_length
  have := List.not_of_lt_findIdx h
  rw [List.getD_eq_getElem?_getD, List.getElem?_eq_getElem hl]
  simpa using this
end
/-- the first number of some that is not 0 -/
def firstE (f : Nat → Int) : Nat → Int
  | 0 => 0
  | n + 1 => if firstE f n ≠ 0 then firstE f n else f n
theorem firstE_ok {f : Nat → Int} : ∀ {n : Nat}, (∀ i, i < n → f i = 0) → firstE f n = 0
  | 0, _ => rfl
  | n + 1, h => by
    have := firstE_ok (f := f) (n := n) fun i hi => h i (by omega)
    rw [firstE, if_neg (by simp [this])]
    exact h n (by omega)
theorem firstE_is {f : Nat → Int} : ∀ {n : Nat}, firstE f n = 0 → ∀ i, i < n → f i = 0
  | 0, _, i, hi => by omega
  | n + 1, h, i, hi => by
    rw [firstE] at h
    split at h
    · rename_i hh; exact absurd h hh
    · rename_i hh
      by_cases e : i = n
      · subst e; exact h
      · exact firstE_is (Decidable.not_not.mp hh) i (by omega)
end Go.Sx

/-
  What was read without an error stood there: plain functions, for every input.
-/
namespace Go.Sx
end Go.Sx

/-
  What databases are, as plain functions: for every input.
-/
namespace Go.Sx
structure DE where
  x : List UInt8
  y : List UInt8
  k : Int
  kv : Int
  ex : Int
  ml : Int
  atr : Int
  fl : Int
  un : Int
def de0 : DE := ⟨[], [], 0, 0, 0, 0, 0, 0, 0⟩
def deR (s : DE) : List L := [.s s.x, .s s.y, .i .u64 s.k, .i .i64 s.kv, .i .i64 s.ex, .i .i64 s.ml, .i .i64 s.atr, .i .i64 s.fl, .i .i64 s.un]
theorem deR_len (s : DE) : (deR s).length = 9 := rfl
/-- an entry that the machine may hold, with short texts -/
def deSm (B : Nat) (s : DE) : Prop := s.x.length ≤ B ∧ s.y.length ≤ B ∧ (0 ≤ s.k ∧ s.k ≤ 18446744073709551615)
/-- what an entry's numbers may be -/
def deN (s : DE) : Prop := ((0 ≤ s.kv ∧ s.kv ≤ 255) ∧ (0 ≤ s.ex ∧ s.ex ≤ 4294967295) ∧ (0 ≤ s.un ∧ s.un ≤ 4294967295)) ∧ (0 ≤ s.ml ∧ s.ml ≤ 255) ∧ (0 ≤ s.atr ∧ s.atr ≤ 3) ∧ (0 ≤ s.fl ∧ s.fl ≤ 20)
instance (s : DE) : Decidable (deN s) := by unfold deN; infer_instance
def deC (s : DE) : Int :=
  if nameS s.x = false ∨ instS s.y = false then 103 else
  if s.k ≠ 0 ∧ keyOk s.k = false then 10 else
  if ¬ deN s then 104 else 0
theorem deC_4 {s : DE} (h : nameS s.x = true) (h' : instS s.y = true) (h2 : s.k = 0 ∨ keyOk s.k = true) (h3 : deN s) : deC s = 0 := by
  rw [deC, if_neg (by rw [h, h']; decide), if_neg (fun hh => by rcases h2 with h | h; exact hh.1 h; rw [h] at hh; cases hh.2), if_neg (fun hh => hh h3)]
theorem deC_is {s : DE} (h : deC s = 0) : nameS s.x = true ∧ instS s.y = true ∧ (s.k = 0 ∨ keyOk s.k = true) ∧ deN s := by
  unfold deC at h
  split at h
  · cases h
  · rename_i h1
    split at h
    · cases h
    · rename_i h2
      split at h
      · cases h
      · rename_i h3
        refine ⟨?_, ?_, ?_, Decidable.not_not.mp h3⟩
        · cases e : nameS s.x with
          | true => rfl
          | false => exact absurd (.inl e) h1
        · cases e : instS s.y with
          | true => rfl
          | false => exact absurd (.inr e) h1
        · by_cases e : s.k = 0
          · exact .inl e
          · cases e2 : keyOk s.k with
            | true => exact .inr rfl
            | false => exact absurd ⟨e, e2⟩ h2
/-- how entries compare -/
def deO (s t : DE) : Int := if cmpB s.x t.x ≠ 0 then cmpB s.x t.x else cmpB s.y t.y
theorem deO_lt {s t : DE} : deO s t < 0 ↔ Op.bytesLess s.x t.x = true ∨ s.x = t.x ∧ Op.bytesLess s.y t.y = true := by
  rw [cmp_less, cmp_less, decide_eq_true_iff, decide_eq_true_iff, ← cmp_zero]
  unfold deO
  split <;> omega
theorem deO_zero {s t : DE} : deO s t = 0 ↔ s.x = t.x ∧ s.y = t.y := by
  rw [← cmp_zero, ← cmp_zero]
  unfold deO
  split <;> omega
theorem deO_anti (s t : DE) : deO t s = - deO s t := by
  have h1 := cmp_anti s.x t.x
  have h2 := cmp_anti s.y t.y
  unfold deO
  split <;> split <;> omega
/-- the error of an entry, given the one ahead of it -/
def deE (l : List DE) (i : Nat) : Int := if deC (l.getD i de0) ≠ 0 then deC (l.getD i de0) else if 0 < i ∧ deO (l.getD i de0) (l.getD (i - 1) de0) < 0 then 110 else 0
theorem deE_1 {l : List DE} {i : Nat} (h : ¬ deC (l.getD i de0) = 0) : deE l i = deC (l.getD i de0) := by rw [deE, if_pos h]
theorem deE_2 {l : List DE} {i : Nat} (h : deC (l.getD i de0) = 0) (h2 : 0 < i ∧ deO (l.getD i de0) (l.getD (i - 1) de0) < 0) : deE l i = 110 := by rw [deE, if_neg (fun hh => hh h), if_pos h2]
theorem deE_3 {l : List DE} {i : Nat} (h : deC (l.getD i de0) = 0) (h2 : ¬ (0 < i ∧ deO (l.getD i de0) (l.getD (i - 1) de0) < 0)) : deE l i = 0 := by rw [deE, if_neg (fun hh => hh h), if_neg h2]
/-- the error of a database -/
def dbC (r : List UInt8) (l : List DE) : Int := if realmS r = false then 103 else if 60 < l.length then 106 else firstE (deE l) l.length
theorem dbC_ok {r : List UInt8} {l : List DE} (h : realmS r = true) (h2 : ¬ 60 < l.length) (h0 : ∀ j, j < l.length → deE l j = 0) : dbC r l = 0 := by
  rw [dbC, if_neg (by rw [h]; decide), if_neg h2, firstE_ok h0]
theorem dbC_is {r : List UInt8} {l : List DE} (h : dbC r l = 0) : realmS r = true ∧ l.length ≤ 60 ∧ ∀ j, j < l.length → deE l j = 0 := by
  unfold dbC at h
  split at h
  · cases h
  · rename_i h1
    split at h
    · cases h
    · exact ⟨by simpa using h1, by omega, firstE_is h⟩
/-- where an entry is: how many have the name, and the last one of them -/
def deIs (x y : List UInt8) (s : DE) : Bool := s.x == x && s.y == y
theorem deIs_yes {x y : List UInt8} {s : DE} (h1 : s.x = x) (h2 : s.y = y) : deIs x y s = true := by simp [deIs, h1, h2]
theorem deIs_no {x y : List UInt8} {s : DE} (h : ¬ (s.x = x ∧ s.y = y)) : deIs x y s = false := by
  rw [Bool.eq_false_iff]
  intro hh
  simp only [deIs, Bool.and_eq_true, beq_iff_eq] at hh
  exact h hh
/-- the index of the last one of the name among the first n, and how many there are -/
def dbK (x y : List UInt8) (l : List DE) : Nat → Int × Nat
  | 0 => (0, 0)
  | n + 1 => if deIs x y (l.getD n de0) = true then ((n : Int), (dbK x y l n).2 + 1) else dbK x y l n
theorem dbK_yes {x y : List UInt8} {l : List DE} {n : Nat} (h : deIs x y (l.getD n de0) = true) : dbK x y l (n + 1) = ((n : Int), (dbK x y l n).2 + 1) := by rw [dbK, if_pos h]
theorem dbK_no {x y : List UInt8} {l : List DE} {n : Nat} (h : deIs x y (l.getD n de0) = false) : dbK x y l (n + 1) = dbK x y l n := by rw [dbK, if_neg (by rw [h]; decide)]
theorem dbK_mono {x y : List UInt8} {l : List DE} : ∀ {n m : Nat}, n ≤ m → (dbK x y l n).2 ≤ (dbK x y l m).2
  | 0, 0, _ => Nat.le_refl _
  | n + 1, 0, h => absurd h (by omega)
  | n, m + 1, h => by
    rcases Nat.lt_or_ge n (m + 1) with h1 | h1
    · have ih := dbK_mono (x := x) (y := y) (l := l) (n := n) (m := m) (by omega)
      rw [dbK]
      split
      · dsimp only; omega
      · exact ih
    · have e : n = m + 1 := by omega
      rw [e]
      exact Nat.le_refl _
theorem dbK_lt {x y : List UInt8} {l : List DE} : ∀ {n : Nat}, (dbK x y l n).2 ≠ 0 → 0 ≤ (dbK x y l n).1 ∧ (dbK x y l n).1 < n
  | 0, h => absurd rfl h
  | n + 1, h => by
    cases e : deIs x y (l.getD n de0) with
    | true => rw [dbK_yes e]; dsimp only; omega
    | false =>
      rw [dbK_no e] at h ⊢
      have := dbK_lt h
      omega
def dbF (x y : List UInt8) (l : List DE) : Int × Int := if (dbK x y l l.length).2 = 0 then (0, 8) else if 1 < (dbK x y l l.length).2 then (0, 9) else ((dbK x y l l.length).1, 0)
theorem dbF_no {x y : List UInt8} {l : List DE} (h : (dbK x y l l.length).2 = 0) : dbF x y l = (0, 8) := by rw [dbF, if_pos h]
theorem dbF_many {x y : List UInt8} {l : List DE} (h : 1 < (dbK x y l l.length).2) : dbF x y l = (0, 9) := by rw [dbF, if_neg (by omega), if_pos h]
theorem dbF_one {x y : List UInt8} {l : List DE} (h : (dbK x y l l.length).2 = 1) : dbF x y l = ((dbK x y l l.length).1, 0) := by rw [dbF, if_neg (by omega), if_neg (by omega)]
/-- a second one of the name -/
theorem dbF_two {x y : List UInt8} {l : List DE} {j : Nat} (hj : j < l.length) (h : (dbK x y l j).2 = 1) (h2 : deIs x y (l.getD j de0) = true) : dbF x y l = (0, 9) := by
  refine dbF_many ?_
  have := dbK_mono (x := x) (y := y) (l := l) (n := j + 1) (m := l.length) (by omega)
  rw [dbK_yes h2] at this
  dsimp only at this
  omega
theorem dbF_lt {x y : List UInt8} {l : List DE} (h : (dbF x y l).2 = 0) : 0 ≤ (dbF x y l).1 ∧ (dbF x y l).1 < l.length := by
  unfold dbF at h ⊢
  split at h
  · cases h
  · rename_i h1
    rw [if_neg h1]
    split at h
    · cases h
    · rename_i h2
      rw [if_neg h2]
      exact dbK_lt h1
/-- an entry that may be used; b says that its attribute forbids it -/
def dbU (x y : List UInt8) (l : List DE) (now : Int) (b : Int → Bool) (e1 e2 : Int) : Int × Int :=
  if (dbF x y l).2 ≠ 0 then (0, (dbF x y l).2) else
  if keyOk (l.getD (dbF x y l).1.toNat de0).k = false then (0, 10) else
  if (l.getD (dbF x y l).1.toNat de0).ex ≠ 0 ∧ (l.getD (dbF x y l).1.toNat de0).ex ≤ now then (0, e1) else
  if b (l.getD (dbF x y l).1.toNat de0).atr = true then (0, e2) else ((dbF x y l).1, 0)
end Go.Sx

/-
  Databases with an entry more, or with another one in a place, as plain functions: for every input.
-/
namespace Go.Sx
def deV (s : DE) : Prop := deC s = 0
theorem deV_small {s : DE} (h : deV s) : deSm 255 s ∧ deN s := by
  obtain ⟨h1, h2, h3, h4⟩ := deC_is h
  have l1 := name_len h1
  have l2 := inst_len h2
  refine ⟨⟨by omega, by omega, ?_⟩, h4⟩
  rcases h3 with h3 | h3
  · rw [h3]; decide
  · have hk := keyOk_is h3
    have hk2 := key_parts s.k
    omega
theorem de_grow {A B : Nat} (hAB : A ≤ B) {s : DE} (h : deSm A s) : deSm B s := by
  obtain ⟨h1, h2, h3⟩ := h
  exact ⟨by omega, by omega, h3⟩
/-- no entry comes before the one ahead of it -/
def srt (l : List DE) : Prop := ∀ i, i + 1 < l.length → 0 ≤ deO (l.getD (i + 1) de0) (l.getD i de0)
theorem dbC_mk {r : List UInt8} {l : List DE} (h : realmS r = true) (h2 : l.length ≤ 60) (h3 : ∀ s ∈ l, deV s) (h4 : srt l) : dbC r l = 0 := by
  refine dbC_ok h (by omega) fun i hi => ?_
  have h5 := h3 _ (getD_mem (d := de0) hi)
  refine deE_3 h5 fun hh => ?_
  have h6 := h4 (i - 1) (by omega)
  rw [show i - 1 + 1 = i by omega] at h6
  omega
theorem dbC_un {r : List UInt8} {l : List DE} (h : dbC r l = 0) : realmS r = true ∧ l.length ≤ 60 ∧ (∀ s ∈ l, deV s) ∧ srt l := by
  obtain ⟨h1, h2, h3⟩ := dbC_is h
  refine ⟨h1, h2, fun s hs => ?_, fun i hi => ?_⟩
  · obtain ⟨j, hj, rfl⟩ := mem_getD de0 hs
    have := h3 j hj
    by_cases e : deC (l.getD j de0) = 0
    · exact e
    · rw [deE_1 e] at this; exact this
  · have := h3 (i + 1) hi
    by_cases e : deC (l.getD (i + 1) de0) = 0
    · by_cases e2 : 0 < i + 1 ∧ deO (l.getD (i + 1) de0) (l.getD (i + 1 - 1) de0) < 0
      · rw [deE_2 e e2] at this; cases this
      · rw [show i + 1 - 1 = i by omega] at e2; omega
    · rw [deE_1 e] at this; exact absurd this e
/-- where an entry goes, and the entries with it -/
def posD (e : DE) (l : List DE) : Nat := l.findIdx fun s => decide (0 < deO s e)
theorem posD_le (e : DE) (l : List DE) : posD e l ≤ l.length := List.findIdx_le_length
theorem posD_at {e : DE} {l : List DE} {j : Nat} (h : j < l.length) (h1 : ∀ i, i < j → ¬ 0 < deO (l.getD i de0) e) (h2 : 0 < deO (l.getD j de0) e) : posD e l = j :=
  find_at de0 h (fun i hi => decide_eq_false (h1 i hi)) (decide_eq_true h2)
theorem posD_no {e : DE} {l : List DE} (h1 : ∀ i, i < l.length → ¬ 0 < deO (l.getD i de0) e) : posD e l = l.length :=
  find_no de0 (fun i hi => decide_eq_false (h1 i hi))
theorem posD_hit {e : DE} {l : List DE} (h : posD e l < l.length) : 0 < deO (l.getD (posD e l) de0) e := by
  have := find_hit (p := fun s => decide (0 < deO s e)) de0 h
  exact of_decide_eq_true this
theorem posD_miss {e : DE} {l : List DE} {i : Nat} (h : i < posD e l) : ¬ 0 < deO (l.getD i de0) e := by
  have := find_miss (p := fun s => decide (0 < deO s e)) (l := l) (i := i) de0 h
  exact of_decide_eq_false this
def insD (e : DE) (l : List DE) : List DE := l.take (posD e l) ++ [e] ++ l.drop (posD e l)
theorem insD_len (e : DE) (l : List DE) : (insD e l).length = l.length + 1 := by
  have := posD_le e l
  simp [insD]; omega
theorem insD_mem {e : DE} {l : List DE} {s : DE} (h : s ∈ insD e l) : s = e ∨ s ∈ l := by
  rw [insD, List.mem_append, List.mem_append] at h
  rcases h with (h | h) | h
  · exact .inr (List.mem_of_mem_take h)
  · exact .inl (by simpa using h)
  · exact .inr (List.mem_of_mem_drop h)
theorem insD_get (e : DE) (l : List DE) (i : Nat) : (insD e l).getD i de0 = if i < posD e l then l.getD i de0 else if i = posD e l then e else l.getD (i - 1) de0 := by
  have hp := posD_le e l
  have ht : (l.take (posD e l)).length = posD e l := by simp; omega
  unfold insD
  split
  · rename_i h
    rw [app_getD (by simp; omega), app_getD (by omega), take_getD h]
  · rename_i h
    split
    · rename_i h2
      rw [app_getD (by simp; omega), app_getD' (by omega), ht, h2]
      simp
    · rename_i h2
      rw [app_getD' (by simp; omega)]
      rw [List.length_append, ht, List.length_singleton, List.getD_eq_getElem?_getD, List.getElem?_drop, ← List.getD_eq_getElem?_getD]
      congr 1; omega
theorem insD_srt {e : DE} {l : List DE} (h : srt l) : srt (insD e l) := by
  intro i hi
  rw [insD_len] at hi
  have hp := posD_le e l
  rw [insD_get, insD_get]
  by_cases h1 : i + 1 < posD e l
  · rw [if_pos h1, if_pos (by omega)]
    exact h i (by omega)
  · rw [if_neg h1]
    by_cases h2 : i + 1 = posD e l
    · rw [if_pos h2, if_pos (by omega)]
      have := posD_miss (e := e) (l := l) (i := i) (by omega)
      rw [deO_anti]; omega
    · rw [if_neg h2, if_neg (by omega)]
      by_cases h3 : i = posD e l
      · rw [if_pos h3, show i + 1 - 1 = posD e l by omega]
        have := posD_hit (e := e) (l := l) (by omega)
        omega
      · rw [if_neg h3, show i + 1 - 1 = i - 1 + 1 by omega]
        exact h (i - 1) (by omega)
theorem insD_ok {r : List UInt8} {e : DE} {l : List DE} (h : dbC r l = 0) (he : deV e) (h2 : l.length < 60) : dbC r (insD e l) = 0 := by
  obtain ⟨h1, _, h3, h4⟩ := dbC_un h
  refine dbC_mk h1 (by rw [insD_len]; omega) (fun s hs => ?_) (insD_srt h4)
  rcases insD_mem hs with rfl | hs
  · exact he
  · exact h3 s hs
section
variable {r : List UInt8} {l : List DE} {i : Int} {e : DE} {k : Int}
end
/-- a database that is too long for the laws -/
def dbLgE (s : DE) : Prop := 100 < s.x.length ∨ 100 < s.y.length
instance (s : DE) : Decidable (dbLgE s) := by unfold dbLgE; infer_instance
def bitOn (bit a : Int) : Bool := IntKind.i64.wrap (bitN .and .i64 a bit) != 0
section
variable {x y : List UInt8} {l : List DE} {now bit e1 e2 : Int}
theorem dbU_1 (h : ¬ (dbF x y l).2 = 0) : dbU x y l now (bitOn bit) e1 e2 = (0, (dbF x y l).2) := by rw [dbU, if_pos h]
theorem dbU_2 (h : (dbF x y l).2 = 0) (h1 : keyOk (l.getD (dbF x y l).1.toNat de0).k = false) : dbU x y l now (bitOn bit) e1 e2 = (0, 10) := by rw [dbU, if_neg (fun hh => hh h), if_pos h1]
theorem dbU_3 (h : (dbF x y l).2 = 0) (h1 : keyOk (l.getD (dbF x y l).1.toNat de0).k = true) (h2 : ¬ (l.getD (dbF x y l).1.toNat de0).ex = 0 ∧ (l.getD (dbF x y l).1.toNat de0).ex ≤ now) : dbU x y l now (bitOn bit) e1 e2 = (0, e1) := by
  rw [dbU, if_neg (fun hh => hh h), if_neg (by rw [h1]; decide), if_pos h2]
theorem dbU_4 (h : (dbF x y l).2 = 0) (h1 : keyOk (l.getD (dbF x y l).1.toNat de0).k = true) (h2 : ¬ (¬ (l.getD (dbF x y l).1.toNat de0).ex = 0 ∧ (l.getD (dbF x y l).1.toNat de0).ex ≤ now)) (h3 : ¬ IntKind.i64.wrap (bitN .and .i64 (l.getD (dbF x y l).1.toNat de0).atr bit) = 0) : dbU x y l now (bitOn bit) e1 e2 = (0, e2) := by
  rw [dbU, if_neg (fun hh => hh h), if_neg (by rw [h1]; decide), if_neg h2, if_pos (by rw [bitOn, bne_iff_ne]; exact h3)]
theorem dbU_5 (h : (dbF x y l).2 = 0) (h1 : keyOk (l.getD (dbF x y l).1.toNat de0).k = true) (h2 : ¬ (¬ (l.getD (dbF x y l).1.toNat de0).ex = 0 ∧ (l.getD (dbF x y l).1.toNat de0).ex ≤ now)) (h3 : IntKind.i64.wrap (bitN .and .i64 (l.getD (dbF x y l).1.toNat de0).atr bit) = 0) : dbU x y l now (bitOn bit) e1 e2 = ((dbF x y l).1, 0) := by
  rw [dbU, if_neg (fun hh => hh h), if_neg (by rw [h1]; decide), if_neg h2, if_neg (by rw [bitOn, h3]; decide)]
end
end Go.Sx

/-
  Sealed boxes as plain functions: for every input.
-/
namespace Go.Sx

def boxB (kd k : Int) (b : List UInt8) : List UInt8 := [66, byteOf kd] ++ keyB k ++ [digit (b.length : Int) 1, digit (b.length : Int) 0] ++ b
theorem boxB_len (kd k : Int) (b : List UInt8) : (boxB kd k b).length = 12 + b.length := by simp [boxB, keyB_len]; omega
def makeS (kd k : Int) (b : List UInt8) : List UInt8 × Int :=
  if ¬ (1 ≤ kd ∧ kd ≤ 10) then ([], 104) else if keyOk k = false then ([], 10) else if 1000 < b.length then ([], 105) else (boxB kd k b, 0)
theorem makeS_4 {kd k : Int} {b : List UInt8} (h : ¬ (1 ≤ kd ∧ kd ≤ 10)) : makeS kd k b = ([], 104) := by rw [makeS, if_pos h]
theorem makeS_10 {kd k : Int} {b : List UInt8} (h : 1 ≤ kd ∧ kd ≤ 10) (h1 : keyOk k = false) : makeS kd k b = ([], 10) := by rw [makeS, if_neg (by omega), if_pos h1]
theorem makeS_5 {kd k : Int} {b : List UInt8} (h : 1 ≤ kd ∧ kd ≤ 10) (h1 : keyOk k = true) (h2 : 1000 < b.length) : makeS kd k b = ([], 105) := by rw [makeS, if_neg (by omega), if_neg (by simp [h1]), if_pos h2]
theorem makeS_ok {kd k : Int} {b : List UInt8} (h : 1 ≤ kd ∧ kd ≤ 10) (h1 : keyOk k = true) (h2 : ¬ 1000 < b.length) : makeS kd k b = (boxB kd k b, 0) := by rw [makeS, if_neg (by omega), if_neg (by simp [h1]), if_neg h2]
theorem makeS_len (kd k : Int) (b : List UInt8) : (makeS kd k b).1.length ≤ 1012 := by
  unfold makeS
  split
  · simp
  · split
    · simp
    · split
      · simp
      · rw [boxB_len]; omega

def boxN (b : List UInt8) : Int := ((b.getD 10 0).toNat : Int) * 256 + ((b.getD 11 0).toNat : Int)
def boxK (b : List UInt8) : Int × Bool := readK ((b.take 10).drop 2)
abbrev BoxT := Int × Int × List UInt8
def boxR (b : List UInt8) : BoxT × Int × Int :=
  if b.length < 12 then ((0, 0, []), 0, 101)
  else if ((b.getD 0 0).toNat : Int) = 66 ∧ (1 ≤ ((b.getD 1 0).toNat : Int) ∧ ((b.getD 1 0).toNat : Int) ≤ 10) ∧ (boxK b).2 = true ∧ boxN b ≤ 1000 then
    (if (b.length : Int) < 12 + boxN b then ((0, 0, []), 0, 101) else ((((b.getD 1 0).toNat : Int), (boxK b).1, (b.take (12 + boxN b).toNat).drop 12), 12 + boxN b, 0))
  else ((0, 0, []), 0, 100)
theorem boxR_short {b : List UInt8} (h : b.length < 12) : boxR b = ((0, 0, []), 0, 101) := by rw [boxR, if_pos h]
theorem boxR_bad {b : List UInt8} (h : ¬ b.length < 12) (h1 : ¬ (((b.getD 0 0).toNat : Int) = 66 ∧ (1 ≤ ((b.getD 1 0).toNat : Int) ∧ ((b.getD 1 0).toNat : Int) ≤ 10) ∧ (boxK b).2 = true ∧ boxN b ≤ 1000)) : boxR b = ((0, 0, []), 0, 100) := by rw [boxR, if_neg h, if_neg h1]
theorem boxR_end {b : List UInt8} (h : ¬ b.length < 12) (h1 : ((b.getD 0 0).toNat : Int) = 66) (h2 : 1 ≤ ((b.getD 1 0).toNat : Int) ∧ ((b.getD 1 0).toNat : Int) ≤ 10) (h3 : (boxK b).2 = true) (h4 : boxN b ≤ 1000) (h5 : (b.length : Int) < 12 + boxN b) : boxR b = ((0, 0, []), 0, 101) := by rw [boxR, if_neg h, if_pos ⟨h1, h2, h3, h4⟩, if_pos h5]
theorem boxR_ok {b : List UInt8} (h : ¬ b.length < 12) (h1 : ((b.getD 0 0).toNat : Int) = 66) (h2 : 1 ≤ ((b.getD 1 0).toNat : Int) ∧ ((b.getD 1 0).toNat : Int) ≤ 10) (h3 : (boxK b).2 = true) (h4 : boxN b ≤ 1000) (h5 : ¬ (b.length : Int) < 12 + boxN b) : boxR b = ((((b.getD 1 0).toNat : Int), (boxK b).1, (b.take (12 + boxN b).toNat).drop 12), 12 + boxN b, 0) := by rw [boxR, if_neg h, if_pos ⟨h1, h2, h3, h4⟩, if_neg h5]
theorem boxR_len (b : List UInt8) : (boxR b).1.2.2.length ≤ 1000 ∧ (boxR b).1.2.2.length ≤ b.length := by
  unfold boxR
  split
  · simp
  · split
    · rename_i h
      split
      · simp
      · simp only [List.length_drop, List.length_take]
        omega
    · simp
def boxO (b : List UInt8) (kd k : Int) : List UInt8 × Bool := if (boxR b).2.2 = 0 ∧ (boxR b).2.1 = b.length ∧ (boxR b).1.1 = kd ∧ (boxR b).1.2.1 = k then ((boxR b).1.2.2, true) else ([], false)
theorem boxO_yes {b : List UInt8} {kd k : Int} (h1 : (boxR b).2.2 = 0) (h2 : (boxR b).2.1 = b.length) (h3 : (boxR b).1.1 = kd) (h4 : (boxR b).1.2.1 = k) : boxO b kd k = ((boxR b).1.2.2, true) := by rw [boxO, if_pos ⟨h1, h2, h3, h4⟩]
theorem boxO_no {b : List UInt8} {kd k : Int} (h : ¬ (boxR b).2.2 = 0 ∨ ¬ (boxR b).2.1 = b.length ∨ ¬ (boxR b).1.1 = kd ∨ ¬ (boxR b).1.2.1 = k) : boxO b kd k = ([], false) := by
  rw [boxO, if_neg (fun hh => by rcases h with h | h | h | h; exact h hh.1; exact h hh.2.1; exact h hh.2.2.1; exact h hh.2.2.2)]
theorem boxO_len (b : List UInt8) (kd k : Int) : (boxO b kd k).1.length ≤ 1000 ∧ (boxO b kd k).1.length ≤ b.length := by
  have := boxR_len b
  unfold boxO
  split
  · exact this
  · simp
end Go.Sx

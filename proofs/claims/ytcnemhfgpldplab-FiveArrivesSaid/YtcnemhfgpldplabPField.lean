/-
  What the fields of messages are, as plain functions: for every input.
-/
import Derived.Test.YtcnemhfgpldplabSxLib
import Derived.Lib.BytesEntry
import Derived.Lib.IndexLaws
set_option linter.all false
namespace Go.Sx

def padN (n : Nat) : Nat := (8 - n % 8) % 8
def padS (b : List UInt8) : List UInt8 := b ++ List.replicate (padN b.length) 0
@[simp] theorem padS_len (b : List UInt8) : (padS b).length = b.length + padN b.length := by simp [padS]

def roomS (len at_ n : Int) : Int := if at_ < 0 ∨ at_ > len ∨ n < 0 then 104 else if n > len - at_ then 101 else 0

theorem roomS_ok {len k n : Int} (h : roomS len k n = 0) : 0 ≤ k ∧ k ≤ len ∧ 0 ≤ n ∧ n ≤ len - k := by
  unfold roomS at h
  split at h
  · cases h
  · split at h
    · cases h
    · omega

def getV (little : Bool) (size : Nat) (b : List UInt8) (at_ : Int) : Int :=
  (List.range size).foldl (fun n i => n * 256 + ((b.getD (at_ + ((if little then size - 1 - i else i : Nat) : Int)).toNat 0).toNat : Int)) 0
def getS (little : Bool) (size : Nat) (b : List UInt8) (at_ : Int) : Int × Int × Int :=
  if roomS b.length at_ size ≠ 0 then (0, 0, roomS b.length at_ size) else (getV little size b at_, at_ + size, 0)

def bytesS (b : List UInt8) (at_ n : Int) : List UInt8 × Int × Int :=
  if roomS b.length at_ n ≠ 0 then ([], 0, roomS b.length at_ n) else ((b.take (at_ + n).toNat).drop at_.toNat, at_ + n, 0)

theorem bytesS_ok {b : List UInt8} {k n : Int} (h : roomS b.length k n = 0) : bytesS b k n = ((b.take (k + n).toNat).drop k.toNat, k + n, 0) := by simp [bytesS, h]
theorem bytesS_no {b : List UInt8} {k n : Int} (h : ¬ roomS b.length k n = 0) : bytesS b k n = ([], 0, roomS b.length k n) := by simp [bytesS, h]
theorem bytesS_104 {b : List UInt8} {k n : Int} (h : k < 0 ∨ k > b.length ∨ n < 0) : bytesS b k n = ([], 0, 104) := by simp [bytesS, roomS, h]
theorem roomS_101 {len : Int} {k n : Int} (h1 : 0 ≤ k) (h2 : k ≤ len) (h3 : 0 ≤ n) (h4 : n > len - k) : roomS len k n = 101 := by
  unfold roomS
  rw [if_neg (by omega), if_pos h4]
theorem roomS_0 {len : Int} {k n : Int} (h1 : 0 ≤ k) (h2 : k ≤ len) (h3 : 0 ≤ n) (h4 : n ≤ len - k) : roomS len k n = 0 := by
  unfold roomS
  rw [if_neg (by omega), if_neg (by omega)]
theorem bytesS_101 {b : List UInt8} {k n : Int} (h1 : 0 ≤ k) (h2 : k ≤ b.length) (h3 : 0 ≤ n) (h4 : n > b.length - k) : bytesS b k n = ([], 0, 101) := by
  have e := roomS_101 h1 h2 h3 h4
  simp [bytesS, e]
theorem bytesS_len {b : List UInt8} {k n : Int} (h : roomS b.length k n = 0) : (bytesS b k n).1.length = n.toNat := by
  have hr := roomS_ok h
  rw [bytesS_ok h]
  simp
  omega
theorem bytesS_le (b : List UInt8) (k n : Int) : (bytesS b k n).1.length ≤ b.length := by
  unfold bytesS
  split
  · simp
  · simp; omega
theorem cut_getD {b : List UInt8} {k n : Int} {j : Nat} (h : roomS b.length k n = 0) (hj : (j : Int) < n) : ((b.take (k + n).toNat).drop k.toNat).getD j 0 = b.getD (k + (j : Int)).toNat 0 := by
  have hr := roomS_ok h
  rw [List.getD_eq_getElem?_getD, List.getD_eq_getElem?_getD, List.getElem?_drop, List.getElem?_take]
  rw [if_pos (by omega), show k.toNat + j = (k + (j : Int)).toNat by omega]

theorem getV_cut {l : Bool} {size : Nat} {b : List UInt8} {k : Int} (h : roomS b.length k size = 0) : getV l size b k =
    (List.range size).foldl (fun n i => n * 256 + ((((b.take (k + size).toNat).drop k.toNat).getD (if l then size - 1 - i else i) 0).toNat : Int)) 0 := by
  unfold getV
  have key : ∀ (q : List Nat) (a : Int), (∀ i ∈ q, i < size) →
      q.foldl (fun n i => n * 256 + ((b.getD (k + ((if l then size - 1 - i else i : Nat) : Int)).toNat 0).toNat : Int)) a =
      q.foldl (fun n i => n * 256 + ((((b.take (k + size).toNat).drop k.toNat).getD (if l then size - 1 - i else i) 0).toNat : Int)) a := by
    intro q
    induction q with
    | nil => intro a _; rfl
    | cons x q ih =>
      intro a hq
      have hx := hq x (by simp)
      simp only [List.foldl_cons]
      rw [cut_getD h (by split <;> omega)]
      exact ih _ (fun i hi => hq i (by simp [hi]))
  exact key _ _ (fun i hi => by simpa using hi)
theorem getS_cut {l : Bool} {size : Nat} {b : List UInt8} {k : Int} (h : roomS b.length k size = 0) : getS l size b k =
    ((List.range size).foldl (fun n i => n * 256 + ((((b.take (k + size).toNat).drop k.toNat).getD (if l then size - 1 - i else i) 0).toNat : Int)) 0, k + size, 0) := by
  rw [getS, if_neg (by simp [h]), getV_cut h]
theorem getS_ok {l : Bool} {size : Nat} {b : List UInt8} {k : Int} (h : roomS b.length k size = 0) : getS l size b k = (getV l size b k, k + size, 0) := by
  rw [getS, if_neg (by simp [h])]
theorem getS_no {l : Bool} {size : Nat} {b : List UInt8} {k : Int} (h : ¬ roomS b.length k size = 0) : getS l size b k = (0, 0, roomS b.length k size) := by
  rw [getS, if_pos h]

def restS (b : List UInt8) (at_ : Int) : List UInt8 := (b.drop at_.toNat).take 40
def textS (b : List UInt8) (at_ : Int) : List UInt8 × Int × Int :=
  if roomS b.length at_ 0 ≠ 0 then ([], 0, roomS b.length at_ 0) else
  if Lib.indexByte (restS b at_) 0 ≥ 0 then ((restS b at_).take (Lib.indexByte (restS b at_) 0).toNat, at_ + Lib.indexByte (restS b at_) 0 + 1, 0) else
  if (restS b at_).length = 40 then ([], 0, 105) else ([], 0, 101)

theorem textS_no {b : List UInt8} {k : Int} (h : ¬ roomS b.length k 0 = 0) : textS b k = ([], 0, roomS b.length k 0) := by
  rw [textS, if_pos h]
theorem textS_yes {b R : List UInt8} {k : Int} (h : roomS b.length k 0 = 0) (hR : restS b k = R) (h1 : 0 ≤ Lib.indexByte R 0) : textS b k = (R.take (Lib.indexByte R 0).toNat, k + Lib.indexByte R 0 + 1, 0) := by
  rw [textS, if_neg (by simp [h]), hR, if_pos h1]
theorem textS_long {b R : List UInt8} {k : Int} (h : roomS b.length k 0 = 0) (hR : restS b k = R) (h1 : Lib.indexByte R 0 < 0) (h2 : R.length = 40) : textS b k = ([], 0, 105) := by
  rw [textS, if_neg (by simp [h]), hR, if_neg (by omega), if_pos h2]
theorem textS_end {b R : List UInt8} {k : Int} (h : roomS b.length k 0 = 0) (hR : restS b k = R) (h1 : Lib.indexByte R 0 < 0) (h2 : ¬ R.length = 40) : textS b k = ([], 0, 101) := by
  rw [textS, if_neg (by simp [h]), hR, if_neg (by omega), if_neg h2]
theorem rest_len {b : List UInt8} {k : Int} (hk : 0 ≤ k ∧ k ≤ b.length) : (restS b k).length = min 40 (b.length - k.toNat) := by
  simp [restS]
theorem rest_getD {b : List UInt8} {k : Int} {i : Nat} (hk : 0 ≤ k) (hi : i < 40) : (restS b k).getD i 0 = b.getD (k + i).toNat 0 := by
  rw [restS, List.getD_eq_getElem?_getD, List.getD_eq_getElem?_getD, List.getElem?_take, if_pos hi, List.getElem?_drop, show (k + i).toNat = k.toNat + i by omega]
theorem rest_take {b : List UInt8} {k : Int} {i : Nat} (hk : 0 ≤ k) (hi : i ≤ 40) : (b.take (k + i).toNat).drop k.toNat = (restS b k).take i := by
  rw [restS, List.take_take, show min i 40 = i by omega, List.drop_take]
  congr 1
  omega

theorem indexByte_at : ∀ (l : List UInt8) (c : UInt8) (k : Nat), k < l.length → l.getD k 0 = c → (∀ i, i < k → l.getD i 0 ≠ c) → Lib.indexByte l c = k
  | [], c, k, h, _, _ => by simp at h
  | x :: l, c, 0, _, h, _ => by simp at h; simp [Lib.indexByte, h]
  | x :: l, c, k + 1, h1, h2, h3 => by
    have hx : x ≠ c := by simpa using h3 0 (by omega)
    have ih := indexByte_at l c k (by simpa using h1) (by simpa using h2) (fun i hi => by simpa using h3 (i + 1) (by omega))
    unfold Lib.indexByte
    rw [ih]
    simp [hx]
    try omega
theorem indexByte_bounds (l : List UInt8) (c : UInt8) : -1 ≤ Lib.indexByte l c ∧ Lib.indexByte l c < l.length := by
  refine ⟨Lib.indexByte_ge l c, ?_⟩
  by_cases h : Lib.indexByte l c < 0
  · omega
  · obtain ⟨h1, _⟩ := Lib.indexByte_some (l := l) (c := c) (o := (Lib.indexByte l c).toNat) (by omega)
    obtain ⟨h2, _⟩ := List.getElem?_eq_some_iff.mp h1
    omega
theorem indexByte_no : ∀ (l : List UInt8) (c : UInt8), (∀ i, i < l.length → l.getD i 0 ≠ c) → Lib.indexByte l c = -1
  | [], c, _ => rfl
  | x :: l, c, h => by
    have hx : x ≠ c := by simpa using h 0 (by simp)
    have ih := indexByte_no l c (fun i hi => by simpa using h (i + 1) (by simpa using hi))
    unfold Lib.indexByte
    rw [ih]
    simp [hx]

theorem u8_zero {x : UInt8} (h : (x.toNat : Int) = 0) : x = 0 := UInt8.toNat_inj.mp (by simpa using h)
theorem textS_zero {b : List UInt8} {k : Int} {j : Nat} (h : roomS b.length k 0 = 0) (hj : j < 40) (hl : k + j < b.length) (hz : ∀ i, i < j → (restS b k).getD i 0 ≠ 0)
    (h0 : ((b.getD (k + j).toNat 0).toNat : Int) = 0) : textS b k = ((b.take (k + j).toNat).drop k.toNat, k + j + 1, 0) := by
  have hr := roomS_ok h
  have hlen := rest_len (b := b) (k := k) (by omega)
  have e : Lib.indexByte (restS b k) 0 = j := indexByte_at _ _ j (by omega) (by rw [rest_getD hr.1 hj]; exact u8_zero h0) hz
  rw [textS_yes h rfl (by omega), e, rest_take hr.1 (by omega)]
  rfl
theorem textS_step {b : List UInt8} {k : Int} {j : Nat} (hk : 0 ≤ k) (hj : j < 40) (hz : ∀ i, i < j → (restS b k).getD i 0 ≠ 0)
    (h0 : ¬ ((b.getD (k + j).toNat 0).toNat : Int) = 0) : ∀ i, i < j + 1 → (restS b k).getD i 0 ≠ 0 := by
  intro i hi
  by_cases e : i = j
  · subst e
    rw [rest_getD hk hj]
    intro h
    rw [h] at h0
    exact h0 rfl
  · exact hz i (by omega)

def paddingS (b : List UInt8) (at_ : Int) : Bool :=
  if at_ < 0 ∨ at_ > b.length ∨ b.length % 8 ≠ 0 ∨ (b.length : Int) - at_ ≥ 8 then false else (b.drop at_.toNat).all (· == 0)

theorem drop_getD {b : List UInt8} {k : Int} {j : Nat} (hk : 0 ≤ k) : (b.drop k.toNat).getD j 0 = b.getD (k + j).toNat 0 := by
  rw [List.getD_eq_getElem?_getD, List.getD_eq_getElem?_getD, List.getElem?_drop, show (k + j).toNat = k.toNat + j by omega]
theorem paddingS_no {b : List UInt8} {k : Int} (h : k < 0 ∨ k > b.length ∨ b.length % 8 ≠ 0 ∨ (b.length : Int) - k ≥ 8) : paddingS b k = false := by
  rw [paddingS, if_pos h]
theorem paddingS_bad {b : List UInt8} {k : Int} {j : Nat} (hk : 0 ≤ k) (hj : k + j < b.length) (h0 : ¬ ((b.getD (k + j).toNat 0).toNat : Int) = 0) : paddingS b k = false := by
  unfold paddingS
  split
  · rfl
  · rw [List.all_eq_false]
    refine ⟨b.getD (k + j).toNat 0, ?_, ?_⟩
    · rw [List.getD_eq_getElem?_getD, List.getElem?_eq_getElem (by omega)]
      rw [List.mem_iff_getElem?]
      refine ⟨j, ?_⟩
      rw [List.getElem?_drop, show k.toNat + j = (k + j).toNat by omega, List.getElem?_eq_getElem (by omega)]
      rfl
    · intro h
      rw [beq_iff_eq] at h
      rw [h] at h0
      exact h0 rfl
theorem paddingS_ok {b : List UInt8} {k : Int} (h1 : 0 ≤ k ∧ k ≤ b.length) (h2 : b.length % 8 = 0) (h3 : (b.length : Int) - k < 8) (h0 : ∀ i : Nat, k + i < b.length → b.getD (k + i).toNat 0 = 0) : paddingS b k = true := by
  rw [paddingS, if_neg (by omega), List.all_eq_true]
  intro x hx
  rw [List.mem_iff_getElem?] at hx
  obtain ⟨i, hi⟩ := hx
  rw [List.getElem?_drop] at hi
  obtain ⟨hlt, _⟩ := List.getElem?_eq_some_iff.mp hi
  have := h0 i (by omega)
  rw [List.getD_eq_getElem?_getD, show (k + i).toNat = k.toNat + i by omega, hi] at this
  simpa using this
theorem padding_step {b : List UInt8} {k : Int} {j : Nat} (hz : ∀ i : Nat, i < j → b.getD (k + i).toNat 0 = 0) (h0 : ((b.getD (k + j).toNat 0).toNat : Int) = 0) : ∀ i : Nat, i < j + 1 → b.getD (k + i).toNat 0 = 0 := by
  intro i hi
  by_cases e : i = j
  · subst e
    exact u8_zero h0
  · exact hz i (by omega)

theorem padS_eq {b : List UInt8} {i : Nat} (hi : i ≤ padN b.length) (h : ((b.length : Int) + i) % 8 = 0) : padS b = b ++ List.replicate i 0 := by
  have : i = padN b.length := by unfold padN at *; omega
  rw [padS, this]
theorem padN_lt (n : Nat) : padN n < 8 := by unfold padN; omega
theorem rep_u8 (x : UInt8) : ∀ n : Nat, rep [L.i .u8 (x.toNat : Int)] n = (List.replicate n x).map u8
  | 0 => rfl
  | n + 1 => by rw [rep, rep_u8 x n]; rfl
end Go.Sx

/-
  The names, keys and numbers that the laws' data are made of, as plain functions: for every input.
-/
import Derived.Test.YtcnemhfgpldplabPPrin
set_option linter.all false
namespace Go.Sx

/-- the number that a source hands out at its place k -/
def nx (l : List UInt8) (k : Nat) (n : Int) : Int := ((l.getD k 0).toNat : Int) % n
/-- where a source stands behind k numbers -/
def atS (l : List UInt8) (k : Nat) : Int := ((min k l.length : Nat) : Int)
theorem nx_bounds (l : List UInt8) (k : Nat) {n : Int} (h : 0 < n) : 0 ≤ nx l k n ∧ nx l k n < n := ⟨Int.emod_nonneg _ (by omega), Int.emod_lt_of_pos _ h⟩
theorem nx_end {l : List UInt8} {k : Nat} {n : Int} (h : l.length ≤ k) : nx l k n = 0 := by
  rw [nx, List.getD_eq_getElem?_getD, List.getElem?_eq_none h]
  simp

def realmN (n : Int) : List UInt8 := if n % 3 = 0 then [65, 84, 72] else if n % 3 = 1 then [66, 79, 83] else [67, 65, 77]
def userN (n : Int) : List UInt8 := if n % 3 = 0 then [97, 110, 110] else if n % 3 = 1 then [98, 111, 98] else [99, 97, 116]
def serviceN (n : Int) : List UInt8 := if n % 3 = 0 then [109, 97, 105, 108] else if n % 3 = 1 then [110, 102, 115] else [107, 114, 98, 116, 103, 116]
def serviceI (n : Int) : List UInt8 := if n % 3 = 0 then [] else if n % 3 = 1 then [104, 111, 109, 101] else [65, 84, 72]
def longN : List UInt8 := List.replicate 39 110
def longM : List UInt8 := List.replicate 38 110

theorem user_valid (n m : Int) : validS (userN n) [] (realmN m) = true := by
  unfold userN realmN
  split
  · split
    · decide +kernel
    · split <;> decide +kernel
  · split
    · split
      · decide +kernel
      · split <;> decide +kernel
    · split
      · decide +kernel
      · split <;> decide +kernel
theorem realm_valid (m : Int) : realmS (realmN m) = true := by
  unfold realmN
  split
  · decide +kernel
  · split <;> decide +kernel
theorem service_valid (n : Int) : nameS (serviceN n) = true ∧ instS (serviceI n) = true := by
  unfold serviceN serviceI
  split
  · decide +kernel
  · split <;> decide +kernel
theorem longest_valid : validS longN longN longN = true ∧ validS longM longM longM = true ∧ nameS longN = true ∧ instS longN = true := by decide +kernel
theorem name_len {s : List UInt8} (h : nameS s = true) : s.length ≤ 39 := by
  unfold nameS at h
  simp only [Bool.and_eq_true, decide_eq_true_eq] at h
  exact h.2.1
theorem inst_len {s : List UInt8} (h : instS s = true) : s.length ≤ 39 := by
  unfold instS at h
  simp only [Bool.and_eq_true, decide_eq_true_eq] at h
  exact h.1
theorem realm_len {s : List UInt8} (h : realmS s = true) : s.length ≤ 39 := by
  unfold realmS at h
  simp only [Bool.and_eq_true] at h
  exact inst_len h.2
theorem valid_len {x y z : List UInt8} (h : validS x y z = true) : x.length ≤ 39 ∧ y.length ≤ 39 ∧ z.length ≤ 39 := by
  unfold validS at h
  simp only [Bool.and_eq_true] at h
  exact ⟨name_len h.1, inst_len h.2.1, realm_len h.2.2⟩

theorem put_u8 (b : List UInt8) (k : Nat) (x : UInt8) (h : k < b.length) : putAt (b.map u8) k [L.i .u8 (x.toNat : Int)] = (b.set k x).map u8 := by
  unfold putAt
  rw [List.set_eq_take_append_cons_drop, if_pos h]
  simp [List.map_take, List.map_drop, u8]
theorem bitK_byte {op : BinOp} {a b : Int} {K : Int → Prop} (hk : K ((byteOf (bitN op .u8 a b)).toNat : Int)) : bitK op .u8 a b K := ⟨by rw [← byteOf_toNat]; exact hk⟩
theorem shlK_byte {a b : Int} {K : Int → Prop} (h : 0 ≤ b) (hk : K ((byteOf (a * 2 ^ (min b.toNat IntKind.u8.bits))).toNat : Int)) : shlK .u8 a b K := ⟨h, by rw [← byteOf_toNat]; exact hk⟩
theorem remK_at {a b : Int} (c : Int) {K : Int → Prop} (e : b = c) (h : 0 ≤ a ∧ 0 < c) (hk : K (a % c)) : remK a b K := by
  subst e
  exact remK_pos h hk
end Go.Sx

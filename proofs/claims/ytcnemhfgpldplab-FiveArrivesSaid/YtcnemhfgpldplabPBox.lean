/-
  Sealed boxes as plain functions: for every input.
-/
import Derived.Test.YtcnemhfgpldplabPTick
set_option linter.all false
namespace Go.Sx

def boxB (kd k : Int) (b : List UInt8) : List UInt8 := [66, byteOf kd] ++ keyB k ++ [digit (b.length : Int) 1, digit (b.length : Int) 0] ++ b
theorem boxB_len (kd k : Int) (b : List UInt8) : (boxB kd k b).length = 12 + b.length := by simp [boxB, keyB_len]; omega
def makeS (kd k : Int) (b : List UInt8) : List UInt8 × Int :=
  if ¬ (1 ≤ kd ∧ kd ≤ 10) then ([], 104) else if keyOk k = false then ([], 10) else if 1000 < b.length then ([], 105) else (boxB kd k b, 0)
theorem makeS_4 {kd k : Int} {b : List UInt8} (h : ¬ (1 ≤ kd ∧ kd ≤ 10)) : makeS kd k b = ([], 104) := by rw [makeS, if_pos h]
theorem makeS_10 {kd k : Int} {b : List UInt8} (h : 1 ≤ kd ∧ kd ≤ 10) (h1 : keyOk k = false) : makeS kd k b = ([], 10) := by rw [makeS, if_neg (by omega), if_pos h1]
theorem makeS_5 {kd k : Int} {b : List UInt8} (h : 1 ≤ kd ∧ kd ≤ 10) (h1 : keyOk k = true) (h2 : 1000 < b.length) : makeS kd k b = ([], 105) := by rw [makeS, if_neg (by omega), if_neg (by simp [h1]), if_pos h2]
theorem makeS_ok {kd k : Int} {b : List UInt8} (h : 1 ≤ kd ∧ kd ≤ 10) (h1 : keyOk k = true) (h2 : ¬ 1000 < b.length) : makeS kd k b = (boxB kd k b, 0) := by rw [makeS, if_neg (by omega), if_neg (by simp [h1]), if_neg h2]
theorem makeS_len (kd k : Int) (b : List UInt8) : (makeS kd k b).1.length ≤ 1012 := by
  unfold makeS
  split
  · simp
  · split
    · simp
    · split
      · simp
      · rw [boxB_len]; omega

def boxN (b : List UInt8) : Int := ((b.getD 10 0).toNat : Int) * 256 + ((b.getD 11 0).toNat : Int)
def boxK (b : List UInt8) : Int × Bool := readK ((b.take 10).drop 2)
abbrev BoxT := Int × Int × List UInt8
def boxOk (b : List UInt8) : Prop := ((b.getD 0 0).toNat : Int) = 66 ∧ (1 ≤ ((b.getD 1 0).toNat : Int) ∧ ((b.getD 1 0).toNat : Int) ≤ 10) ∧ (boxK b).2 = true ∧ boxN b ≤ 1000
def boxR (b : List UInt8) : BoxT × Int × Int :=
  if b.length < 12 then ((0, 0, []), 0, 101)
  else if ((b.getD 0 0).toNat : Int) = 66 ∧ (1 ≤ ((b.getD 1 0).toNat : Int) ∧ ((b.getD 1 0).toNat : Int) ≤ 10) ∧ (boxK b).2 = true ∧ boxN b ≤ 1000 then
    (if (b.length : Int) < 12 + boxN b then ((0, 0, []), 0, 101) else ((((b.getD 1 0).toNat : Int), (boxK b).1, (b.take (12 + boxN b).toNat).drop 12), 12 + boxN b, 0))
  else ((0, 0, []), 0, 100)
theorem boxR_short {b : List UInt8} (h : b.length < 12) : boxR b = ((0, 0, []), 0, 101) := by rw [boxR, if_pos h]
theorem boxR_bad {b : List UInt8} (h : ¬ b.length < 12) (h1 : ¬ (((b.getD 0 0).toNat : Int) = 66 ∧ (1 ≤ ((b.getD 1 0).toNat : Int) ∧ ((b.getD 1 0).toNat : Int) ≤ 10) ∧ (boxK b).2 = true ∧ boxN b ≤ 1000)) : boxR b = ((0, 0, []), 0, 100) := by rw [boxR, if_neg h, if_neg h1]
theorem boxR_end {b : List UInt8} (h : ¬ b.length < 12) (h1 : ((b.getD 0 0).toNat : Int) = 66) (h2 : 1 ≤ ((b.getD 1 0).toNat : Int) ∧ ((b.getD 1 0).toNat : Int) ≤ 10) (h3 : (boxK b).2 = true) (h4 : boxN b ≤ 1000) (h5 : (b.length : Int) < 12 + boxN b) : boxR b = ((0, 0, []), 0, 101) := by rw [boxR, if_neg h, if_pos ⟨h1, h2, h3, h4⟩, if_pos h5]
theorem boxR_ok {b : List UInt8} (h : ¬ b.length < 12) (h1 : ((b.getD 0 0).toNat : Int) = 66) (h2 : 1 ≤ ((b.getD 1 0).toNat : Int) ∧ ((b.getD 1 0).toNat : Int) ≤ 10) (h3 : (boxK b).2 = true) (h4 : boxN b ≤ 1000) (h5 : ¬ (b.length : Int) < 12 + boxN b) : boxR b = ((((b.getD 1 0).toNat : Int), (boxK b).1, (b.take (12 + boxN b).toNat).drop 12), 12 + boxN b, 0) := by rw [boxR, if_neg h, if_pos ⟨h1, h2, h3, h4⟩, if_neg h5]
theorem boxR_len (b : List UInt8) : (boxR b).1.2.2.length ≤ 1000 ∧ (boxR b).1.2.2.length ≤ b.length := by
  unfold boxR
  split
  · simp
  · split
    · rename_i h
      split
      · simp
      · simp only [List.length_drop, List.length_take]
        omega
    · simp
theorem boxR_key (b : List UInt8) : 0 ≤ (boxR b).1.2.1 ∧ (boxR b).1.2.1 ≤ 18446744073709551615 := by
  unfold boxR
  split
  · simp
  · split
    · split
      · simp
      · exact readK_bounds _
    · simp
def boxO (b : List UInt8) (kd k : Int) : List UInt8 × Bool := if (boxR b).2.2 = 0 ∧ (boxR b).2.1 = b.length ∧ (boxR b).1.1 = kd ∧ (boxR b).1.2.1 = k then ((boxR b).1.2.2, true) else ([], false)
theorem boxO_yes {b : List UInt8} {kd k : Int} (h1 : (boxR b).2.2 = 0) (h2 : (boxR b).2.1 = b.length) (h3 : (boxR b).1.1 = kd) (h4 : (boxR b).1.2.1 = k) : boxO b kd k = ((boxR b).1.2.2, true) := by rw [boxO, if_pos ⟨h1, h2, h3, h4⟩]
theorem boxO_no {b : List UInt8} {kd k : Int} (h : ¬ (boxR b).2.2 = 0 ∨ ¬ (boxR b).2.1 = b.length ∨ ¬ (boxR b).1.1 = kd ∨ ¬ (boxR b).1.2.1 = k) : boxO b kd k = ([], false) := by
  rw [boxO, if_neg (fun hh => by rcases h with h | h | h | h; exact h hh.1; exact h hh.2.1; exact h hh.2.2.1; exact h hh.2.2.2)]
theorem boxO_len (b : List UInt8) (kd k : Int) : (boxO b kd k).1.length ≤ 1000 ∧ (boxO b kd k).1.length ≤ b.length := by
  have := boxR_len b
  unfold boxO
  split
  · exact this
  · simp
theorem byte_small {n : Int} (h : 0 ≤ n ∧ n ≤ 255) : ((byteOf n).toNat : Int) = n := by rw [byteOf_toNat, wrap_u8 h]
/-- what a box is read as -/
theorem boxR_boxB {kd k : Int} {b : List UInt8} (hkd : 1 ≤ kd ∧ kd ≤ 10) (hk : 0 ≤ k ∧ k ≤ 18446744073709551615) (ho : keyOk k = true) (hb : b.length ≤ 1000) : boxR (boxB kd k b) = ((kd, k, b), 12 + (b.length : Int), 0) := by
  have hl := boxB_len kd k b
  have e0 : (boxB kd k b).getD 0 0 = 66 := rfl
  have e1 : (boxB kd k b).getD 1 0 = byteOf kd := rfl
  have eN : boxN (boxB kd k b) = b.length := by
    have h1 : (boxB kd k b).getD 10 0 = digit (b.length : Int) 1 := rfl
    have h2 : (boxB kd k b).getD 11 0 = digit (b.length : Int) 0 := rfl
    rw [boxN, h1, h2, digit_val, digit_val]
    omega
  have eK : boxK (boxB kd k b) = (k, true) := by
    have : ((boxB kd k b).take 10).drop 2 = keyB k := by simp [boxB, keyB]
    rw [boxK, this, readK_key hk ho]
  rw [boxR_ok (by omega) (by rw [e0]; rfl) (by rw [e1, byte_small (by omega)]; omega) (by rw [eK]) (by rw [eN]; omega) (by rw [hl, eN]; omega), eN, eK, e1, byte_small (by omega)]
  have : ((boxB kd k b).take (12 + (b.length : Int)).toNat).drop 12 = b := by
    rw [List.take_of_length_le (by omega)]
    simp [boxB, keyB]
  rw [this]
theorem boxO_boxB {kd k : Int} {b : List UInt8} (hkd : 1 ≤ kd ∧ kd ≤ 10) (hk : 0 ≤ k ∧ k ≤ 18446744073709551615) (ho : keyOk k = true) (hb : b.length ≤ 1000) : boxO (boxB kd k b) kd k = (b, true) := by
  have h := boxR_boxB hkd hk ho hb
  have hl := boxB_len kd k b
  rw [boxO_yes (by rw [h]) (by rw [h, hl]; simp) (by rw [h]) (by rw [h]), h]
theorem boxO_other {kd k k' : Int} {b : List UInt8} (hkd : 1 ≤ kd ∧ kd ≤ 10) (hk : 0 ≤ k ∧ k ≤ 18446744073709551615) (ho : keyOk k = true) (hb : b.length ≤ 1000) (hne : ¬ k = k') : boxO (boxB kd k b) kd k' = ([], false) := by
  have h := boxR_boxB hkd hk ho hb
  exact boxO_no (.inr (.inr (.inr (by rw [h]; exact hne))))
theorem boxO_is {b : List UInt8} {kd k : Int} (h : (boxO b kd k).2 = true) : (boxR b).2.2 = 0 ∧ (boxR b).2.1 = b.length ∧ (boxR b).1.1 = kd ∧ (boxR b).1.2.1 = k ∧ (boxO b kd k).1 = (boxR b).1.2.2 := by
  unfold boxO at h ⊢
  split at h
  · rename_i hh
    rw [if_pos hh]
    exact ⟨hh.1, hh.2.1, hh.2.2.1, hh.2.2.2, rfl⟩
  · cases h
end Go.Sx

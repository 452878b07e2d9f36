/-
  What keys are, as plain functions: for every input.
-/
import Derived.Test.YtcnemhfgpldplabPTrip
set_option linter.all false
namespace Go.Sx

def keyTop (k : Int) : Int := k / 72057594037927936
def keyLow (k : Int) : Int := k % 72057594037927936
def keyOk (k : Int) : Bool := decide ((keyTop k = 1 ∨ keyTop k = 2) ∧ 1 ≤ keyLow k ∧ keyLow k ≤ 4294967295)
def classS (k : Int) : Int := if keyOk k = true then keyTop k else 0
def serialS (k : Int) : Int := if keyOk k = true then keyLow k else 0
theorem keyOk_yes {k : Int} (h : (keyTop k = 1 ∨ keyTop k = 2) ∧ 1 ≤ keyLow k ∧ keyLow k ≤ 4294967295) : keyOk k = true := decide_eq_true h
theorem keyOk_no {k : Int} (h : ¬ ((keyTop k = 1 ∨ keyTop k = 2) ∧ 1 ≤ keyLow k ∧ keyLow k ≤ 4294967295)) : keyOk k = false := decide_eq_false h
theorem keyOk_is {k : Int} (h : keyOk k = true) : (keyTop k = 1 ∨ keyTop k = 2) ∧ 1 ≤ keyLow k ∧ keyLow k ≤ 4294967295 := of_decide_eq_true h
theorem key_parts (k : Int) : k = keyTop k * 72057594037927936 + keyLow k ∧ 0 ≤ keyLow k ∧ keyLow k < 72057594037927936 := by
  unfold keyTop keyLow
  omega
theorem top_bounds {k : Int} (h : 0 ≤ k ∧ k ≤ 18446744073709551615) : 0 ≤ keyTop k ∧ keyTop k ≤ 255 := by
  unfold keyTop
  omega

theorem shrK_56 {k b : Int} {K : Int → Prop} (h : b = 56) (hk : K (keyTop k)) : shrK .u64 k b K := by
  subst h
  refine shrK_intro (m := 72057594037927936) (by omega) rfl ?_
  rw [Int.fdiv_eq_ediv_of_nonneg _ (by omega)]
  exact hk
theorem bitN_and56 {k : Int} (h : 0 ≤ k ∧ k ≤ 18446744073709551615) : bitN .and .u64 k 72057594037927935 = keyLow k := by
  obtain ⟨n, rfl⟩ := Int.eq_ofNat_of_zero_le h.1
  unfold bitN
  show ((BitVec.ofInt 64 (n : Int) &&& BitVec.ofInt 64 72057594037927935).toNat : Int) = _
  rw [BitVec.ofInt_natCast, BitVec.toNat_and, BitVec.toNat_ofNat, Nat.mod_eq_of_lt (by omega)]
  have h2 : (BitVec.ofInt 64 72057594037927935).toNat = 2 ^ 56 - 1 := by decide
  rw [h2, Nat.and_two_pow_sub_one_eq_mod]
  unfold keyLow
  omega
theorem bitK_and56 {k m : Int} {K : Int → Prop} (h : 0 ≤ k ∧ k ≤ 18446744073709551615) (hm : m = 72057594037927935) (hk : K (keyLow k)) : bitK .and .u64 k m K := by
  subst hm
  have := key_parts k
  exact ⟨by rw [bitN_and56 h, wrap_u64 (by omega)]; exact hk⟩
theorem bitN_or56 {c s : Int} (hc : 0 ≤ c ∧ c ≤ 255) (hs : 0 ≤ s ∧ s < 72057594037927936) : bitN .or .u64 (c * 72057594037927936) s = c * 72057594037927936 + s := by
  obtain ⟨n, rfl⟩ := Int.eq_ofNat_of_zero_le hc.1
  obtain ⟨y, rfl⟩ := Int.eq_ofNat_of_zero_le hs.1
  unfold bitN
  have h1 : ((n : Int) * 72057594037927936) = ((n * 72057594037927936 : Nat) : Int) := by omega
  show ((BitVec.ofInt 64 ((n : Int) * 72057594037927936) ||| BitVec.ofInt 64 (y : Int)).toNat : Int) = _
  rw [h1, BitVec.ofInt_natCast, BitVec.ofInt_natCast, BitVec.toNat_or, BitVec.toNat_ofNat, BitVec.toNat_ofNat, Nat.mod_eq_of_lt (by omega), Nat.mod_eq_of_lt (by omega)]
  have h2 : n * 72057594037927936 ||| y = n * 72057594037927936 + y := by
    have := Nat.two_pow_add_eq_or_of_lt (i := 56) (b := y) (by omega) n
    rw [Nat.mul_comm] at this
    exact this.symm
  rw [h2]
  omega
theorem bitK_or56 {a s : Int} (c : Int) {K : Int → Prop} (ha : a = c * 72057594037927936) (hc : 0 ≤ c ∧ c ≤ 255) (hs : 0 ≤ s ∧ s < 72057594037927936) (hk : K (c * 72057594037927936 + s)) : bitK .or .u64 a s K := by
  subst ha
  exact ⟨by rw [bitN_or56 hc hs, wrap_u64 (by omega)]; exact hk⟩
theorem shlK_56 {c b : Int} {K : Int → Prop} (h : b = 56) (hc : 0 ≤ c ∧ c ≤ 255) (hk : K (c * 72057594037927936)) : shlK .u64 c b K := by
  subst h
  exact shlK_intro (m := c * 72057594037927936) (by omega) rfl (wrapK_u64 (by omega) hk)
theorem shlK_u8 {a b : Int} {K : Int → Prop} (h : b = 8) (hr : 0 ≤ a ∧ a ≤ 72057594037927935) (hc : K (a * 256)) : shlK .u64 a b K := by
  subst h
  exact shlK_intro (m := a * 256) (by omega) rfl (wrapK_u64 (by omega) hc)
theorem bitN_or64 {a x : Int} (ha : 0 ≤ a ∧ a ≤ 72057594037927935) (hx : 0 ≤ x ∧ x ≤ 255) : bitN .or .u64 (a * 256) x = a * 256 + x := by
  obtain ⟨n, rfl⟩ := Int.eq_ofNat_of_zero_le ha.1
  obtain ⟨y, rfl⟩ := Int.eq_ofNat_of_zero_le hx.1
  unfold bitN
  have h1 : ((n : Int) * 256) = ((n * 256 : Nat) : Int) := by omega
  show ((BitVec.ofInt 64 ((n : Int) * 256) ||| BitVec.ofInt 64 (y : Int)).toNat : Int) = _
  rw [h1, BitVec.ofInt_natCast, BitVec.ofInt_natCast, BitVec.toNat_or, BitVec.toNat_ofNat, BitVec.toNat_ofNat, Nat.mod_eq_of_lt (by omega), Nat.mod_eq_of_lt (by omega)]
  have h2 : n * 256 ||| y = n * 256 + y := by
    have := Nat.two_pow_add_eq_or_of_lt (i := 8) (b := y) (by omega) n
    rw [Nat.mul_comm] at this
    exact this.symm
  rw [h2]
  omega
theorem bitK_or64 {a x : Int} {K : Int → Prop} (ha : 0 ≤ a ∧ a ≤ 72057594037927935) (hx : 0 ≤ x ∧ x ≤ 255) (hc : K (a * 256 + x)) : bitK .or .u64 (a * 256) x K := ⟨by rw [bitN_or64 ha hx, wrap_u64 (by omega)]; exact hc⟩

/-- a key's eight bytes -/
def keyB (k : Int) : List UInt8 := [digit k 7, digit k 6, digit k 5, digit k 4, digit k 3, digit k 2, digit k 1, digit k 0]
theorem keyB_len (k : Int) : (keyB k).length = 8 := rfl
def keyV (b : List UInt8) : Int := (((((((0 * 256 + ((b.getD 0 0).toNat : Int)) * 256 + ((b.getD 1 0).toNat : Int)) * 256 + ((b.getD 2 0).toNat : Int)) * 256 + ((b.getD 3 0).toNat : Int)) * 256 + ((b.getD 4 0).toNat : Int)) * 256 + ((b.getD 5 0).toNat : Int)) * 256 + ((b.getD 6 0).toNat : Int)) * 256 + ((b.getD 7 0).toNat : Int)
theorem keyV_keyB {k : Int} (h : 0 ≤ k ∧ k ≤ 18446744073709551615) : keyV (keyB k) = k := by
  have d0 := digit_val k 0
  have d1 := digit_val k 1
  have d2 := digit_val k 2
  have d3 := digit_val k 3
  have d4 := digit_val k 4
  have d5 := digit_val k 5
  have d6 := digit_val k 6
  have d7 := digit_val k 7
  simp [keyV, keyB] at *
  omega
theorem keyV_bounds (b : List UInt8) : 0 ≤ keyV b ∧ keyV b ≤ 18446744073709551615 := by
  have h0 := byte_lt (b.getD 0 0)
  have h1 := byte_lt (b.getD 1 0)
  have h2 := byte_lt (b.getD 2 0)
  have h3 := byte_lt (b.getD 3 0)
  have h4 := byte_lt (b.getD 4 0)
  have h5 := byte_lt (b.getD 5 0)
  have h6 := byte_lt (b.getD 6 0)
  have h7 := byte_lt (b.getD 7 0)
  unfold keyV
  omega
def readK (b : List UInt8) : Int × Bool := if b.length = 8 ∧ keyOk (keyV b) = true then (keyV b, true) else (0, false)
theorem readK_ok {b : List UInt8} (h1 : b.length = 8) (h2 : keyOk (keyV b) = true) : readK b = (keyV b, true) := by rw [readK, if_pos ⟨h1, h2⟩]
theorem readK_no {b : List UInt8} (h : ¬ b.length = 8 ∨ keyOk (keyV b) = false) : readK b = (0, false) := by
  rw [readK, if_neg (fun hh => by rcases h with h | h; exact h hh.1; rw [h] at hh; exact absurd hh.2 (by simp))]
theorem readK_key {k : Int} (h : 0 ≤ k ∧ k ≤ 18446744073709551615) (hk : keyOk k = true) : readK (keyB k) = (k, true) := by
  rw [readK_ok rfl (by rw [keyV_keyB h]; exact hk), keyV_keyB h]
theorem readK_bounds (b : List UInt8) : 0 ≤ (readK b).1 ∧ (readK b).1 ≤ 18446744073709551615 := by
  have := keyV_bounds b
  unfold readK
  split
  · exact this
  · simp
def makeK (c s : Int) : Int := if (c = 1 ∨ c = 2) ∧ 1 ≤ s ∧ s ≤ 4294967295 then c * 72057594037927936 + s else 0
theorem makeK_key {k : Int} (h : keyOk k = true) : makeK (keyTop k) (keyLow k) = k := by
  have h1 := keyOk_is h
  have h2 := key_parts k
  rw [makeK, if_pos h1]
  omega
theorem makeK_not {k : Int} (hk : ¬ k = 0) (h : keyOk k = false) : ¬ makeK (keyTop k) (keyLow k) = k := by
  have h1 : ¬ ((keyTop k = 1 ∨ keyTop k = 2) ∧ 1 ≤ keyLow k ∧ keyLow k ≤ 4294967295) := of_decide_eq_false h
  rw [makeK, if_neg h1]
  omega
def sessN (n : Int) : Int := 144115188075855872 + (1 + n)
def longK (n : Int) : Int := 72057594037927936 + (1 + n)
theorem sess_ok {n : Int} (h : 0 ≤ n ∧ n ≤ 1000000) : keyOk (sessN n) = true ∧ keyTop (sessN n) = 2 ∧ classS (sessN n) = 2 := by
  have h1 : keyTop (sessN n) = 2 := by unfold keyTop sessN; omega
  have h2 : keyOk (sessN n) = true := keyOk_yes ⟨.inr h1, by unfold keyLow sessN; omega, by unfold keyLow sessN; omega⟩
  exact ⟨h2, h1, by rw [classS, if_pos h2, h1]⟩
theorem long_ok {n : Int} (h : 0 ≤ n ∧ n ≤ 1000000) : keyOk (longK n) = true ∧ keyTop (longK n) = 1 ∧ classS (longK n) = 1 := by
  have h1 : keyTop (longK n) = 1 := by unfold keyTop longK; omega
  have h2 : keyOk (longK n) = true := keyOk_yes ⟨.inl h1, by unfold keyLow longK; omega, by unfold keyLow longK; omega⟩
  exact ⟨h2, h1, by rw [classS, if_pos h2, h1]⟩
end Go.Sx

/-
  What the headers of messages are, as plain functions: for every input.
-/
import Derived.Test.YtcnemhfgpldplabSxC
set_option linter.all false
namespace Go.Sx

def putS (k : Int) (l : Bool) : List UInt8 := if 1 ≤ k ∧ k ≤ 10 then [4, byteOf (2 * k + if l then 1 else 0)] else []
theorem putS_yes {k : Int} {l : Bool} (h1 : 1 ≤ k) (h2 : k ≤ 10) : putS k l = [4, byteOf (2 * k + if l then 1 else 0)] := by simp [putS, h1, h2]
theorem putS_no {k : Int} {l : Bool} (h : ¬ (1 ≤ k ∧ k ≤ 10)) : putS k l = [] := by simp [putS, h]
theorem putS_len (k : Int) (l : Bool) : (putS k l).length ≤ 2 := by unfold putS; split <;> simp

def readS (b : List UInt8) : Int × Bool × Int :=
  if b.length < 2 then (0, false, 101) else
  if (b.getD 0 0).toNat ≠ 4 then (0, false, 39) else
  if 1 ≤ (b.getD 1 0).toNat / 2 ∧ (b.getD 1 0).toNat / 2 ≤ 10 then (((b.getD 1 0).toNat : Int) / 2, ((b.getD 1 0).toNat : Int) % 2 == 1, 0) else (0, false, 40)

theorem readS_put (k : Int) (l : Bool) (r : List UInt8) (h : ¬ ((putS k l).length : Int) = 0) : readS (putS k l ++ r) = (k, l, 0) := by
  unfold putS at h ⊢
  split at h
  · rename_i hk
    rw [if_pos hk]
    have h0 : (byteOf (2 * k + if l then 1 else 0)).toNat = (2 * k + if l then 1 else 0).toNat := by
      have := byteOf_toNat (2 * k + if l then 1 else 0)
      rw [wrap_u8 (by cases l <;> simp <;> omega)] at this
      omega
    have h1 : ([4, byteOf (2 * k + if l then 1 else 0)] ++ r).getD 0 0 = 4 := rfl
    have h2 : ([4, byteOf (2 * k + if l then 1 else 0)] ++ r).getD 1 0 = byteOf (2 * k + if l then 1 else 0) := rfl
    unfold readS
    rw [if_neg (by simp), h1, h2, h0, if_neg (by decide), if_pos (by cases l <;> simp <;> omega)]
    cases l <;> simp <;> omega
  · simp at h

/-- which of some types a message has -/
def isS (b : List UInt8) (ks : List Int) : Bool × Int :=
  if (readS b).2.2 ≠ 0 then (false, (readS b).2.2) else if (readS b).1 ∈ ks then ((readS b).2.1, 0) else (false, 40)

end Go.Sx

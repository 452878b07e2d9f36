/-
  The cells of an entry of a database at any place: for every input.
-/
import Derived.Test.YtcnemhfgpldplabPDbB
set_option linter.all false
set_option linter.all false
namespace Go.Sx
theorem headS_deE {l : List DE} {j z : Nat} (hz : z = j * 9) {E : DE} (h0 : l.getD j de0 = E) {K : List UInt8 → List L → Prop} (h : j < l.length) (hk : K E.x (.s E.y :: .i .u64 E.k :: .i .i64 E.kv :: .i .i64 E.ex :: .i .i64 E.ml :: .i .i64 E.atr :: .i .i64 E.fl :: .i .i64 E.un :: flat deR (l.drop (j + 1)))) : headS ((flat deR l).drop z) K := by
  subst hz
  subst h0
  exact ⟨_, _, by rw [flat_at deR_len de0 h]; rfl, hk⟩
theorem headI_deK {l : List DE} {j z : Nat} (hz : z = j * 9 + 2) {E : DE} (hE : l.getD j de0 = E) (h : j < l.length) {K : Int → List L → Prop} (hk : ∀ r, K E.k r) : headI .u64 ((flat deR l).drop z) K := by
  subst hz
  exact ⟨_, _, by rw [← List.drop_drop, flat_at deR_len de0 h, hE]; rfl, hk _⟩
theorem headI_deV {l : List DE} {j z : Nat} (hz : z = j * 9 + 3) {E : DE} (hE : l.getD j de0 = E) (h : j < l.length) {K : Int → List L → Prop} (hk : ∀ r, K E.kv r) : headI .i64 ((flat deR l).drop z) K := by
  subst hz
  exact ⟨_, _, by rw [← List.drop_drop, flat_at deR_len de0 h, hE]; rfl, hk _⟩
theorem headI_deX {l : List DE} {j z : Nat} (hz : z = j * 9 + 4) {E : DE} (hE : l.getD j de0 = E) (h : j < l.length) {K : Int → List L → Prop} (hk : ∀ r, K E.ex r) : headI .i64 ((flat deR l).drop z) K := by
  subst hz
  exact ⟨_, _, by rw [← List.drop_drop, flat_at deR_len de0 h, hE]; rfl, hk _⟩
theorem headI_deKK {l : List DE} {j z f : Nat} (hz : z = j * 9) (hf : f = 2) {E : DE} (hE : l.getD j de0 = E) (h : j < l.length) {K : Int → List L → Prop} (hk : ∀ r, K E.k r) : headI .u64 (((flat deR l).drop z).drop f) K := by
  subst hz
  subst hf
  exact ⟨_, _, by rw [flat_at deR_len de0 h, hE]; rfl, hk _⟩
theorem headI_deVV {l : List DE} {j z f : Nat} (hz : z = j * 9) (hf : f = 3) {E : DE} (hE : l.getD j de0 = E) (h : j < l.length) {K : Int → List L → Prop} (hk : ∀ r, K E.kv r) : headI .i64 (((flat deR l).drop z).drop f) K := by
  subst hz
  subst hf
  exact ⟨_, _, by rw [flat_at deR_len de0 h, hE]; rfl, hk _⟩
theorem headI_deXX {l : List DE} {j z f : Nat} (hz : z = j * 9) (hf : f = 4) {E : DE} (hE : l.getD j de0 = E) (h : j < l.length) {K : Int → List L → Prop} (hk : ∀ r, K E.ex r) : headI .i64 (((flat deR l).drop z).drop f) K := by
  subst hz
  subst hf
  exact ⟨_, _, by rw [flat_at deR_len de0 h, hE]; rfl, hk _⟩
theorem dbU_F {x y : List UInt8} {l : List DE} {now : Int} {f : Int → Bool} {e1 e2 : Int} (n1 : e1 ≠ 0) (n2 : e2 ≠ 0) (h : (dbU x y l now f e1 e2).2 = 0) : (dbF x y l).2 = 0 ∧ (dbU x y l now f e1 e2).1 = (dbF x y l).1 := by
  unfold dbU at h ⊢
  split at h
  · rename_i h1; exact absurd h h1
  · rename_i h1
    rw [if_neg h1]
    refine ⟨Decidable.not_not.mp h1, ?_⟩
    split at h
    · cases h
    · rename_i h2
      rw [if_neg h2]
      split at h
      · exact absurd h n1
      · rename_i h3
        rw [if_neg h3]
        split at h
        · exact absurd h n2
        · rename_i h4
          rw [if_neg h4]
end Go.Sx

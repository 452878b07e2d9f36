/-
  What stands in some bytes from an index on, and what is read there: plain functions, for every input.
-/
import Derived.Test.YtcnemhfgpldplabPTick
import Derived.Test.YtcnemhfgpldplabPHeader
set_option linter.all false
namespace Go.Sx
/-- the bytes from K on -/
def Sfx (b : List UInt8) (K : Int) (r : List UInt8) : Prop := ∃ p, b = p ++ r ∧ K = p.length
theorem sfx_0 (b : List UInt8) : Sfx b 0 b := ⟨[], rfl, rfl⟩
theorem sfx_of {b p r : List UInt8} {K : Int} (h : b = p ++ r) (hK : K = p.length) : Sfx b K r := ⟨p, h, hK⟩
theorem sfx_end {b : List UInt8} {K : Int} (h : Sfx b K []) : K = b.length := by
  obtain ⟨p, h1, h2⟩ := h
  rw [h1, h2]; simp
theorem sfx_bytes {b d r : List UInt8} {K n : Int} (h : Sfx b K (d ++ r)) (hn : n = d.length) : ∃ K', bytesS b K n = (d, K', 0) ∧ Sfx b K' r := by
  obtain ⟨p, h1, h2⟩ := h
  exact ⟨K + n, bytesS_at (p := p) (r := r) (by rw [h1]; simp) h2 hn, p ++ d, by rw [h1]; simp, by simp; omega⟩
theorem sfx_num4 {l : Bool} {b r : List UInt8} {K n : Int} (h : Sfx b K (numS l 4 n ++ r)) (hn : 0 ≤ n ∧ n ≤ 4294967295) : ∃ K', getS l 4 b K = (n, K', 0) ∧ Sfx b K' r := by
  obtain ⟨p, h1, h2⟩ := h
  exact ⟨K + 4, getS4_at (p := p) (r := r) (by rw [h1]; simp) h2 hn, p ++ numS l 4 n, by rw [h1]; simp, by simp; omega⟩
theorem sfx_num2 {l : Bool} {b r : List UInt8} {K n : Int} (h : Sfx b K (numS l 2 n ++ r)) (hn : 0 ≤ n ∧ n ≤ 65535) : ∃ K', getS l 2 b K = (n, K', 0) ∧ Sfx b K' r := by
  obtain ⟨p, h1, h2⟩ := h
  exact ⟨K + 2, getS2_at (p := p) (r := r) (by rw [h1]; simp) h2 hn, p ++ numS l 2 n, by rw [h1]; simp, by simp; omega⟩
theorem sfx_num1 {l : Bool} {b r : List UInt8} {K n : Int} (h : Sfx b K (numS l 1 n ++ r)) (hn : 0 ≤ n ∧ n ≤ 255) : ∃ K', getS l 1 b K = (n, K', 0) ∧ Sfx b K' r := by
  obtain ⟨p, h1, h2⟩ := h
  exact ⟨K + 1, getS1_at (p := p) (r := r) (by rw [h1]; simp) h2 hn, p ++ numS l 1 n, by rw [h1]; simp, by simp; omega⟩
theorem sfx_text {b s r : List UInt8} {K : Int} (h : Sfx b K (s ++ ([0] ++ r))) (hs : s.length ≤ 39) (hz : 0 ∉ s) : ∃ K', textS b K = (s, K', 0) ∧ Sfx b K' r := by
  obtain ⟨p, h1, h2⟩ := h
  exact ⟨K + s.length + 1, textS_at (p := p) (r := r) (by rw [h1]; simp) h2 hs hz, p ++ s ++ [0], by rw [h1]; simp, by simp; omega⟩
theorem sfx_prin {b x y z r : List UInt8} {K : Int} (h : Sfx b K (x ++ ([0] ++ (y ++ ([0] ++ (z ++ ([0] ++ r))))))) (hv : validS x y z = true) : ∃ K', prinS b K = ((x, y, z), K', 0) ∧ Sfx b K' r := by
  obtain ⟨p, h1, h2⟩ := h
  exact ⟨K + x.length + 1 + y.length + 1 + z.length + 1, prinS_at (p := p) (r := r) (by rw [h1]; simp) h2 hv, p ++ x ++ [0] ++ y ++ [0] ++ z ++ [0], by rw [h1]; simp, by simp; omega⟩
theorem sfx_texts {b x y z r : List UInt8} {K : Int} (h : Sfx b K (x ++ ([0] ++ (y ++ ([0] ++ (z ++ ([0] ++ r))))))) (hv : validS x y z = true) : ∃ K1 K2 K', textS b K = (x, K1, 0) ∧ textS b K1 = (y, K2, 0) ∧ textS b K2 = (z, K', 0) ∧ prinS b K = ((x, y, z), K', 0) ∧ Sfx b K' r := by
  obtain ⟨l1, l2, l3⟩ := valid_len hv
  obtain ⟨n1, n2, n3⟩ := valid_nz hv
  obtain ⟨K0, e0, _⟩ := sfx_prin h hv
  obtain ⟨K1, e1, h1⟩ := sfx_text h l1 n1
  obtain ⟨K2, e2, h2⟩ := sfx_text h1 l2 n2
  obtain ⟨K3, e3, h3⟩ := sfx_text h2 l3 n3
  have : prinS b K = ((x, y, z), K3, 0) := by rw [prinS_5] <;> simp [e1, e2, e3, hv]
  exact ⟨K1, K2, K3, e1, e2, e3, this, h3⟩
/-- a header -/
theorem readS_head {b : List UInt8} {k : Int} {l : Bool} {r : List UInt8} (hb : b = putS k l ++ r) (h1 : 1 ≤ k) (h2 : k ≤ 10) : readS b = (k, l, 0) := by
  rw [hb]; exact readS_put k l r (by rw [putS_yes h1 h2]; simp)
theorem sfx_head {b : List UInt8} {k : Int} {l : Bool} {r : List UInt8} (hb : b = putS k l ++ r) (h1 : 1 ≤ k) (h2 : k ≤ 10) : Sfx b 2 r :=
  ⟨putS k l, hb, by rw [putS_yes h1 h2]; rfl⟩
theorem isS_ok {b : List UInt8} {ks : List Int} {k : Int} {l : Bool} (h : readS b = (k, l, 0)) (hk : k ∈ ks) : isS b ks = (l, 0) := by
  unfold isS; rw [h]; simp [hk]
theorem isS_is {b : List UInt8} {ks : List Int} (h : (isS b ks).2 = 0) : (readS b).2.2 = 0 ∧ (readS b).1 ∈ ks ∧ isS b ks = ((readS b).2.1, 0) := by
  unfold isS at h ⊢
  split at h
  · rename_i h1; exact absurd h h1
  · rename_i h1
    split at h
    · rename_i h2; exact ⟨Decidable.not_not.mp h1, h2, by rw [if_neg h1, if_pos h2]⟩
    · cases h
end Go.Sx

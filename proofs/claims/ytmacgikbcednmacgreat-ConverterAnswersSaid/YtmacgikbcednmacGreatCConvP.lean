/-
  What Answer of the converter and of its reference return together.
-/
import Derived.Test.YtmacgikbcednmacGreatCConvM
set_option linter.all false
namespace Go.Sx
open Go.Proofs Go.RowKit
theorem vA_len {a : VArg} (hkv : ∀ e ∈ a.l, 0 ≤ e.kv ∧ e.kv ≤ 255) : (vA a).1.1.length ≤ 1000 := by
  by_cases h : (vA a).2 = true
  · obtain ⟨h1, h2⟩ := vA_is h
    obtain ⟨_, _, _, _, _, _, _, _, _, l5, _⟩ := r_steps (vF_good h1 hkv) h2
    rw [vA_yes h1 h2]
    show (rMsg _ _).length ≤ 1000
    omega
  · have : vA a = (([], vi0), false) := by
      unfold vA at h ⊢
      split
      · rename_i h1; rw [if_pos h1] at h; exact absurd rfl h
      · rfl
    rw [this]
    exact Nat.zero_le _

set_option maxRecDepth 10000
set_option maxHeartbeats 4000000
theorem ans26 (r : List UInt8) (l : List DE) {m : Nat} (hm : m = l.length) (hl : l.length ≤ 1000000) (hs : ∀ s ∈ l, deSm 90000 s) (hkv : ∀ e ∈ l, 0 ≤ e.kv ∧ e.kv ≤ 255) (now : Int) (b : List UInt8) {n : Nat} (hn : n = b.length) (hb : b.length ≤ 90000) : ∃ (G S v1 v2 v3 c1 c2 c3 s1 s2 s3 : List UInt8) (kd k is en : Int) (ok : Bool), G.length ≤ 1000 ∧ Fn Tryz.prog 11 [.a [.s r, .sl (flat deR l) m], .o (.i .i64 now), .o (.sl (b.map u8) n)] [] (.tup [.fr (G.map u8) G.length 1, .c (.a [.i .i64 kd, .s v1, .s v2, .s v3, .s c1, .s c2, .s c3, .s s1, .s s2, .s s3, .i .u64 k, .i .u64 k, .i .u64 k, .sl (S.map u8) S.length, .i .i64 is, .i .i64 en]), .c (.o (.b ok))]) [] ∧ Fn Tryz.prog 12 [.a [.s r, .sl (flat deR l) m], .o (.i .i64 now), .o (.sl (b.map u8) n)] [] (.tup [.fr (G.map u8) G.length 1, .c (.a [.i .i64 kd, .s v1, .s v2, .s v3, .s c1, .s c2, .s c3, .s s1, .s s2, .s s3, .i .u64 k, .i .u64 k, .i .u64 k, .sl (S.map u8) S.length, .i .i64 is, .i .i64 en]), .c (.o (.b ok))]) [] :=
  ⟨_, _, _, _, _, _, _, _, _, _, _, _, _, _, _, _, vA_len (a := ⟨r, l, now, b⟩) hkv, c_Answer26 r l hm hl hs now b hn hb hkv, c_rAnswer26 r l hm hl hs now b hn hb hkv⟩
theorem req26 (k : Int) (s1 s2 s3 : List UInt8) (st en : Int) (rc : List UInt8) {m : Nat} (hm : m = rc.length) (hl : s1.length ≤ 100000 ∧ s2.length ≤ 100000 ∧ s3.length ≤ 100000 ∧ rc.length ≤ 100000) : ∃ (B : List UInt8) (e : Int), Fn Tryz.prog 6 [.a [.s s1, .s s2, .s s3, .i .u64 k, .i .i64 st, .i .i64 en, .sl (rc.map u8) m]] [] (.tup [.fr (B.map u8) B.length 1, .c (.o (.i .i64 e))]) [] ∧ Fn Tryz.prog 7 [.a [.s s1, .s s2, .s s3, .i .u64 k, .i .i64 st, .i .i64 en, .sl (rc.map u8) m]] [] (.tup [.fr (B.map u8) B.length 1, .c (.o (.i .i64 e))]) [] :=
  ⟨_, _, c_Request k s1 s2 s3 st en rc hm hl, c_rRequest k s1 s2 s3 st en rc hm hl⟩
end Go.Sx

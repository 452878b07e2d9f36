/-
  What encoders and decoders of package five do together, for the laws.
-/
import Derived.Test.YtcnemhfgpldplaaGreatCFiveL
set_option linter.all false
namespace Go.Sx
open Go.Proofs Go.RowKit
theorem frN_len (t : FRec) : (frN t).1.length ≤ 1000 := by
  by_cases h0 : validS t.c1 t.c2 t.c3 = true ∧ validS t.s1 t.s2 t.s3 = true
  case neg => rw [frN_103 h0]; exact Nat.zero_le _
  by_cases h1 : classS t.k = 2
  case neg => rw [frN_10 h0 h1]; exact Nat.zero_le _
  by_cases h2 : (u32R t.st ∧ u32R t.en ∧ t.st ≤ t.en) ∧ u32R t.ad
  case neg => rw [frN_104 h0 h1 h2]; exact Nat.zero_le _
  rw [frN_ok h0 h1 h2, padS_len]
  obtain ⟨a1, a2, a3⟩ := valid_len h0.1
  obtain ⟨b1, b2, b3⟩ := valid_len h0.2
  have := padN_lt (frB t).length
  have := frB_len t
  omega
theorem fpN_len (t : FPart) : (fpN t).1.length ≤ 1000 := by
  by_cases h0 : keyOk t.k = true
  case neg => rw [fpN_10 h0]; exact Nat.zero_le _
  by_cases h1 : validS t.s1 t.s2 t.s3 = true
  case neg => rw [fpN_103 h0 h1]; exact Nat.zero_le _
  by_cases h2 : u32R t.st ∧ u32R t.en ∧ t.st ≤ t.en
  case neg => rw [fpN_104 h0 h1 h2]; exact Nat.zero_le _
  by_cases h3 : t.rc.length ≤ 300
  case neg => rw [fpN_105 h0 h1 h2 h3]; exact Nat.zero_le _
  rw [fpN_ok h0 h1 h2 h3, padS_len]
  obtain ⟨a1, a2, a3⟩ := valid_len h1
  have := padN_lt (fpB t).length
  have := fpB_len t
  omega

set_option maxRecDepth 10000
theorem rec5 (c1 c2 c3 s1 s2 s3 : List UInt8) (k st en ad : Int) (hl : c1.length ≤ 100000 ∧ c2.length ≤ 100000 ∧ c3.length ≤ 100000 ∧ s1.length ≤ 100000 ∧ s2.length ≤ 100000 ∧ s3.length ≤ 100000) (hk : 0 ≤ k ∧ k ≤ 18446744073709551615) : ∃ (B : List UInt8) (e : Int), B.length ≤ 1000 ∧
    Fn Tryz.prog 8 [.a [.s c1, .s c2, .s c3, .s s1, .s s2, .s s3, .i .u64 k, .i .i64 st, .i .i64 en, .i .i64 ad]] [] (.tup [.fr (B.map u8) B.length 1, .c (.o (.i .i64 e))]) [] ∧
    Fn Tryz.prog 9 [.a [.s c1, .s c2, .s c3, .s s1, .s s2, .s s3, .i .u64 k, .i .i64 st, .i .i64 en, .i .i64 ad]] [] (.tup [.fr (B.map u8) B.length 1, .c (.o (.i .i64 e))]) [] ∧
    ((e = 0 ∧ Fn Tryz.prog 12 [.o (.sl (B.map u8) B.length)] [] (.tup [.c (.a [.s c1, .s c2, .s c3, .s s1, .s s2, .s s3, .i .u64 k, .i .i64 st, .i .i64 en, .i .i64 ad]), .c (.o (.i .i64 0))]) []) ∨ (¬ e = 0 ∧ ∃ (D : FRec) (f : Int), Fn Tryz.prog 12 [.o (.sl (B.map u8) B.length)] [] (.tup [.c (.a [.s D.c1, .s D.c2, .s D.c3, .s D.s1, .s D.s2, .s D.s3, .i .u64 D.k, .i .i64 D.st, .i .i64 D.en, .i .i64 D.ad]), .c (.o (.i .i64 f))]) [])) := by
  have h := frN_len ⟨c1, c2, c3, s1, s2, s3, k, st, en, ad⟩
  refine ⟨_, _, h, c_EncR c1 c2 c3 s1 s2 s3 k st en ad hl hk, c_rEncR c1 c2 c3 s1 s2 s3 k st en ad hl hk, ?_⟩
  have c := c_DecR (frN ⟨c1, c2, c3, s1, s2, s3, k, st, en, ad⟩).1 rfl (by omega)
  by_cases he : (frN ⟨c1, c2, c3, s1, s2, s3, k, st, en, ad⟩).2 = 0
  · refine .inl ⟨he, ?_⟩
    rw [frD_trip (t := ⟨c1, c2, c3, s1, s2, s3, k, st, en, ad⟩) (pair_of he rfl)] at c
    exact c
  · exact .inr ⟨he, _, _, c⟩
theorem part5 (k : Int) (s1 s2 s3 : List UInt8) (st en : Int) (rc : List UInt8) (hl : s1.length ≤ 100000 ∧ s2.length ≤ 100000 ∧ s3.length ≤ 100000 ∧ rc.length ≤ 100000) (hk : 0 ≤ k ∧ k ≤ 18446744073709551615) : ∃ (B : List UInt8) (e : Int), B.length ≤ 1000 ∧
    Fn Tryz.prog 10 [.a [.i .u64 k, .s s1, .s s2, .s s3, .i .i64 st, .i .i64 en, .sl (rc.map u8) rc.length]] [] (.tup [.fr (B.map u8) B.length 1, .c (.o (.i .i64 e))]) [] ∧
    Fn Tryz.prog 11 [.a [.i .u64 k, .s s1, .s s2, .s s3, .i .i64 st, .i .i64 en, .sl (rc.map u8) rc.length]] [] (.tup [.fr (B.map u8) B.length 1, .c (.o (.i .i64 e))]) [] ∧
    ((e = 0 ∧ Fn Tryz.prog 13 [.o (.sl (B.map u8) B.length)] [] (.tup [.c (.a [.i .u64 k, .s s1, .s s2, .s s3, .i .i64 st, .i .i64 en, .sl (rc.map u8) rc.length]), .c (.o (.i .i64 0))]) [] ∧ Fn Tryz.prog 17 [.o (.sl (B.map u8) B.length)] [] (.tup [.c (.a [.i .u64 k, .s s1, .s s2, .s s3, .i .i64 st, .i .i64 en, .sl (rc.map u8) rc.length]), .c (.o (.i .i64 0))]) []) ∨ (¬ e = 0 ∧ ∃ (D : FPart) (f : Int), Fn Tryz.prog 13 [.o (.sl (B.map u8) B.length)] [] (.tup [.c (.a [.i .u64 D.k, .s D.s1, .s D.s2, .s D.s3, .i .i64 D.st, .i .i64 D.en, .sl (D.rc.map u8) D.rc.length]), .c (.o (.i .i64 f))]) [] ∧ Fn Tryz.prog 17 [.o (.sl (B.map u8) B.length)] [] (.tup [.c (.a [.i .u64 D.k, .s D.s1, .s D.s2, .s D.s3, .i .i64 D.st, .i .i64 D.en, .sl (D.rc.map u8) D.rc.length]), .c (.o (.i .i64 f))]) [])) := by
  have h := fpN_len ⟨k, s1, s2, s3, st, en, rc⟩
  refine ⟨_, _, h, c_EncP k s1 s2 s3 st en rc rfl hl hk, c_rEncP k s1 s2 s3 st en rc rfl hl hk, ?_⟩
  have c := c_DecP (fpN ⟨k, s1, s2, s3, st, en, rc⟩).1 rfl (by omega)
  have d := c_rDecP (fpN ⟨k, s1, s2, s3, st, en, rc⟩).1 rfl (by omega)
  by_cases he : (fpN ⟨k, s1, s2, s3, st, en, rc⟩).2 = 0
  · refine .inl ⟨he, ?_⟩
    rw [fpD_trip (t := ⟨k, s1, s2, s3, st, en, rc⟩) (pair_of he rfl)] at c d
    exact ⟨c, d⟩
  · exact .inr ⟨he, _, _, c, d⟩
theorem dec5 (b : List UInt8) (hb : b.length ≤ 90000) : ∃ (D : FRec) (f : Int) (P : FPart) (g : Int),
    Fn Tryz.prog 12 [.o (.sl (b.map u8) b.length)] [] (.tup [.c (.a [.s D.c1, .s D.c2, .s D.c3, .s D.s1, .s D.s2, .s D.s3, .i .u64 D.k, .i .i64 D.st, .i .i64 D.en, .i .i64 D.ad]), .c (.o (.i .i64 f))]) [] ∧ Fn Tryz.prog 16 [.o (.sl (b.map u8) b.length)] [] (.tup [.c (.a [.s D.c1, .s D.c2, .s D.c3, .s D.s1, .s D.s2, .s D.s3, .i .u64 D.k, .i .i64 D.st, .i .i64 D.en, .i .i64 D.ad]), .c (.o (.i .i64 f))]) [] ∧
    Fn Tryz.prog 13 [.o (.sl (b.map u8) b.length)] [] (.tup [.c (.a [.i .u64 P.k, .s P.s1, .s P.s2, .s P.s3, .i .i64 P.st, .i .i64 P.en, .sl (P.rc.map u8) P.rc.length]), .c (.o (.i .i64 g))]) [] ∧ Fn Tryz.prog 17 [.o (.sl (b.map u8) b.length)] [] (.tup [.c (.a [.i .u64 P.k, .s P.s1, .s P.s2, .s P.s3, .i .i64 P.st, .i .i64 P.en, .sl (P.rc.map u8) P.rc.length]), .c (.o (.i .i64 g))]) [] :=
  ⟨_, _, _, _, c_DecR b rfl hb, c_rDecR b rfl hb, c_DecP b rfl hb, c_rDecP b rfl hb⟩
end Go.Sx

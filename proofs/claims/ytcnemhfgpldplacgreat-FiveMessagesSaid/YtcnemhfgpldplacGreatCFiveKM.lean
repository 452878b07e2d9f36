/-
  What encoders and decoders of messages of package five do together, for the laws.
-/
import Derived.Test.YtcnemhfgpldplacGreatCFiveL
set_option linter.all false
namespace Go.Sx
open Go.Proofs Go.RowKit
theorem fmN_len (t : FMsg) : (fmN t).1.length ≤ 1200 := by
  by_cases h : (fmN t).2 = 0
  · obtain ⟨_, v, h3, hb⟩ := fmN_is (pair_of h rfl)
    obtain ⟨a1, a2, a3⟩ := valid_len v
    rw [← hb, fmB_len]
    omega
  · unfold fmN at h ⊢
    split at h
    · rename_i h1
      split at h
      · rename_i h2
        split at h
        · exact absurd rfl h
        · rename_i h3; rw [if_pos h1, if_pos h2, if_neg h3]; exact Nat.zero_le _
      · rename_i h2; rw [if_pos h1, if_neg h2]; exact Nat.zero_le _
    · rename_i h1; rw [if_neg h1]; exact Nat.zero_le _
noncomputable def g12 : Par := par 26 (nthLL [[2, 3], [4]]) [4] (nthLL [])
set_option maxRecDepth 10000
theorem msg5 (op : Int) (n1 n2 n3 bx : List UInt8) (hl : n1.length ≤ 100000 ∧ n2.length ≤ 100000 ∧ n3.length ≤ 100000 ∧ bx.length ≤ 100000) : ∃ (B : List UInt8) (e : Int), B.length ≤ 1200 ∧
    Fn Tryz.prog 7 [.a [.i .i64 op, .s n1, .s n2, .s n3, .sl (bx.map u8) bx.length]] [] (.tup [.fr (B.map u8) B.length 1, .c (.o (.i .i64 e))]) [] ∧ Fn Tryz.prog 8 [.a [.i .i64 op, .s n1, .s n2, .s n3, .sl (bx.map u8) bx.length]] [] (.tup [.fr (B.map u8) B.length 1, .c (.o (.i .i64 e))]) [] ∧
    ((e = 0 ∧ Fn Tryz.prog 10 [.o (.sl (B.map u8) B.length)] [] (.tup [.c (.a [.i .i64 op, .s n1, .s n2, .s n3, .sl (bx.map u8) bx.length]), .c (.o (.i .i64 0))]) [] ∧ Fn Tryz.prog 11 [.o (.sl (B.map u8) B.length)] [] (.tup [.c (.a [.i .i64 op, .s n1, .s n2, .s n3, .sl (bx.map u8) bx.length]), .c (.o (.i .i64 0))]) []) ∨ (¬ e = 0 ∧ ∃ (D : FMsg) (f : Int), Fn Tryz.prog 10 [.o (.sl (B.map u8) B.length)] [] (.tup [.c (.a [.i .i64 D.op, .s D.n1, .s D.n2, .s D.n3, .sl (D.bx.map u8) D.bx.length]), .c (.o (.i .i64 f))]) [] ∧ Fn Tryz.prog 11 [.o (.sl (B.map u8) B.length)] [] (.tup [.c (.a [.i .i64 D.op, .s D.n1, .s D.n2, .s D.n3, .sl (D.bx.map u8) D.bx.length]), .c (.o (.i .i64 f))]) [])) := by
  have h := fmN_len ⟨op, n1, n2, n3, bx⟩
  refine ⟨_, _, h, c_EncM op n1 n2 n3 bx rfl hl, c_rEncM op n1 n2 n3 bx rfl hl, ?_⟩
  have c := c_DecM (fmN ⟨op, n1, n2, n3, bx⟩).1 rfl (by omega)
  have d := c_rDecM (fmN ⟨op, n1, n2, n3, bx⟩).1 rfl (by omega)
  by_cases he : (fmN ⟨op, n1, n2, n3, bx⟩).2 = 0
  · refine .inl ⟨he, ?_⟩
    rw [fmD_trip (t := ⟨op, n1, n2, n3, bx⟩) (pair_of he rfl)] at c d
    exact ⟨c, d⟩
  · exact .inr ⟨he, _, _, c, d⟩
theorem decM5 (B : List UInt8) (hb : B.length ≤ 90000) : ∃ (D : FMsg) (f : Int), Fn Tryz.prog 10 [.o (.sl (B.map u8) B.length)] [] (.tup [.c (.a [.i .i64 D.op, .s D.n1, .s D.n2, .s D.n3, .sl (D.bx.map u8) D.bx.length]), .c (.o (.i .i64 f))]) [] ∧ Fn Tryz.prog 11 [.o (.sl (B.map u8) B.length)] [] (.tup [.c (.a [.i .i64 D.op, .s D.n1, .s D.n2, .s D.n3, .sl (D.bx.map u8) D.bx.length]), .c (.o (.i .i64 f))]) [] :=
  ⟨_, _, c_DecM B rfl hb, c_rDecM B rfl hb⟩
theorem c_sameMsg (op : Int) (n1 n2 n3 bx : List UInt8) {m n : Nat} (hm : m = bx.length) (hn : n = bx.length) : Fn Tryz.prog 12 [.a [.i .i64 op, .s n1, .s n2, .s n3, .sl (bx.map u8) m], .a [.i .i64 op, .s n1, .s n2, .s n3, .sl (bx.map u8) n]] [] (.one (.c (.o (.b true)))) [] := by
  subst hm
  subst hn
  refine Fn_intro (G := g12) (goodA rfl) (fn := Tryz.f12) rfl rfl rfl rfl rfl ?_
  (repeat' ((conv => whnf) <;> first | with_reducible refine boolK_refl ?_ | exact rfl | with_reducible refine boolK_dec (fun _ => ?_) (fun _ => ?_) <;> try (exfalso; omega) | refine boolK_beq (fun _ => ?_) (fun _ => ?_) <;> try (exfalso; first | omega | with_reducible contradiction) | refine boolK_bne (fun _ => ?_) (fun _ => ?_) <;> try (exfalso; first | omega | with_reducible contradiction) | (with_reducible first | refine boolK_not ?_ | refine boolK_and ?_ | refine boolK_or ?_ | refine boolK_true ?_ | refine boolK_false ?_) | refine boolK_intro (fun _ => ?_) (fun _ => ?_) <;> try (exfalso; simp_all; done) | refine jC ?_ | refine jD ?_ | refine jE ?_ | refine jF ?_ | refine jG ?_ | with_reducible refine natK_lit ?_ | refine natK_of rfl ?_ | refine natK_any ?_ | refine jP ?_ | refine jQ ?_ | refine jR ?_ | refine jS ?_ | refine jT ?_ | refine jU (fun _ => ?_) | refine jV ?_ | refine jW ?_ | refine jX ?_ | refine jY ?_ | refine jZ ?_ | refine ja ?_ | refine jb ?_ | refine jc ?_ | refine jd ?_ | refine je ?_ | refine jf ?_ | refine jg ?_ | refine jh ?_ | refine ji ?_ | refine jj ?_ | refine jk ?_ | refine jn ?_ | refine jo ?_ | refine jp ?_ | refine jq ?_ | refine jr ?_ | refine js ?_ | assumption | refine jt ?_ | refine jx ?_ | refine jy ?_ | refine ju ?_ | refine jv ?_)) <;> (try (conv => whnf))
end Go.Sx

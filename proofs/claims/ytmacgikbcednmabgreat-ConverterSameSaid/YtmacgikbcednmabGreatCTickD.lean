/-
  Contracts of the functions that decode tickets, and of the data's tickets.
-/
import Derived.Test.YtmacgikbcednmabGreatCTick
set_option linter.all false
namespace Go.Sx
open Go.Proofs Go.RowKit
noncomputable def g35 : Par := par 79 (nthLL [[0, 2], [0, 2, 16], [2, 3], [0, 2, 4], [0, 2, 4], [0, 2, 4, 5], [0, 2, 4, 5], [0, 2, 4, 5], [0, 2, 4, 5], [0, 2, 4, 5], [0, 2, 4, 5], [0, 2, 4, 5], [0, 2, 4, 5], [0, 2, 4, 5, 6, 7], [2, 5, 76], [2, 3], [2, 3]]) [2, 3] (nthLL [])
set_option maxRecDepth 10000
set_option maxHeartbeats 4000000
theorem c_rDecodeT (b : List UInt8) {m : Nat} (hm : m = b.length) (hb : b.length ≤ 100000) : Fn Tryz.prog 35 [.o (.sl (b.map u8) m)] [] (.tup [.c (.a [.b (tickD b).1.1, .s (tickD b).1.2.1, .s (tickD b).1.2.2.1, .s (tickD b).1.2.2.2.1, .i .i64 (tickD b).1.2.2.2.2.1, .i .u64 (tickD b).1.2.2.2.2.2.1, .i .i64 (tickD b).1.2.2.2.2.2.2.1, .i .i64 (tickD b).1.2.2.2.2.2.2.2.1, .s (tickD b).1.2.2.2.2.2.2.2.2.1, .s (tickD b).1.2.2.2.2.2.2.2.2.2]), .c (.o (.i .i64 (tickD b).2))]) [] := by
  obtain ⟨q0, q1, q2, q3, q4, q5, q6, q7, q8⟩ := vA_bounds b
  have t0 := text_len b (vA0 b)
  have t1 := text_len b (vA1 b)
  have t2 := text_len b (vA2 b)
  have t7 := text_len b (vA7 b)
  have t8 := text_len b (vA8 b)
  have o0 := oct0 b
  have lK := bytesS_le b (vA4 b) 8
  have nS := readK_bounds (bytesS b (vA4 b) 8).1
  have r0 : Fn Tryz.prog 27 [.o (.p 1000 0)] [(1000, .st [.sl (b.map u8) m, .i .i64 0, .b false, .b false])] (.one (.c (.o (.i .i64 (uO b).1)))) [(1000, .st [.sl (b.map u8) m, .i .i64 (vA0 b), .b false, .b (vB0 b)])] := c_rdOctet b hm (by omega) 0 (by omega) false false
  have r1 : Fn Tryz.prog 28 [.o (.p 1000 0)] [(1000, .st [.sl (b.map u8) m, .i .i64 (vA0 b), .b (uB b), .b (vB0 b)])] (.one (.c (.a [.s (textS b (vA0 b)).1, .s (textS b (vA1 b)).1, .s (textS b (vA2 b)).1]))) [(1000, .st [.sl (b.map u8) m, .i .i64 (vA3 b), .b (uB b), .b (vB3 b)])] := c_rdPrincipal b hm (by omega) (vA0 b) q0 (uB b) (vB0 b) (vA1 b) (vA2 b) rfl rfl
  have r2 : Fn Tryz.prog 33 [.o (.p 1000 0)] [(1000, .st [.sl (b.map u8) m, .i .i64 (vA3 b), .b (uB b), .b (vB3 b)])] (.one (.c (.o (.i .i64 (getS (uB b) 4 b (vA3 b)).1)))) [(1000, .st [.sl (b.map u8) m, .i .i64 (vA4 b), .b (uB b), .b (vB4 b)])] := c_rdNumber b hm (by omega) (vA3 b) (by omega) (uB b) (vB3 b)
  have r3 : Fn Tryz.prog 30 [.o (.p 1000 0), .o (.i .i64 8)] [(1000, .st [.sl (b.map u8) m, .i .i64 (vA4 b), .b (uB b), .b (vB4 b)])] (.one (.fr ((bytesS b (vA4 b) 8).1.map u8) (bytesS b (vA4 b) 8).1.length 1)) [(1000, .st [.sl (b.map u8) m, .i .i64 (vA5 b), .b (uB b), .b (vB5 b)])] := c_rdBytes b hm (by omega) (vA4 b) 8 (by omega) (uB b) (vB4 b)
  have r4 : Fn Tryz.prog 27 [.o (.p 1000 0)] [(1000, .st [.sl (b.map u8) m, .i .i64 (vA5 b), .b (uB b), .b (vB5 b)])] (.one (.c (.o (.i .i64 (getS false 1 b (vA5 b)).1)))) [(1000, .st [.sl (b.map u8) m, .i .i64 (vA6 b), .b (uB b), .b (vB6 b)])] := c_rdOctet b hm (by omega) (vA5 b) (by omega) (uB b) (vB5 b)
  have r5 : Fn Tryz.prog 33 [.o (.p 1000 0)] [(1000, .st [.sl (b.map u8) m, .i .i64 (vA6 b), .b (uB b), .b (vB6 b)])] (.one (.c (.o (.i .i64 (getS (uB b) 4 b (vA6 b)).1)))) [(1000, .st [.sl (b.map u8) m, .i .i64 (vA7 b), .b (uB b), .b (vB7 b)])] := c_rdNumber b hm (by omega) (vA6 b) (by omega) (uB b) (vB6 b)
  have r6 : Fn Tryz.prog 63 [.o (.p 1000 0)] [(1000, .st [.sl (b.map u8) m, .i .i64 (vA7 b), .b (uB b), .b (vB7 b)])] (.one (.c (.o (.s (textS b (vA7 b)).1)))) [(1000, .st [.sl (b.map u8) m, .i .i64 (vA8 b), .b (uB b), .b (vB8 b)])] := c_rdText b hm (by omega) (vA7 b) (by omega) (uB b) (vB7 b)
  have r7 : Fn Tryz.prog 63 [.o (.p 1000 0)] [(1000, .st [.sl (b.map u8) m, .i .i64 (vA8 b), .b (uB b), .b (vB8 b)])] (.one (.c (.o (.s (textS b (vA8 b)).1)))) [(1000, .st [.sl (b.map u8) m, .i .i64 (vA9 b), .b (uB b), .b (vB9 b)])] := c_rdText b hm (by omega) (vA8 b) (by omega) (uB b) (vB8 b)
  have cS := c_rkeyRead (bytesS b (vA4 b) 8).1 rfl (by omega)
  have cN := c_rEncodeT (uB b) (textS b (vA0 b)).1 (textS b (vA1 b)).1 (textS b (vA2 b)).1 (getS (uB b) 4 b (vA3 b)).1 (readK (bytesS b (vA4 b) 8).1).1 (getS false 1 b (vA5 b)).1 (getS (uB b) 4 b (vA6 b)).1 (textS b (vA7 b)).1 (textS b (vA8 b)).1 nS (by omega) (by omega) (by omega) (by omega) (by omega)
  rw [show tickN (uB b) (textS b (vA0 b)).1 (textS b (vA1 b)).1 (textS b (vA2 b)).1 (getS (uB b) 4 b (vA3 b)).1 (readK (bytesS b (vA4 b) 8).1).1 (getS false 1 b (vA5 b)).1 (getS (uB b) 4 b (vA6 b)).1 (textS b (vA7 b)).1 (textS b (vA8 b)).1 = vE b from rfl] at cN
  refine Fn_intro (G := g35) (goodA rfl) (fn := Tryz.f35) rfl rfl rfl rfl rfl ?_
  have dr := @tickD_ref b
  rw [vT] at dr
  have hB : uB b = ((uO b).1 == 1) := rfl
  by_cases h1 : (uO b).1 > 1
  · have hl : 0 < b.length := by
      rcases Nat.eq_zero_or_pos b.length with h | h
      · rw [List.length_eq_zero_iff.mp h] at o0 h1
        rw [o0] at h1
        exact absurd h1 (by decide)
      · exact h
    have d7 := tickD_7 h1
    subst hm
    generalize tickD b = R at *
    (repeat' ((conv => whnf) <;> first | exact rfl | with_reducible refine boolK_dec (fun _ => ?_) (fun _ => ?_) <;> try (exfalso; omega) | refine boolK_beq (fun _ => ?_) (fun _ => ?_) <;> try (exfalso; first | omega | with_reducible contradiction) | refine boolK_bne (fun _ => ?_) (fun _ => ?_) <;> try (exfalso; first | omega | with_reducible contradiction) | (with_reducible first | refine boolK_not ?_ | refine boolK_and ?_ | refine boolK_or ?_ | refine boolK_true ?_ | refine boolK_false ?_) | refine boolK_intro (fun _ => ?_) (fun _ => ?_) <;> try (exfalso; simp_all; done) | refine jC ?_ | refine jD ?_ | refine jE ?_ | refine jF ?_ | refine jG ?_ | with_reducible refine natK_lit ?_ | refine natK_of rfl ?_ | refine natK_any ?_ | refine jP ?_ | refine jQ ?_ | refine jR ?_ | refine jS ?_ | refine jT ?_ | refine jU (fun _ => ?_) | refine jV ?_ | refine jW ?_ | refine headI_u8' (by omega) (fun _ => ?_) | refine jy ?_ | refine ju ?_ | refine sideK_intro (by first | (rw [d7] <;> first | rfl | exact ⟨rfl, rfl⟩ | exact ⟨rfl, rfl, rfl⟩)) ?_ | refine jv ?_)) <;> (try (conv => whnf))
  · have db := @tickD_bad b h1
    subst hm
    clear q0 q1 q2 q3 q4 q5 q6 q7 q8 t0 t1 t2 t7 t8 lK nS
    generalize tickD b = R at *
    generalize vE b = E at *
    generalize hk : readK (bytesS b (vA4 b) 8).1 = S at *
    generalize textS b (vA0 b) = T0 at *
    generalize textS b (vA1 b) = T1 at *
    generalize textS b (vA2 b) = T2 at *
    generalize getS (uB b) 4 b (vA3 b) = G3 at *
    generalize bytesS b (vA4 b) 8 = B4 at *
    generalize getS false 1 b (vA5 b) = G5 at *
    generalize getS (uB b) 4 b (vA6 b) = G6 at *
    generalize textS b (vA7 b) = T7 at *
    generalize textS b (vA8 b) = T8 at *
    generalize vA0 b = a0 at *
    generalize vB0 b = b0 at *
    generalize vA3 b = a3 at *
    generalize vB3 b = b3 at *
    generalize vA4 b = a4 at *
    generalize vB4 b = b4 at *
    generalize vA5 b = a5 at *
    generalize vB5 b = b5 at *
    generalize vA6 b = a6 at *
    generalize vB6 b = b6 at *
    generalize vA7 b = a7 at *
    generalize vB7 b = b7 at *
    generalize vA8 b = a8 at *
    generalize vB8 b = b8 at *
    generalize vA9 b = a9 at *
    generalize vB9 b = b9 at *
    rw [hB] at r1 r2 r3 r4 r5 r6 r7 cN dr
    clear hB
    generalize uO b = O at *
    (repeat' ((conv => whnf) <;> first | exact rfl | with_reducible refine boolK_dec (fun _ => ?_) (fun _ => ?_) <;> try (exfalso; omega) | refine boolK_beq (fun _ => ?_) (fun _ => ?_) <;> try (exfalso; first | omega | with_reducible contradiction) | refine boolK_bne (fun _ => ?_) (fun _ => ?_) <;> try (exfalso; first | omega | with_reducible contradiction) | (with_reducible first | refine boolK_not ?_ | refine boolK_and ?_ | refine boolK_or ?_ | refine boolK_true ?_ | refine boolK_false ?_) | refine boolK_intro (fun _ => ?_) (fun _ => ?_) <;> try (exfalso; simp_all; done) | refine jC ?_ | refine jD ?_ | refine jE ?_ | refine jF ?_ | refine jG ?_ | with_reducible refine natK_lit ?_ | refine natK_of rfl ?_ | refine natK_any ?_ | refine jP ?_ | refine jQ ?_ | refine jR ?_ | refine jS ?_ | refine jT ?_ | refine jU (fun _ => ?_) | refine jV ?_ | refine jW ?_ | refine callK_intro (r0) ?_ | refine callK_intro (r1) ?_ | refine callK_intro (r2) ?_ | refine callK_intro (r3) ?_ | refine callK_intro (r4) ?_ | refine callK_intro (r5) ?_ | refine callK_intro (r6) ?_ | refine callK_intro (r7) ?_ | refine callK_intro (cS) ?_ | refine callK_intro (cN) ?_ | refine headI_u8' (by omega) (fun _ => ?_) | refine jy ?_ | refine ju ?_ | refine sideK_intro (by first | (rw [db (.inl (by assumption))] <;> first | rfl | exact ⟨rfl, rfl⟩ | exact ⟨rfl, rfl, rfl⟩) | (rw [db (.inr (.inl (by assumption)))] <;> first | rfl | exact ⟨rfl, rfl⟩ | exact ⟨rfl, rfl, rfl⟩) | (rw [db (.inr (.inr (by assumption)))] <;> first | rfl | exact ⟨rfl, rfl⟩ | exact ⟨rfl, rfl, rfl⟩) | (rw [dr (by assumption) (by assumption)] <;> first | rfl | exact ⟨rfl, rfl⟩ | exact ⟨rfl, rfl, rfl⟩)) ?_ | refine jv ?_)) <;> (try (conv => whnf))
end Go.Sx

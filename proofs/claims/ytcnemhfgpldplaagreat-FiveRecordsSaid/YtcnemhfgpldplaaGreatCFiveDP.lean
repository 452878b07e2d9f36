/-
  Contracts of a decoder of package five and of its reference.
-/
import Derived.Test.YtcnemhfgpldplaaGreatCFiveE
set_option linter.all false
namespace Go.Sx
open Go.Proofs Go.RowKit
noncomputable def g13 : Par := par 39 (nthLL [[0, 2], [0, 2, 4], [0, 2, 4, 5], [0, 2, 4, 5], [0, 2, 4, 5], [0, 2, 4, 5], [0, 2, 4, 5], [0, 2, 4, 5], [0, 2, 5, 22], [2, 3], [0, 2, 5, 6, 7], [2, 5, 36], [2, 3], [2, 3]]) [2, 3] (nthLL [])
noncomputable def g17 : Par := par 57 (nthLL [[0, 2], [0, 2, 4], [0, 2, 4, 5], [0, 2, 4, 5], [0, 2, 4, 5], [0, 2, 4, 5], [0, 2, 4, 5], [0, 2, 4, 5, 6], [0, 2, 4, 5], [0, 2, 4, 5, 7, 8], [2, 5, 54], [2, 3], [2, 3]]) [2, 3] (nthLL [])
set_option maxRecDepth 10000
set_option maxHeartbeats 4000000
theorem c_DecP (b : List UInt8) {m : Nat} (hm : m = b.length) (hb : b.length ≤ 90000) : Fn Tryz.prog 13 [.o (.sl (b.map u8) m)] [] (.tup [.c (.a [.i .u64 (fpD b).1.k, .s (fpD b).1.s1, .s (fpD b).1.s2, .s (fpD b).1.s3, .i .i64 (fpD b).1.st, .i .i64 (fpD b).1.en, .sl ((fpD b).1.rc.map u8) (fpD b).1.rc.length]), .c (.o (.i .i64 (fpD b).2))]) [] := by
  obtain ⟨g1, g2, g3, g4, g5, g6⟩ := fpp_bounds b
  have c0 : Fn Tryz.prog 44 [.o (.p 1000 0)] [(1000, .st [.sl (b.map u8) m, .i .i64 0, .b false])] (.one (.c (.o (.i .u64 (readK (fpu0 b).1).1)))) [(1000, .st [.sl (b.map u8) m, .i .i64 (fpp1 b).1, .b (fpp1 b).2])] := c_fKey b hm (by omega) ((0, false) : Int × Bool) (by first | omega | decide)
  have c1 : Fn Tryz.prog 43 [.o (.p 1000 0)] [(1000, .st [.sl (b.map u8) m, .i .i64 (fpp1 b).1, .b (fpp1 b).2])] (.one (.c (.a [.s (fpu1 b).1.1, .s (fpu1 b).1.2.1, .s (fpu1 b).1.2.2]))) [(1000, .st [.sl (b.map u8) m, .i .i64 (fpp2 b).1, .b (fpp2 b).2])] := c_fPrin b hm (by omega) (fpp1 b) (by first | omega | decide)
  have l1 : (fpu1 b).1.1.length ≤ 40 ∧ (fpu1 b).1.2.1.length ≤ 40 ∧ (fpu1 b).1.2.2.length ≤ 40 := prin_len b (fpp1 b).1
  have c2 : Fn Tryz.prog 45 [.o (.p 1000 0)] [(1000, .st [.sl (b.map u8) m, .i .i64 (fpp2 b).1, .b (fpp2 b).2])] (.one (.c (.o (.i .i64 (fpu2 b).1)))) [(1000, .st [.sl (b.map u8) m, .i .i64 (fpp3 b).1, .b (fpp3 b).2])] := c_fNum b hm (by omega) (fpp2 b) (by first | omega | decide)
  have c3 : Fn Tryz.prog 45 [.o (.p 1000 0)] [(1000, .st [.sl (b.map u8) m, .i .i64 (fpp3 b).1, .b (fpp3 b).2])] (.one (.c (.o (.i .i64 (fpu3 b).1)))) [(1000, .st [.sl (b.map u8) m, .i .i64 (fpp4 b).1, .b (fpp4 b).2])] := c_fNum b hm (by omega) (fpp3 b) (by first | omega | decide)
  have c4 : Fn Tryz.prog 48 [.o (.p 1000 0)] [(1000, .st [.sl (b.map u8) m, .i .i64 (fpp4 b).1, .b (fpp4 b).2])] (.one (.c (.o (.i .i64 (fpu4 b).1)))) [(1000, .st [.sl (b.map u8) m, .i .i64 (fpp5 b).1, .b (fpp5 b).2])] := c_fSh b hm (by omega) (fpp4 b) (by first | omega | decide)
  have c5 : Fn Tryz.prog 47 [.o (.p 1000 0), .o (.i .i64 (fpu4 b).1)] [(1000, .st [.sl (b.map u8) m, .i .i64 (fpp5 b).1, .b (fpp5 b).2])] (.one (.fr ((fpu5 b).1.map u8) (fpu5 b).1.length 1)) [(1000, .st [.sl (b.map u8) m, .i .i64 (fpp6 b).1, .b (fpp6 b).2])] := c_fBytes b hm (by omega) (fpp5 b) (by first | omega | decide) (fpu4 b).1
  have l5 : (fpu5 b).1.length ≤ b.length := bytesS_le b (fpp5 b).1 (fpu4 b).1
  have d1 := @fpD_u1 b
  have d0 := @fpD_u0 b
  rw [fp0] at d0
  rw [fpRu] at d1 d0
  have cE := c_EncP (readK (fpu0 b).1).1 (fpu1 b).1.1 (fpu1 b).1.2.1 (fpu1 b).1.2.2 (fpu2 b).1 (fpu3 b).1 (fpu5 b).1 rfl (by omega) (readK_bounds _)
  clear g1 g2 g3 g4 g5 g6
  generalize fpD b = D at *
  generalize fpN ⟨(readK (fpu0 b).1).1, (fpu1 b).1.1, (fpu1 b).1.2.1, (fpu1 b).1.2.2, (fpu2 b).1, (fpu3 b).1, (fpu5 b).1⟩ = E at *
  generalize fpp6 b = P6 at *
  generalize fpp5 b = P5 at *
  generalize fpp4 b = P4 at *
  generalize fpp3 b = P3 at *
  generalize fpp2 b = P2 at *
  generalize fpp1 b = P1 at *
  generalize fpu5 b = U5 at *
  generalize fpu4 b = U4 at *
  generalize fpu3 b = U3 at *
  generalize fpu2 b = U2 at *
  generalize fpu1 b = U1 at *
  generalize fpu0 b = U0 at *
  generalize readK U0.1 = Q0 at *
  refine Fn_intro (G := g13) (goodA rfl) (fn := Tryz.f13) rfl rfl rfl rfl rfl ?_
  (repeat' ((conv => whnf) <;> first | exact rfl | with_reducible refine boolK_dec (fun _ => ?_) (fun _ => ?_) <;> try (exfalso; omega) | refine boolK_beq (fun _ => ?_) (fun _ => ?_) <;> try (exfalso; first | omega | with_reducible contradiction) | refine boolK_bne (fun _ => ?_) (fun _ => ?_) <;> try (exfalso; first | omega | with_reducible contradiction) | (with_reducible first | refine boolK_not ?_ | refine boolK_and ?_ | refine boolK_or ?_ | refine boolK_true ?_ | refine boolK_false ?_) | refine boolK_intro (fun _ => ?_) (fun _ => ?_) <;> try (exfalso; simp_all; done) | with_reducible refine natK_lit ?_ | refine natK_of rfl ?_ | refine natK_any ?_ | refine jP ?_ | refine jQ ?_ | refine jR ?_ | refine jS ?_ | refine jT ?_ | refine jU (fun _ => ?_) | refine jV ?_ | refine jW ?_ | refine jX ?_ | refine jY ?_ | refine jZ ?_ | refine ja ?_ | refine jb ?_ | refine jc ?_ | refine jd ?_ | refine je ?_ | refine jf ?_ | refine jg ?_ | refine jh ?_ | refine ji ?_ | refine jj ?_ | refine jk ?_ | refine jn ?_ | refine jo ?_ | refine jp ?_ | refine jq ?_ | refine jr ?_ | refine js ?_ | refine callK_intro (c0) ?_ | refine callK_intro (c1) ?_ | refine callK_intro (c2) ?_ | refine callK_intro (c3) ?_ | refine callK_intro (c4) ?_ | refine callK_intro (c5) ?_ | refine callK_intro (cE) ?_ | refine callK_intro (c_Equal _ _ rfl hm) ?_ | refine jt ?_ | refine jx ?_ | refine jy ?_ | refine ju ?_ | refine sideK_intro (by first | (rw [d0 (.inl (by assumption))] <;> first | rfl | exact ⟨rfl, rfl⟩ | exact ⟨rfl, rfl, rfl⟩) | (rw [d0 (.inr (.inl (by assumption)))] <;> first | rfl | exact ⟨rfl, rfl⟩ | exact ⟨rfl, rfl, rfl⟩) | (rw [d0 (.inr (.inr (by assumption)))] <;> first | rfl | exact ⟨rfl, rfl⟩ | exact ⟨rfl, rfl, rfl⟩) | (rw [d1 (by assumption) (by assumption)] <;> first | rfl | exact ⟨rfl, rfl⟩ | exact ⟨rfl, rfl, rfl⟩)) ?_ | refine jv ?_)) <;> (try (conv => whnf))
theorem c_rDecP (b : List UInt8) {m : Nat} (hm : m = b.length) (hb : b.length ≤ 90000) : Fn Tryz.prog 17 [.o (.sl (b.map u8) m)] [] (.tup [.c (.a [.i .u64 (fpD b).1.k, .s (fpD b).1.s1, .s (fpD b).1.s2, .s (fpD b).1.s3, .i .i64 (fpD b).1.st, .i .i64 (fpD b).1.en, .sl ((fpD b).1.rc.map u8) (fpD b).1.rc.length]), .c (.o (.i .i64 (fpD b).2))]) [] := by
  obtain ⟨g1, g2, g3, g4, g5, g6⟩ := fps_bounds  b
  have r0 : Fn Tryz.prog 51 [.o (.p 1000 0), .o (.i .i64 8)] [(1000, .st [.sl (b.map u8) m, .i .i64 0, .b false, .b false])] (.one (.fr ((fpw0 b).1.map u8) (fpw0 b).1.length 1)) [(1000, .st [.sl (b.map u8) m, .i .i64 (fps1 b).1, .b false, .b (fps1 b).2])] := c_rdBytes b hm (by omega) 0 8 (by omega) false false
  have t0 := bytesS_le b 0 8
  rw [show bytesS b 0 8 = fpw0 b from rfl] at t0
  have r1 : Fn Tryz.prog 49 [.o (.p 1000 0)] [(1000, .st [.sl (b.map u8) m, .i .i64 (fps1 b).1, .b false, .b (fps1 b).2])] (.one (.c (.a [.s (fpw1 b).1.1, .s (fpw1 b).1.2.1, .s (fpw1 b).1.2.2]))) [(1000, .st [.sl (b.map u8) m, .i .i64 (fps2 b).1, .b false, .b (fps2 b).2])] := c_rdPrincipal b hm (by omega) (fps1 b).1 (by omega) false (fps1 b).2 (fps1_1  b).1 (fps1_2  b).1 rfl rfl
  have t1_0 : (fpw1 b).1.1.length ≤ 40 := text_len b (fps1 b).1
  have t1_1 : (fpw1 b).1.2.1.length ≤ 40 := text_len b (fps1_1  b).1
  have t1_2 : (fpw1 b).1.2.2.length ≤ 40 := text_len b (fps1_2  b).1
  have r2 : Fn Tryz.prog 52 [.o (.p 1000 0)] [(1000, .st [.sl (b.map u8) m, .i .i64 (fps2 b).1, .b false, .b (fps2 b).2])] (.one (.c (.o (.i .i64 (fpw2 b).1)))) [(1000, .st [.sl (b.map u8) m, .i .i64 (fps3 b).1, .b false, .b (fps3 b).2])] := c_rdNumber b hm (by omega) (fps2 b).1 (by omega) false (fps2 b).2
  have r3 : Fn Tryz.prog 52 [.o (.p 1000 0)] [(1000, .st [.sl (b.map u8) m, .i .i64 (fps3 b).1, .b false, .b (fps3 b).2])] (.one (.c (.o (.i .i64 (fpw3 b).1)))) [(1000, .st [.sl (b.map u8) m, .i .i64 (fps4 b).1, .b false, .b (fps4 b).2])] := c_rdNumber b hm (by omega) (fps3 b).1 (by omega) false (fps3 b).2
  have r4 : Fn Tryz.prog 53 [.o (.p 1000 0)] [(1000, .st [.sl (b.map u8) m, .i .i64 (fps4 b).1, .b false, .b (fps4 b).2])] (.one (.c (.o (.i .i64 (fpw4 b).1)))) [(1000, .st [.sl (b.map u8) m, .i .i64 (fps5 b).1, .b false, .b (fps5 b).2])] := c_rdShort b hm (by omega) (fps4 b).1 (by omega) false (fps4 b).2
  have r5 : Fn Tryz.prog 51 [.o (.p 1000 0), .o (.i .i64 (fpw4 b).1)] [(1000, .st [.sl (b.map u8) m, .i .i64 (fps5 b).1, .b false, .b (fps5 b).2])] (.one (.fr ((fpw5 b).1.map u8) (fpw5 b).1.length 1)) [(1000, .st [.sl (b.map u8) m, .i .i64 (fps6 b).1, .b false, .b (fps6 b).2])] := c_rdBytes b hm (by omega) (fps5 b).1 (fpw4 b).1 (by omega) false (fps5 b).2
  have t5 := bytesS_le b (fps5 b).1 (fpw4 b).1
  rw [show bytesS b (fps5 b).1 (fpw4 b).1 = fpw5 b from rfl] at t5
  have rk0 := c_rkeyRead (fpw0 b).1 rfl (by omega)
  have d1 := @fpD_w1 b
  have d0 := @fpD_w0 b
  rw [fp0] at d0
  rw [fpRw] at d1 d0
  have cE := c_rEncP (readK (fpw0 b).1).1 (fpw1 b).1.1 (fpw1 b).1.2.1 (fpw1 b).1.2.2 (fpw2 b).1 (fpw3 b).1 (fpw5 b).1 rfl (by omega) (readK_bounds _)
  clear g1 g2 g3 g4 g5 g6
  generalize fpD b = D at *
  generalize fpN ⟨(readK (fpw0 b).1).1, (fpw1 b).1.1, (fpw1 b).1.2.1, (fpw1 b).1.2.2, (fpw2 b).1, (fpw3 b).1, (fpw5 b).1⟩ = E at *
  generalize fps6 b = S6 at *
  generalize fps5 b = S5 at *
  generalize fps4 b = S4 at *
  generalize fps3 b = S3 at *
  generalize fps2 b = S2 at *
  generalize fps1 b = S1 at *
  generalize fpw5 b = W5 at *
  generalize fpw4 b = W4 at *
  generalize fpw3 b = W3 at *
  generalize fpw2 b = W2 at *
  generalize fpw1 b = W1 at *
  generalize fpw0 b = W0 at *
  generalize readK W0.1 = Q0 at *
  refine Fn_intro (G := g17) (goodA rfl) (fn := Tryz.f17) rfl rfl rfl rfl rfl ?_
  (repeat' ((conv => whnf) <;> first | exact rfl | with_reducible refine boolK_dec (fun _ => ?_) (fun _ => ?_) <;> try (exfalso; omega) | refine boolK_beq (fun _ => ?_) (fun _ => ?_) <;> try (exfalso; first | omega | with_reducible contradiction) | refine boolK_bne (fun _ => ?_) (fun _ => ?_) <;> try (exfalso; first | omega | with_reducible contradiction) | (with_reducible first | refine boolK_not ?_ | refine boolK_and ?_ | refine boolK_or ?_ | refine boolK_true ?_ | refine boolK_false ?_) | refine boolK_intro (fun _ => ?_) (fun _ => ?_) <;> try (exfalso; simp_all; done) | refine jC ?_ | refine jD ?_ | refine jE ?_ | refine jF ?_ | refine jG ?_ | with_reducible refine natK_lit ?_ | refine natK_of rfl ?_ | refine natK_any ?_ | refine jP ?_ | refine jQ ?_ | refine jR ?_ | refine jS ?_ | refine jT ?_ | refine jU (fun _ => ?_) | refine jV ?_ | refine jW ?_ | refine jX ?_ | refine jY ?_ | refine jZ ?_ | refine ja ?_ | refine jb ?_ | refine jc ?_ | refine jd ?_ | refine je ?_ | refine jf ?_ | refine jg ?_ | refine jh ?_ | refine ji ?_ | refine jj ?_ | refine jk ?_ | refine jn ?_ | refine jo ?_ | refine jp ?_ | refine jq ?_ | refine jr ?_ | refine js ?_ | refine callK_intro (r0) ?_ | refine callK_intro (r1) ?_ | refine callK_intro (r2) ?_ | refine callK_intro (r3) ?_ | refine callK_intro (r4) ?_ | refine callK_intro (r5) ?_ | refine callK_intro (rk0) ?_ | refine callK_intro (cE) ?_ | refine jt ?_ | refine jx ?_ | refine jy ?_ | refine ju ?_ | refine sideK_intro (by first | (rw [d0 (.inl (by assumption))] <;> first | rfl | exact ⟨rfl, rfl⟩ | exact ⟨rfl, rfl, rfl⟩) | (rw [d0 (.inr (.inl (by assumption)))] <;> first | rfl | exact ⟨rfl, rfl⟩ | exact ⟨rfl, rfl, rfl⟩) | (rw [d0 (.inr (.inr (by assumption)))] <;> first | rfl | exact ⟨rfl, rfl⟩ | exact ⟨rfl, rfl, rfl⟩) | (rw [d1 (by assumption) (by assumption)] <;> first | rfl | exact ⟨rfl, rfl⟩ | exact ⟨rfl, rfl, rfl⟩)) ?_ | refine jv ?_)) <;> (try (conv => whnf))
end Go.Sx

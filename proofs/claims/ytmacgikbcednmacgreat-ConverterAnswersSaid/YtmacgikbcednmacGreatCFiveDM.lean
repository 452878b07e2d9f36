/-
  Contracts of a decoder of package five and of its reference.
-/
import Derived.Test.YtmacgikbcednmacGreatCFiveE
set_option linter.all false
namespace Go.Sx
open Go.Proofs Go.RowKit
noncomputable def g61 : Par := par 47 (nthLL [[0, 2], [0, 2, 5], [0, 2, 5, 17], [2, 3], [0, 2, 6], [0, 2, 6, 7], [0, 2, 6, 7], [0, 2, 6, 7], [0, 2, 6, 7], [0, 2, 7, 30], [2, 3], [0, 2, 7, 8, 9], [2, 7, 44], [2, 3], [2, 3]]) [2, 3, 5] (nthLL [])
noncomputable def g32 : Par := par 57 (nthLL [[0, 2], [0, 2, 5], [0, 2, 5, 17], [2, 3], [0, 2, 6], [0, 2, 6, 7], [0, 2, 6, 7], [0, 2, 6, 7, 8], [0, 2, 6, 7], [0, 2, 5, 6, 7, 9], [2, 7, 54], [2, 3], [2, 3]]) [2, 3, 5] (nthLL [])
set_option maxRecDepth 10000
set_option maxHeartbeats 4000000
theorem c_DecM (b : List UInt8) {m : Nat} (hm : m = b.length) (hb : b.length ≤ 90000) : Fn Tryz.prog 61 [.o (.sl (b.map u8) m)] [] (.tup [.c (.a [.i .i64 (fmD b).1.op, .s (fmD b).1.n1, .s (fmD b).1.n2, .s (fmD b).1.n3, .sl ((fmD b).1.bx.map u8) (fmD b).1.bx.length]), .c (.o (.i .i64 (fmD b).2))]) [] := by
  obtain ⟨g1, g2, g3, g4⟩ := fmp_bounds b
  have c0 : Fn Tryz.prog 102 [.o (.p 1000 0)] [(1000, .st [.sl (b.map u8) m, .i .i64 2, .b false])] (.one (.c (.o (.i .i64 (fmu0 b).1)))) [(1000, .st [.sl (b.map u8) m, .i .i64 (fmp1 b).1, .b (fmp1 b).2])] := c_fOct b hm (by omega) ((2, false) : Int × Bool) (by first | omega | decide)
  have c1 : Fn Tryz.prog 103 [.o (.p 1000 0)] [(1000, .st [.sl (b.map u8) m, .i .i64 (fmp1 b).1, .b (fmp1 b).2])] (.one (.c (.a [.s (fmu1 b).1.1, .s (fmu1 b).1.2.1, .s (fmu1 b).1.2.2]))) [(1000, .st [.sl (b.map u8) m, .i .i64 (fmp2 b).1, .b (fmp2 b).2])] := c_fPrin b hm (by omega) (fmp1 b) (by first | omega | decide)
  have l1 : (fmu1 b).1.1.length ≤ 40 ∧ (fmu1 b).1.2.1.length ≤ 40 ∧ (fmu1 b).1.2.2.length ≤ 40 := prin_len b (fmp1 b).1
  have c2 : Fn Tryz.prog 105 [.o (.p 1000 0)] [(1000, .st [.sl (b.map u8) m, .i .i64 (fmp2 b).1, .b (fmp2 b).2])] (.one (.c (.o (.i .i64 (fmu2 b).1)))) [(1000, .st [.sl (b.map u8) m, .i .i64 (fmp3 b).1, .b (fmp3 b).2])] := c_fSh b hm (by omega) (fmp2 b) (by first | omega | decide)
  have c3 : Fn Tryz.prog 104 [.o (.p 1000 0), .o (.i .i64 (fmu2 b).1)] [(1000, .st [.sl (b.map u8) m, .i .i64 (fmp3 b).1, .b (fmp3 b).2])] (.one (.fr ((fmu3 b).1.map u8) (fmu3 b).1.length 1)) [(1000, .st [.sl (b.map u8) m, .i .i64 (fmp4 b).1, .b (fmp4 b).2])] := c_fBytes b hm (by omega) (fmp3 b) (by first | omega | decide) (fmu2 b).1
  have l3 : (fmu3 b).1.length ≤ b.length := bytesS_le b (fmp3 b).1 (fmu2 b).1
  have cI := c_is b hm [10] rfl (by decide)
  have dh := @fmD_head b
  rw [fm0] at dh
  have d1 := @fmD_u1 b
  have d0 := @fmD_u0 b
  rw [fm0] at d0
  rw [fmRu] at d1 d0
  have cE := c_EncM (fmu0 b).1 (fmu1 b).1.1 (fmu1 b).1.2.1 (fmu1 b).1.2.2 (fmu3 b).1 rfl (by omega)
  clear g1 g2 g3 g4
  generalize fmD b = D at *
  generalize fmN ⟨(fmu0 b).1, (fmu1 b).1.1, (fmu1 b).1.2.1, (fmu1 b).1.2.2, (fmu3 b).1⟩ = E at *
  generalize isS b [10] = I at *
  generalize fmp4 b = P4 at *
  generalize fmp3 b = P3 at *
  generalize fmp2 b = P2 at *
  generalize fmp1 b = P1 at *
  generalize fmu3 b = U3 at *
  generalize fmu2 b = U2 at *
  generalize fmu1 b = U1 at *
  generalize fmu0 b = U0 at *
  refine Fn_intro (G := g61) (goodA rfl) (fn := Tryz.f61) rfl rfl rfl rfl rfl ?_
  (repeat' ((conv => whnf) <;> first | exact rfl | with_reducible refine boolK_dec (fun _ => ?_) (fun _ => ?_) <;> try (exfalso; omega) | refine boolK_beq (fun _ => ?_) (fun _ => ?_) <;> try (exfalso; first | omega | with_reducible contradiction) | refine boolK_bne (fun _ => ?_) (fun _ => ?_) <;> try (exfalso; first | omega | with_reducible contradiction) | (with_reducible first | refine boolK_not ?_ | refine boolK_and ?_ | refine boolK_or ?_ | refine boolK_true ?_ | refine boolK_false ?_) | refine boolK_intro (fun _ => ?_) (fun _ => ?_) <;> try (exfalso; simp_all; done) | with_reducible refine natK_lit ?_ | refine natK_of rfl ?_ | refine natK_any ?_ | refine je ?_ | refine jf ?_ | refine jg ?_ | refine jh ?_ | refine ji ?_ | refine jj ?_ | refine jk ?_ | refine callK_intro (cI) ?_ | refine callK_intro (c0) ?_ | refine callK_intro (c1) ?_ | refine callK_intro (c2) ?_ | refine callK_intro (c3) ?_ | refine callK_intro (cE) ?_ | refine callK_intro (c_Equal _ _ rfl hm) ?_ | refine jy ?_ | refine ju ?_ | refine sideK_intro (by first | (rw [dh (by assumption)] <;> first | rfl | exact ⟨rfl, rfl⟩ | exact ⟨rfl, rfl, rfl⟩) | (rw [d0 (by assumption) (.inl (by assumption))] <;> first | rfl | exact ⟨rfl, rfl⟩ | exact ⟨rfl, rfl, rfl⟩) | (rw [d0 (by assumption) (.inr (.inl (by assumption)))] <;> first | rfl | exact ⟨rfl, rfl⟩ | exact ⟨rfl, rfl, rfl⟩) | (rw [d0 (by assumption) (.inr (.inr (by assumption)))] <;> first | rfl | exact ⟨rfl, rfl⟩ | exact ⟨rfl, rfl, rfl⟩) | (rw [d1 (by assumption) (by assumption) (by assumption)] <;> first | rfl | exact ⟨rfl, rfl⟩ | exact ⟨rfl, rfl, rfl⟩)) ?_ | refine jv ?_)) <;> (try (conv => whnf))
theorem c_rDecM (b : List UInt8) {m : Nat} (hm : m = b.length) (hb : b.length ≤ 90000) : Fn Tryz.prog 32 [.o (.sl (b.map u8) m)] [] (.tup [.c (.a [.i .i64 (fmD b).1.op, .s (fmD b).1.n1, .s (fmD b).1.n2, .s (fmD b).1.n3, .sl ((fmD b).1.bx.map u8) (fmD b).1.bx.length]), .c (.o (.i .i64 (fmD b).2))]) [] := by
  by_cases h2 : 2 ≤ b.length
  case neg =>
    have cI := c_ris b hm [10] rfl (by decide)
    have dh := @fmD_head b
    have hi : ¬ (isS b [10]).2 = 0 := by rw [isS, show readS b = (0, false, 101) from by rw [readS, if_pos (by omega)]]; decide
    rw [dh hi]
    dsimp only [fm0]
    generalize isS b [10] = I at *
    refine Fn_intro (G := g32) (goodA rfl) (fn := Tryz.f32) rfl rfl rfl rfl rfl ?_
    (repeat' ((conv => whnf) <;> first | exact rfl | with_reducible refine boolK_dec (fun _ => ?_) (fun _ => ?_) <;> try (exfalso; omega) | refine boolK_beq (fun _ => ?_) (fun _ => ?_) <;> try (exfalso; first | omega | with_reducible contradiction) | refine boolK_bne (fun _ => ?_) (fun _ => ?_) <;> try (exfalso; first | omega | with_reducible contradiction) | (with_reducible first | refine boolK_not ?_ | refine boolK_and ?_ | refine boolK_or ?_ | refine boolK_true ?_ | refine boolK_false ?_) | refine boolK_intro (fun _ => ?_) (fun _ => ?_) <;> try (exfalso; simp_all; done) | refine jC ?_ | refine jD ?_ | refine jE ?_ | refine jF ?_ | refine jG ?_ | with_reducible refine natK_lit ?_ | refine natK_of rfl ?_ | refine natK_any ?_ | refine jW ?_ | refine je ?_ | refine jf ?_ | refine jg ?_ | refine jh ?_ | refine ji ?_ | refine jj ?_ | refine jk ?_ | refine callK_intro (cI) ?_ | refine jy ?_ | refine ju ?_ | refine jv ?_)) <;> (try (conv => whnf))
  obtain ⟨g1, g2, g3, g4⟩ := fms_bounds  b
  have r0 : Fn Tryz.prog 71 [.o (.p 1000 0)] [(1000, .st [.sl (b.map u8) m, .i .i64 2, .b false, .b false])] (.one (.c (.o (.i .i64 (fmw0 b).1)))) [(1000, .st [.sl (b.map u8) m, .i .i64 (fms1 b).1, .b false, .b (fms1 b).2])] := c_rdOctet b hm (by omega) 2 (by omega) false false
  have r1 : Fn Tryz.prog 72 [.o (.p 1000 0)] [(1000, .st [.sl (b.map u8) m, .i .i64 (fms1 b).1, .b false, .b (fms1 b).2])] (.one (.c (.a [.s (fmw1 b).1.1, .s (fmw1 b).1.2.1, .s (fmw1 b).1.2.2]))) [(1000, .st [.sl (b.map u8) m, .i .i64 (fms2 b).1, .b false, .b (fms2 b).2])] := c_rdPrincipal b hm (by omega) (fms1 b).1 (by omega) false (fms1 b).2 (fms1_1  b).1 (fms1_2  b).1 rfl rfl
  have t1_0 : (fmw1 b).1.1.length ≤ 40 := text_len b (fms1 b).1
  have t1_1 : (fmw1 b).1.2.1.length ≤ 40 := text_len b (fms1_1  b).1
  have t1_2 : (fmw1 b).1.2.2.length ≤ 40 := text_len b (fms1_2  b).1
  have r2 : Fn Tryz.prog 73 [.o (.p 1000 0)] [(1000, .st [.sl (b.map u8) m, .i .i64 (fms2 b).1, .b false, .b (fms2 b).2])] (.one (.c (.o (.i .i64 (fmw2 b).1)))) [(1000, .st [.sl (b.map u8) m, .i .i64 (fms3 b).1, .b false, .b (fms3 b).2])] := c_rdShort b hm (by omega) (fms2 b).1 (by omega) false (fms2 b).2
  have r3 : Fn Tryz.prog 74 [.o (.p 1000 0), .o (.i .i64 (fmw2 b).1)] [(1000, .st [.sl (b.map u8) m, .i .i64 (fms3 b).1, .b false, .b (fms3 b).2])] (.one (.fr ((fmw3 b).1.map u8) (fmw3 b).1.length 1)) [(1000, .st [.sl (b.map u8) m, .i .i64 (fms4 b).1, .b false, .b (fms4 b).2])] := c_rdBytes b hm (by omega) (fms3 b).1 (fmw2 b).1 (by omega) false (fms3 b).2
  have t3 := bytesS_le b (fms3 b).1 (fmw2 b).1
  rw [show bytesS b (fms3 b).1 (fmw2 b).1 = fmw3 b from rfl] at t3
  have cI := c_ris b hm [10] rfl (by decide)
  have dh := @fmD_head b
  rw [fm0] at dh
  have d1 := @fmD_w1 b
  have d0 := @fmD_w0 b
  rw [fm0] at d0
  rw [fmRw] at d1 d0
  have cE := c_rEncM (fmw0 b).1 (fmw1 b).1.1 (fmw1 b).1.2.1 (fmw1 b).1.2.2 (fmw3 b).1 rfl (by omega)
  clear g1 g2 g3 g4
  generalize fmD b = D at *
  generalize fmN ⟨(fmw0 b).1, (fmw1 b).1.1, (fmw1 b).1.2.1, (fmw1 b).1.2.2, (fmw3 b).1⟩ = E at *
  generalize isS b [10] = I at *
  generalize fms4 b = S4 at *
  generalize fms3 b = S3 at *
  generalize fms2 b = S2 at *
  generalize fms1 b = S1 at *
  generalize fmw3 b = W3 at *
  generalize fmw2 b = W2 at *
  generalize fmw1 b = W1 at *
  generalize fmw0 b = W0 at *
  refine Fn_intro (G := g32) (goodA rfl) (fn := Tryz.f32) rfl rfl rfl rfl rfl ?_
  (repeat' ((conv => whnf) <;> first | exact rfl | with_reducible refine boolK_dec (fun _ => ?_) (fun _ => ?_) <;> try (exfalso; omega) | refine boolK_beq (fun _ => ?_) (fun _ => ?_) <;> try (exfalso; first | omega | with_reducible contradiction) | refine boolK_bne (fun _ => ?_) (fun _ => ?_) <;> try (exfalso; first | omega | with_reducible contradiction) | (with_reducible first | refine boolK_not ?_ | refine boolK_and ?_ | refine boolK_or ?_ | refine boolK_true ?_ | refine boolK_false ?_) | refine boolK_intro (fun _ => ?_) (fun _ => ?_) <;> try (exfalso; simp_all; done) | refine jC ?_ | refine jD ?_ | refine jE ?_ | refine jF ?_ | refine jG ?_ | with_reducible refine natK_lit ?_ | refine natK_of rfl ?_ | refine natK_any ?_ | refine jW ?_ | refine je ?_ | refine jf ?_ | refine jg ?_ | refine jh ?_ | refine ji ?_ | refine jj ?_ | refine jk ?_ | refine callK_intro (cI) ?_ | refine callK_intro (r0) ?_ | refine callK_intro (r1) ?_ | refine callK_intro (r2) ?_ | refine callK_intro (r3) ?_ | refine callK_intro (cE) ?_ | refine jy ?_ | refine ju ?_ | refine sideK_intro (by first | (rw [dh (by assumption)] <;> first | rfl | exact ⟨rfl, rfl⟩ | exact ⟨rfl, rfl, rfl⟩) | (rw [d0 (by assumption) (.inl (by assumption))] <;> first | rfl | exact ⟨rfl, rfl⟩ | exact ⟨rfl, rfl, rfl⟩) | (rw [d0 (by assumption) (.inr (.inl (by assumption)))] <;> first | rfl | exact ⟨rfl, rfl⟩ | exact ⟨rfl, rfl, rfl⟩) | (rw [d0 (by assumption) (.inr (.inr (by assumption)))] <;> first | rfl | exact ⟨rfl, rfl⟩ | exact ⟨rfl, rfl, rfl⟩) | (rw [d1 (by assumption) (by assumption) (by assumption)] <;> first | rfl | exact ⟨rfl, rfl⟩ | exact ⟨rfl, rfl, rfl⟩)) ?_ | refine jv ?_)) <;> (try (conv => whnf))
end Go.Sx

/-
  Contracts of a decoder of package five and of its reference.
-/
import Derived.Test.YtcnemhfgpldplabCFiveE
set_option linter.all false
namespace Go.Sx
open Go.Proofs Go.RowKit
noncomputable def g26 : Par := par 39 (nthLL [[0, 2], [0, 2, 4], [0, 2, 4, 5], [0, 2, 4, 5], [0, 2, 4, 5], [0, 2, 4, 5], [0, 2, 4, 5], [0, 2, 4, 5], [0, 2, 5, 22], [2, 3], [0, 2, 5, 6, 7], [2, 5, 36], [2, 3], [2, 3]]) [2, 3] (nthLL [])
set_option maxRecDepth 10000
set_option maxHeartbeats 4000000
theorem c_DecP (b : List UInt8) {m : Nat} (hm : m = b.length) (hb : b.length ≤ 90000) : Fn Try.prog 26 [.o (.sl (b.map u8) m)] [] (.tup [.c (.a [.i .u64 (fpD b).1.k, .s (fpD b).1.s1, .s (fpD b).1.s2, .s (fpD b).1.s3, .i .i64 (fpD b).1.st, .i .i64 (fpD b).1.en, .sl ((fpD b).1.rc.map u8) (fpD b).1.rc.length]), .c (.o (.i .i64 (fpD b).2))]) [] := by
  obtain ⟨g1, g2, g3, g4, g5, g6⟩ := fpp_bounds b
  have c0 : Fn Try.prog 29 [.o (.p 1000 0)] [(1000, .st [.sl (b.map u8) m, .i .i64 0, .b false])] (.one (.c (.o (.i .u64 (readK (fpu0 b).1).1)))) [(1000, .st [.sl (b.map u8) m, .i .i64 (fpp1 b).1, .b (fpp1 b).2])] := c_fKey b hm (by omega) ((0, false) : Int × Bool) (by first | omega | decide)
  have c1 : Fn Try.prog 28 [.o (.p 1000 0)] [(1000, .st [.sl (b.map u8) m, .i .i64 (fpp1 b).1, .b (fpp1 b).2])] (.one (.c (.a [.s (fpu1 b).1.1, .s (fpu1 b).1.2.1, .s (fpu1 b).1.2.2]))) [(1000, .st [.sl (b.map u8) m, .i .i64 (fpp2 b).1, .b (fpp2 b).2])] := c_fPrin b hm (by omega) (fpp1 b) (by first | omega | decide)
  have l1 : (fpu1 b).1.1.length ≤ 40 ∧ (fpu1 b).1.2.1.length ≤ 40 ∧ (fpu1 b).1.2.2.length ≤ 40 := prin_len b (fpp1 b).1
  have c2 : Fn Try.prog 30 [.o (.p 1000 0)] [(1000, .st [.sl (b.map u8) m, .i .i64 (fpp2 b).1, .b (fpp2 b).2])] (.one (.c (.o (.i .i64 (fpu2 b).1)))) [(1000, .st [.sl (b.map u8) m, .i .i64 (fpp3 b).1, .b (fpp3 b).2])] := c_fNum b hm (by omega) (fpp2 b) (by first | omega | decide)
  have c3 : Fn Try.prog 30 [.o (.p 1000 0)] [(1000, .st [.sl (b.map u8) m, .i .i64 (fpp3 b).1, .b (fpp3 b).2])] (.one (.c (.o (.i .i64 (fpu3 b).1)))) [(1000, .st [.sl (b.map u8) m, .i .i64 (fpp4 b).1, .b (fpp4 b).2])] := c_fNum b hm (by omega) (fpp3 b) (by first | omega | decide)
  have c4 : Fn Try.prog 51 [.o (.p 1000 0)] [(1000, .st [.sl (b.map u8) m, .i .i64 (fpp4 b).1, .b (fpp4 b).2])] (.one (.c (.o (.i .i64 (fpu4 b).1)))) [(1000, .st [.sl (b.map u8) m, .i .i64 (fpp5 b).1, .b (fpp5 b).2])] := c_fSh b hm (by omega) (fpp4 b) (by first | omega | decide)
  have c5 : Fn Try.prog 50 [.o (.p 1000 0), .o (.i .i64 (fpu4 b).1)] [(1000, .st [.sl (b.map u8) m, .i .i64 (fpp5 b).1, .b (fpp5 b).2])] (.one (.fr ((fpu5 b).1.map u8) (fpu5 b).1.length 1)) [(1000, .st [.sl (b.map u8) m, .i .i64 (fpp6 b).1, .b (fpp6 b).2])] := c_fBytes b hm (by omega) (fpp5 b) (by first | omega | decide) (fpu4 b).1
  have l5 : (fpu5 b).1.length ≤ b.length := bytesS_le b (fpp5 b).1 (fpu4 b).1
  have d1 := @fpD_u1 b
  have d0 := @fpD_u0 b
  rw [fp0] at d0
  rw [fpRu] at d1 d0
  have cE := c_EncP (readK (fpu0 b).1).1 (fpu1 b).1.1 (fpu1 b).1.2.1 (fpu1 b).1.2.2 (fpu2 b).1 (fpu3 b).1 (fpu5 b).1 rfl (by omega) (readK_bounds _)
  clear g1 g2 g3 g4 g5 g6
  generalize fpD b = D at *
  generalize fpN ⟨(readK (fpu0 b).1).1, (fpu1 b).1.1, (fpu1 b).1.2.1, (fpu1 b).1.2.2, (fpu2 b).1, (fpu3 b).1, (fpu5 b).1⟩ = E at *
  generalize fpp6 b = P6 at *
  generalize fpp5 b = P5 at *
  generalize fpp4 b = P4 at *
  generalize fpp3 b = P3 at *
  generalize fpp2 b = P2 at *
  generalize fpp1 b = P1 at *
  generalize fpu5 b = U5 at *
  generalize fpu4 b = U4 at *
  generalize fpu3 b = U3 at *
  generalize fpu2 b = U2 at *
  generalize fpu1 b = U1 at *
  generalize fpu0 b = U0 at *
  generalize readK U0.1 = Q0 at *
  refine Fn_intro (G := g26) (goodA rfl) (fn := Try.f26) rfl rfl rfl rfl rfl ?_
  (repeat' ((conv => whnf) <;> first | exact rfl | with_reducible refine boolK_dec (fun _ => ?_) (fun _ => ?_) <;> try (exfalso; omega) | refine boolK_beq (fun _ => ?_) (fun _ => ?_) <;> try (exfalso; first | omega | with_reducible contradiction) | refine boolK_bne (fun _ => ?_) (fun _ => ?_) <;> try (exfalso; first | omega | with_reducible contradiction) | (with_reducible first | refine boolK_not ?_ | refine boolK_and ?_ | refine boolK_or ?_ | refine boolK_true ?_ | refine boolK_false ?_) | refine boolK_intro (fun _ => ?_) (fun _ => ?_) <;> try (exfalso; simp_all; done) | with_reducible refine natK_lit ?_ | refine natK_of rfl ?_ | refine natK_any ?_ | refine jP ?_ | refine jQ ?_ | refine jR ?_ | refine jS ?_ | refine jT ?_ | refine jU (fun _ => ?_) | refine jV ?_ | refine jW ?_ | refine jX ?_ | refine jY ?_ | refine jZ ?_ | refine ja ?_ | refine jb ?_ | refine jc ?_ | refine jd ?_ | refine je ?_ | refine jf ?_ | refine jg ?_ | refine jh ?_ | refine ji ?_ | refine jj ?_ | refine jk ?_ | refine jn ?_ | refine jo ?_ | refine jp ?_ | refine jq ?_ | refine jr ?_ | refine js ?_ | refine callK_intro (c0) ?_ | refine callK_intro (c1) ?_ | refine callK_intro (c2) ?_ | refine callK_intro (c3) ?_ | refine callK_intro (c4) ?_ | refine callK_intro (c5) ?_ | refine callK_intro (cE) ?_ | refine callK_intro (c_Equal _ _ rfl hm) ?_ | refine jt ?_ | refine jx ?_ | refine jy ?_ | refine ju ?_ | refine sideK_intro (by first | (rw [d0 (.inl (by assumption))] <;> first | rfl | exact ⟨rfl, rfl⟩ | exact ⟨rfl, rfl, rfl⟩) | (rw [d0 (.inr (.inl (by assumption)))] <;> first | rfl | exact ⟨rfl, rfl⟩ | exact ⟨rfl, rfl, rfl⟩) | (rw [d0 (.inr (.inr (by assumption)))] <;> first | rfl | exact ⟨rfl, rfl⟩ | exact ⟨rfl, rfl, rfl⟩) | (rw [d1 (by assumption) (by assumption)] <;> first | rfl | exact ⟨rfl, rfl⟩ | exact ⟨rfl, rfl, rfl⟩)) ?_ | refine jv ?_)) <;> (try (conv => whnf))
end Go.Sx

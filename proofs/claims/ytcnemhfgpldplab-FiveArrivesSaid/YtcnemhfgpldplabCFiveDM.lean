/-
  Contracts of a decoder of package five and of its reference.
-/
import Derived.Test.YtcnemhfgpldplabCFiveE
set_option linter.all false
namespace Go.Sx
open Go.Proofs Go.RowKit
noncomputable def g24 : Par := par 47 (nthLL [[0, 2], [0, 2, 5], [0, 2, 5, 17], [2, 3], [0, 2, 6], [0, 2, 6, 7], [0, 2, 6, 7], [0, 2, 6, 7], [0, 2, 6, 7], [0, 2, 7, 30], [2, 3], [0, 2, 7, 8, 9], [2, 7, 44], [2, 3], [2, 3]]) [2, 3, 5] (nthLL [])
set_option maxRecDepth 10000
set_option maxHeartbeats 4000000
theorem c_DecM (b : List UInt8) {m : Nat} (hm : m = b.length) (hb : b.length ≤ 90000) : Fn Try.prog 24 [.o (.sl (b.map u8) m)] [] (.tup [.c (.a [.i .i64 (fmD b).1.op, .s (fmD b).1.n1, .s (fmD b).1.n2, .s (fmD b).1.n3, .sl ((fmD b).1.bx.map u8) (fmD b).1.bx.length]), .c (.o (.i .i64 (fmD b).2))]) [] := by
  obtain ⟨g1, g2, g3, g4⟩ := fmp_bounds b
  have c0 : Fn Try.prog 49 [.o (.p 1000 0)] [(1000, .st [.sl (b.map u8) m, .i .i64 2, .b false])] (.one (.c (.o (.i .i64 (fmu0 b).1)))) [(1000, .st [.sl (b.map u8) m, .i .i64 (fmp1 b).1, .b (fmp1 b).2])] := c_fOct b hm (by omega) ((2, false) : Int × Bool) (by first | omega | decide)
  have c1 : Fn Try.prog 28 [.o (.p 1000 0)] [(1000, .st [.sl (b.map u8) m, .i .i64 (fmp1 b).1, .b (fmp1 b).2])] (.one (.c (.a [.s (fmu1 b).1.1, .s (fmu1 b).1.2.1, .s (fmu1 b).1.2.2]))) [(1000, .st [.sl (b.map u8) m, .i .i64 (fmp2 b).1, .b (fmp2 b).2])] := c_fPrin b hm (by omega) (fmp1 b) (by first | omega | decide)
  have l1 : (fmu1 b).1.1.length ≤ 40 ∧ (fmu1 b).1.2.1.length ≤ 40 ∧ (fmu1 b).1.2.2.length ≤ 40 := prin_len b (fmp1 b).1
  have c2 : Fn Try.prog 51 [.o (.p 1000 0)] [(1000, .st [.sl (b.map u8) m, .i .i64 (fmp2 b).1, .b (fmp2 b).2])] (.one (.c (.o (.i .i64 (fmu2 b).1)))) [(1000, .st [.sl (b.map u8) m, .i .i64 (fmp3 b).1, .b (fmp3 b).2])] := c_fSh b hm (by omega) (fmp2 b) (by first | omega | decide)
  have c3 : Fn Try.prog 50 [.o (.p 1000 0), .o (.i .i64 (fmu2 b).1)] [(1000, .st [.sl (b.map u8) m, .i .i64 (fmp3 b).1, .b (fmp3 b).2])] (.one (.fr ((fmu3 b).1.map u8) (fmu3 b).1.length 1)) [(1000, .st [.sl (b.map u8) m, .i .i64 (fmp4 b).1, .b (fmp4 b).2])] := c_fBytes b hm (by omega) (fmp3 b) (by first | omega | decide) (fmu2 b).1
  have l3 : (fmu3 b).1.length ≤ b.length := bytesS_le b (fmp3 b).1 (fmu2 b).1
  have cI := c_is b hm [10] rfl (by decide)
  have dh := @fmD_head b
  rw [fm0] at dh
  have d1 := @fmD_u1 b
  have d0 := @fmD_u0 b
  rw [fm0] at d0
  rw [fmRu] at d1 d0
  have cE := c_EncM (fmu0 b).1 (fmu1 b).1.1 (fmu1 b).1.2.1 (fmu1 b).1.2.2 (fmu3 b).1 rfl (by omega)
  clear g1 g2 g3 g4
  generalize fmD b = D at *
  generalize fmN ⟨(fmu0 b).1, (fmu1 b).1.1, (fmu1 b).1.2.1, (fmu1 b).1.2.2, (fmu3 b).1⟩ = E at *
  generalize isS b [10] = I at *
  generalize fmp4 b = P4 at *
  generalize fmp3 b = P3 at *
  generalize fmp2 b = P2 at *
  generalize fmp1 b = P1 at *
  generalize fmu3 b = U3 at *
  generalize fmu2 b = U2 at *
  generalize fmu1 b = U1 at *
  generalize fmu0 b = U0 at *
  refine Fn_intro (G := g24) (goodA rfl) (fn := Try.f24) rfl rfl rfl rfl rfl ?_
  (repeat' ((conv => whnf) <;> first | exact rfl | with_reducible refine boolK_dec (fun _ => ?_) (fun _ => ?_) <;> try (exfalso; omega) | refine boolK_beq (fun _ => ?_) (fun _ => ?_) <;> try (exfalso; first | omega | with_reducible contradiction) | refine boolK_bne (fun _ => ?_) (fun _ => ?_) <;> try (exfalso; first | omega | with_reducible contradiction) | (with_reducible first | refine boolK_not ?_ | refine boolK_and ?_ | refine boolK_or ?_ | refine boolK_true ?_ | refine boolK_false ?_) | refine boolK_intro (fun _ => ?_) (fun _ => ?_) <;> try (exfalso; simp_all; done) | with_reducible refine natK_lit ?_ | refine natK_of rfl ?_ | refine natK_any ?_ | refine jP ?_ | refine jQ ?_ | refine jR ?_ | refine jS ?_ | refine jT ?_ | refine jU (fun _ => ?_) | refine jV ?_ | refine jW ?_ | refine jX ?_ | refine jY ?_ | refine jZ ?_ | refine ja ?_ | refine jb ?_ | refine jc ?_ | refine jd ?_ | refine je ?_ | refine jf ?_ | refine jg ?_ | refine jh ?_ | refine ji ?_ | refine jj ?_ | refine jk ?_ | refine jn ?_ | refine jo ?_ | refine jp ?_ | refine jq ?_ | refine jr ?_ | refine js ?_ | refine callK_intro (cI) ?_ | refine callK_intro (c0) ?_ | refine callK_intro (c1) ?_ | refine callK_intro (c2) ?_ | refine callK_intro (c3) ?_ | refine callK_intro (cE) ?_ | refine callK_intro (c_Equal _ _ rfl hm) ?_ | refine jt ?_ | refine jx ?_ | refine jy ?_ | refine ju ?_ | refine sideK_intro (by first | (rw [dh (by assumption)] <;> first | rfl | exact ⟨rfl, rfl⟩ | exact ⟨rfl, rfl, rfl⟩) | (rw [d0 (by assumption) (.inl (by assumption))] <;> first | rfl | exact ⟨rfl, rfl⟩ | exact ⟨rfl, rfl, rfl⟩) | (rw [d0 (by assumption) (.inr (.inl (by assumption)))] <;> first | rfl | exact ⟨rfl, rfl⟩ | exact ⟨rfl, rfl, rfl⟩) | (rw [d0 (by assumption) (.inr (.inr (by assumption)))] <;> first | rfl | exact ⟨rfl, rfl⟩ | exact ⟨rfl, rfl, rfl⟩) | (rw [d1 (by assumption) (by assumption) (by assumption)] <;> first | rfl | exact ⟨rfl, rfl⟩ | exact ⟨rfl, rfl, rfl⟩)) ?_ | refine jv ?_)) <;> (try (conv => whnf))
end Go.Sx

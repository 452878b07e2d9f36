/-
  Contracts of a decoder of package five and of its reference.
-/
import Derived.Test.YtmacgikbcednmacGreatCFiveE
set_option linter.all false
namespace Go.Sx
open Go.Proofs Go.RowKit
noncomputable def g64 : Par := par 39 (nthLL [[0, 2], [0, 2, 4], [0, 2, 4, 5], [0, 2, 4, 5], [0, 2, 4, 5], [0, 2, 4, 5], [0, 2, 4, 5], [0, 2, 5, 22], [2, 3], [0, 2, 5, 6, 7], [2, 5, 36], [2, 3], [2, 3]]) [2, 3] (nthLL [])
noncomputable def g35 : Par := par 55 (nthLL [[0, 2], [0, 2, 4], [0, 2, 4, 5], [0, 2, 4, 5], [0, 2, 4, 5], [0, 2, 4, 5], [0, 2, 4, 5], [0, 2, 4, 5], [0, 2, 4, 5, 6, 7], [2, 5, 52], [2, 3], [2, 3]]) [2, 3] (nthLL [])
set_option maxRecDepth 10000
set_option maxHeartbeats 4000000
theorem c_DecR (b : List UInt8) {m : Nat} (hm : m = b.length) (hb : b.length ≤ 90000) : Fn Tryz.prog 64 [.o (.sl (b.map u8) m)] [] (.tup [.c (.a [.s (frD b).1.c1, .s (frD b).1.c2, .s (frD b).1.c3, .s (frD b).1.s1, .s (frD b).1.s2, .s (frD b).1.s3, .i .u64 (frD b).1.k, .i .i64 (frD b).1.st, .i .i64 (frD b).1.en, .i .i64 (frD b).1.ad]), .c (.o (.i .i64 (frD b).2))]) [] := by
  obtain ⟨g1, g2, g3, g4, g5, g6⟩ := frp_bounds b
  have c0 : Fn Tryz.prog 103 [.o (.p 1000 0)] [(1000, .st [.sl (b.map u8) m, .i .i64 0, .b false])] (.one (.c (.a [.s (fru0 b).1.1, .s (fru0 b).1.2.1, .s (fru0 b).1.2.2]))) [(1000, .st [.sl (b.map u8) m, .i .i64 (frp1 b).1, .b (frp1 b).2])] := c_fPrin b hm (by omega) ((0, false) : Int × Bool) (by first | omega | decide)
  have l0 : (fru0 b).1.1.length ≤ 40 ∧ (fru0 b).1.2.1.length ≤ 40 ∧ (fru0 b).1.2.2.length ≤ 40 := prin_len b 0
  have c1 : Fn Tryz.prog 103 [.o (.p 1000 0)] [(1000, .st [.sl (b.map u8) m, .i .i64 (frp1 b).1, .b (frp1 b).2])] (.one (.c (.a [.s (fru1 b).1.1, .s (fru1 b).1.2.1, .s (fru1 b).1.2.2]))) [(1000, .st [.sl (b.map u8) m, .i .i64 (frp2 b).1, .b (frp2 b).2])] := c_fPrin b hm (by omega) (frp1 b) (by first | omega | decide)
  have l1 : (fru1 b).1.1.length ≤ 40 ∧ (fru1 b).1.2.1.length ≤ 40 ∧ (fru1 b).1.2.2.length ≤ 40 := prin_len b (frp1 b).1
  have c2 : Fn Tryz.prog 109 [.o (.p 1000 0)] [(1000, .st [.sl (b.map u8) m, .i .i64 (frp2 b).1, .b (frp2 b).2])] (.one (.c (.o (.i .u64 (readK (fru2 b).1).1)))) [(1000, .st [.sl (b.map u8) m, .i .i64 (frp3 b).1, .b (frp3 b).2])] := c_fKey b hm (by omega) (frp2 b) (by first | omega | decide)
  have c3 : Fn Tryz.prog 110 [.o (.p 1000 0)] [(1000, .st [.sl (b.map u8) m, .i .i64 (frp3 b).1, .b (frp3 b).2])] (.one (.c (.o (.i .i64 (fru3 b).1)))) [(1000, .st [.sl (b.map u8) m, .i .i64 (frp4 b).1, .b (frp4 b).2])] := c_fNum b hm (by omega) (frp3 b) (by first | omega | decide)
  have c4 : Fn Tryz.prog 110 [.o (.p 1000 0)] [(1000, .st [.sl (b.map u8) m, .i .i64 (frp4 b).1, .b (frp4 b).2])] (.one (.c (.o (.i .i64 (fru4 b).1)))) [(1000, .st [.sl (b.map u8) m, .i .i64 (frp5 b).1, .b (frp5 b).2])] := c_fNum b hm (by omega) (frp4 b) (by first | omega | decide)
  have c5 : Fn Tryz.prog 110 [.o (.p 1000 0)] [(1000, .st [.sl (b.map u8) m, .i .i64 (frp5 b).1, .b (frp5 b).2])] (.one (.c (.o (.i .i64 (fru5 b).1)))) [(1000, .st [.sl (b.map u8) m, .i .i64 (frp6 b).1, .b (frp6 b).2])] := c_fNum b hm (by omega) (frp5 b) (by first | omega | decide)
  have d1 := @frD_u1 b
  have d0 := @frD_u0 b
  rw [fr0] at d0
  rw [frRu] at d1 d0
  have cE := c_EncR (fru0 b).1.1 (fru0 b).1.2.1 (fru0 b).1.2.2 (fru1 b).1.1 (fru1 b).1.2.1 (fru1 b).1.2.2 (readK (fru2 b).1).1 (fru3 b).1 (fru4 b).1 (fru5 b).1 (by omega) (readK_bounds _)
  clear g1 g2 g3 g4 g5 g6
  generalize frD b = D at *
  generalize frN ⟨(fru0 b).1.1, (fru0 b).1.2.1, (fru0 b).1.2.2, (fru1 b).1.1, (fru1 b).1.2.1, (fru1 b).1.2.2, (readK (fru2 b).1).1, (fru3 b).1, (fru4 b).1, (fru5 b).1⟩ = E at *
  generalize frp6 b = P6 at *
  generalize frp5 b = P5 at *
  generalize frp4 b = P4 at *
  generalize frp3 b = P3 at *
  generalize frp2 b = P2 at *
  generalize frp1 b = P1 at *
  generalize fru5 b = U5 at *
  generalize fru4 b = U4 at *
  generalize fru3 b = U3 at *
  generalize fru2 b = U2 at *
  generalize fru1 b = U1 at *
  generalize fru0 b = U0 at *
  generalize readK U2.1 = Q2 at *
  refine Fn_intro (G := g64) (goodA rfl) (fn := Tryz.f64) rfl rfl rfl rfl rfl ?_
  (repeat' ((conv => whnf) <;> first | exact rfl | with_reducible refine boolK_dec (fun _ => ?_) (fun _ => ?_) <;> try (exfalso; omega) | refine boolK_beq (fun _ => ?_) (fun _ => ?_) <;> try (exfalso; first | omega | with_reducible contradiction) | refine boolK_bne (fun _ => ?_) (fun _ => ?_) <;> try (exfalso; first | omega | with_reducible contradiction) | (with_reducible first | refine boolK_not ?_ | refine boolK_and ?_ | refine boolK_or ?_ | refine boolK_true ?_ | refine boolK_false ?_) | refine boolK_intro (fun _ => ?_) (fun _ => ?_) <;> try (exfalso; simp_all; done) | with_reducible refine natK_lit ?_ | refine natK_of rfl ?_ | refine natK_any ?_ | refine callK_intro (c0) ?_ | refine callK_intro (c1) ?_ | refine callK_intro (c2) ?_ | refine callK_intro (c3) ?_ | refine callK_intro (c4) ?_ | refine callK_intro (c5) ?_ | refine callK_intro (cE) ?_ | refine callK_intro (c_Equal _ _ rfl hm) ?_ | refine jy ?_ | refine ju ?_ | refine sideK_intro (by first | (rw [d0 (.inl (by assumption))] <;> first | rfl | exact ⟨rfl, rfl⟩ | exact ⟨rfl, rfl, rfl⟩) | (rw [d0 (.inr (.inl (by assumption)))] <;> first | rfl | exact ⟨rfl, rfl⟩ | exact ⟨rfl, rfl, rfl⟩) | (rw [d0 (.inr (.inr (by assumption)))] <;> first | rfl | exact ⟨rfl, rfl⟩ | exact ⟨rfl, rfl, rfl⟩) | (rw [d1 (by assumption) (by assumption)] <;> first | rfl | exact ⟨rfl, rfl⟩ | exact ⟨rfl, rfl, rfl⟩)) ?_ | refine jv ?_)) <;> (try (conv => whnf))
theorem c_rDecR (b : List UInt8) {m : Nat} (hm : m = b.length) (hb : b.length ≤ 90000) : Fn Tryz.prog 35 [.o (.sl (b.map u8) m)] [] (.tup [.c (.a [.s (frD b).1.c1, .s (frD b).1.c2, .s (frD b).1.c3, .s (frD b).1.s1, .s (frD b).1.s2, .s (frD b).1.s3, .i .u64 (frD b).1.k, .i .i64 (frD b).1.st, .i .i64 (frD b).1.en, .i .i64 (frD b).1.ad]), .c (.o (.i .i64 (frD b).2))]) [] := by
  obtain ⟨g1, g2, g3, g4, g5, g6⟩ := frs_bounds  b
  have r0 : Fn Tryz.prog 72 [.o (.p 1000 0)] [(1000, .st [.sl (b.map u8) m, .i .i64 0, .b false, .b false])] (.one (.c (.a [.s (frw0 b).1.1, .s (frw0 b).1.2.1, .s (frw0 b).1.2.2]))) [(1000, .st [.sl (b.map u8) m, .i .i64 (frs1 b).1, .b false, .b (frs1 b).2])] := c_rdPrincipal b hm (by omega) 0 (by omega) false false (frs0_1  b).1 (frs0_2  b).1 rfl rfl
  have t0_0 : (frw0 b).1.1.length ≤ 40 := text_len b 0
  have t0_1 : (frw0 b).1.2.1.length ≤ 40 := text_len b (frs0_1  b).1
  have t0_2 : (frw0 b).1.2.2.length ≤ 40 := text_len b (frs0_2  b).1
  have r1 : Fn Tryz.prog 72 [.o (.p 1000 0)] [(1000, .st [.sl (b.map u8) m, .i .i64 (frs1 b).1, .b false, .b (frs1 b).2])] (.one (.c (.a [.s (frw1 b).1.1, .s (frw1 b).1.2.1, .s (frw1 b).1.2.2]))) [(1000, .st [.sl (b.map u8) m, .i .i64 (frs2 b).1, .b false, .b (frs2 b).2])] := c_rdPrincipal b hm (by omega) (frs1 b).1 (by omega) false (frs1 b).2 (frs1_1  b).1 (frs1_2  b).1 rfl rfl
  have t1_0 : (frw1 b).1.1.length ≤ 40 := text_len b (frs1 b).1
  have t1_1 : (frw1 b).1.2.1.length ≤ 40 := text_len b (frs1_1  b).1
  have t1_2 : (frw1 b).1.2.2.length ≤ 40 := text_len b (frs1_2  b).1
  have r2 : Fn Tryz.prog 74 [.o (.p 1000 0), .o (.i .i64 8)] [(1000, .st [.sl (b.map u8) m, .i .i64 (frs2 b).1, .b false, .b (frs2 b).2])] (.one (.fr ((frw2 b).1.map u8) (frw2 b).1.length 1)) [(1000, .st [.sl (b.map u8) m, .i .i64 (frs3 b).1, .b false, .b (frs3 b).2])] := c_rdBytes b hm (by omega) (frs2 b).1 8 (by omega) false (frs2 b).2
  have t2 := bytesS_le b (frs2 b).1 8
  rw [show bytesS b (frs2 b).1 8 = frw2 b from rfl] at t2
  have r3 : Fn Tryz.prog 78 [.o (.p 1000 0)] [(1000, .st [.sl (b.map u8) m, .i .i64 (frs3 b).1, .b false, .b (frs3 b).2])] (.one (.c (.o (.i .i64 (frw3 b).1)))) [(1000, .st [.sl (b.map u8) m, .i .i64 (frs4 b).1, .b false, .b (frs4 b).2])] := c_rdNumber b hm (by omega) (frs3 b).1 (by omega) false (frs3 b).2
  have r4 : Fn Tryz.prog 78 [.o (.p 1000 0)] [(1000, .st [.sl (b.map u8) m, .i .i64 (frs4 b).1, .b false, .b (frs4 b).2])] (.one (.c (.o (.i .i64 (frw4 b).1)))) [(1000, .st [.sl (b.map u8) m, .i .i64 (frs5 b).1, .b false, .b (frs5 b).2])] := c_rdNumber b hm (by omega) (frs4 b).1 (by omega) false (frs4 b).2
  have r5 : Fn Tryz.prog 78 [.o (.p 1000 0)] [(1000, .st [.sl (b.map u8) m, .i .i64 (frs5 b).1, .b false, .b (frs5 b).2])] (.one (.c (.o (.i .i64 (frw5 b).1)))) [(1000, .st [.sl (b.map u8) m, .i .i64 (frs6 b).1, .b false, .b (frs6 b).2])] := c_rdNumber b hm (by omega) (frs5 b).1 (by omega) false (frs5 b).2
  have rk2 := c_rkeyRead (frw2 b).1 rfl (by omega)
  have d1 := @frD_w1 b
  have d0 := @frD_w0 b
  rw [fr0] at d0
  rw [frRw] at d1 d0
  have cE := c_rEncR (frw0 b).1.1 (frw0 b).1.2.1 (frw0 b).1.2.2 (frw1 b).1.1 (frw1 b).1.2.1 (frw1 b).1.2.2 (readK (frw2 b).1).1 (frw3 b).1 (frw4 b).1 (frw5 b).1 (by omega) (readK_bounds _)
  clear g1 g2 g3 g4 g5 g6
  generalize frD b = D at *
  generalize frN ⟨(frw0 b).1.1, (frw0 b).1.2.1, (frw0 b).1.2.2, (frw1 b).1.1, (frw1 b).1.2.1, (frw1 b).1.2.2, (readK (frw2 b).1).1, (frw3 b).1, (frw4 b).1, (frw5 b).1⟩ = E at *
  generalize frs6 b = S6 at *
  generalize frs5 b = S5 at *
  generalize frs4 b = S4 at *
  generalize frs3 b = S3 at *
  generalize frs2 b = S2 at *
  generalize frs1 b = S1 at *
  generalize frw5 b = W5 at *
  generalize frw4 b = W4 at *
  generalize frw3 b = W3 at *
  generalize frw2 b = W2 at *
  generalize frw1 b = W1 at *
  generalize frw0 b = W0 at *
  generalize readK W2.1 = Q2 at *
  refine Fn_intro (G := g35) (goodA rfl) (fn := Tryz.f35) rfl rfl rfl rfl rfl ?_
  (repeat' ((conv => whnf) <;> first | exact rfl | with_reducible refine boolK_dec (fun _ => ?_) (fun _ => ?_) <;> try (exfalso; omega) | refine boolK_beq (fun _ => ?_) (fun _ => ?_) <;> try (exfalso; first | omega | with_reducible contradiction) | refine boolK_bne (fun _ => ?_) (fun _ => ?_) <;> try (exfalso; first | omega | with_reducible contradiction) | (with_reducible first | refine boolK_not ?_ | refine boolK_and ?_ | refine boolK_or ?_ | refine boolK_true ?_ | refine boolK_false ?_) | refine boolK_intro (fun _ => ?_) (fun _ => ?_) <;> try (exfalso; simp_all; done) | refine jC ?_ | refine jD ?_ | refine jE ?_ | refine jF ?_ | refine jG ?_ | with_reducible refine natK_lit ?_ | refine natK_of rfl ?_ | refine natK_any ?_ | refine jW ?_ | refine callK_intro (r0) ?_ | refine callK_intro (r1) ?_ | refine callK_intro (r2) ?_ | refine callK_intro (r3) ?_ | refine callK_intro (r4) ?_ | refine callK_intro (r5) ?_ | refine callK_intro (rk2) ?_ | refine callK_intro (cE) ?_ | refine jy ?_ | refine ju ?_ | refine sideK_intro (by first | (rw [d0 (.inl (by assumption))] <;> first | rfl | exact ⟨rfl, rfl⟩ | exact ⟨rfl, rfl, rfl⟩) | (rw [d0 (.inr (.inl (by assumption)))] <;> first | rfl | exact ⟨rfl, rfl⟩ | exact ⟨rfl, rfl, rfl⟩) | (rw [d0 (.inr (.inr (by assumption)))] <;> first | rfl | exact ⟨rfl, rfl⟩ | exact ⟨rfl, rfl, rfl⟩) | (rw [d1 (by assumption) (by assumption)] <;> first | rfl | exact ⟨rfl, rfl⟩ | exact ⟨rfl, rfl, rfl⟩)) ?_ | refine jv ?_)) <;> (try (conv => whnf))
end Go.Sx

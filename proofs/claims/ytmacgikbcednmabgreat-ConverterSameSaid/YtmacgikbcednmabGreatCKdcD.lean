/-
  Contracts of the decoders of parts of replies, of package kdcmessage and of its reference.
-/
import Derived.Test.YtmacgikbcednmabGreatCKdc
set_option linter.all false
namespace Go.Sx
open Go.Proofs Go.RowKit
noncomputable def g11 : Par := par 66 (nthLL [[0, 1, 4], [0, 1, 4, 6], [0, 1, 4, 6], [0, 1, 4, 6, 7], [0, 1, 4, 6, 7], [0, 1, 4, 6, 7], [0, 1, 4, 6, 7], [0, 1, 4, 6, 7], [0, 1, 4, 6, 7, 8], [0, 1, 4, 6, 7], [0, 1, 4, 6, 7], [0, 4, 6, 7, 9, 10], [4, 7, 63], [4, 5], [4, 5]]) [4, 5] (nthLL [])
set_option maxRecDepth 10000
set_option maxHeartbeats 4000000
theorem c_rDecK (b : List UInt8) {m : Nat} (hm : m = b.length) (hb : b.length ≤ 90000) (l : Bool) : Fn Tryz.prog 11 [.o (.sl (b.map u8) m), .o (.b l)] [] (.tup [.c (.a [.i .u64 (kpD l b).1.k, .s (kpD l b).1.s1, .s (kpD l b).1.s2, .s (kpD l b).1.s3, .i .i64 (kpD l b).1.lf, .i .i64 (kpD l b).1.kv, .sl ((kpD l b).1.tk.map u8) (kpD l b).1.tk.length, .i .i64 (kpD l b).1.tm]), .c (.o (.i .i64 (kpD l b).2))]) [] := by
  have g0 : 0 ≤ (oct0S b).1 ∧ (oct0S b).1 ≤ max (0 : Int) (b.length : Int) := mvS_bounds ⟨by decide, by show (0 : Int) ≤ _; omega⟩ (get_next _ _ _ _)
  have r' : Fn Tryz.prog 27 [.o (.p 1000 0)] [(1000, .st [.sl (b.map u8) m, .i .i64 0, .b l, .b false])] (.one (.c (.o (.i .i64 (getS false 1 b 0).1)))) [(1000, .st [.sl (b.map u8) m, .i .i64 (oct0S b).1, .b l, .b (oct0S b).2])] := c_rdOctet b hm (by omega) 0 (by omega) l false
  obtain ⟨g1, g2, g3, g4, g5, g6, g7⟩ := kps_bounds l b g0
  have r0 : Fn Tryz.prog 30 [.o (.p 1000 0), .o (.i .i64 8)] [(1000, .st [.sl (b.map u8) m, .i .i64 (oct0S b).1, .b l, .b (oct0S b).2])] (.one (.fr ((kpw0 l b).1.map u8) (kpw0 l b).1.length 1)) [(1000, .st [.sl (b.map u8) m, .i .i64 (kps1 l b).1, .b l, .b (kps1 l b).2])] := c_rdBytes b hm (by omega) (oct0S b).1 8 (by omega) l (oct0S b).2
  have t0 := bytesS_le b (oct0S b).1 8
  rw [show bytesS b (oct0S b).1 8 = kpw0 l b from rfl] at t0
  have r1 : Fn Tryz.prog 28 [.o (.p 1000 0)] [(1000, .st [.sl (b.map u8) m, .i .i64 (kps1 l b).1, .b l, .b (kps1 l b).2])] (.one (.c (.a [.s (kpw1 l b).1.1, .s (kpw1 l b).1.2.1, .s (kpw1 l b).1.2.2]))) [(1000, .st [.sl (b.map u8) m, .i .i64 (kps2 l b).1, .b l, .b (kps2 l b).2])] := c_rdPrincipal b hm (by omega) (kps1 l b).1 (by omega) l (kps1 l b).2 (kps1_1 l b).1 (kps1_2 l b).1 rfl rfl
  have t1_0 : (kpw1 l b).1.1.length ≤ 40 := text_len b (kps1 l b).1
  have t1_1 : (kpw1 l b).1.2.1.length ≤ 40 := text_len b (kps1_1 l b).1
  have t1_2 : (kpw1 l b).1.2.2.length ≤ 40 := text_len b (kps1_2 l b).1
  have r2 : Fn Tryz.prog 27 [.o (.p 1000 0)] [(1000, .st [.sl (b.map u8) m, .i .i64 (kps2 l b).1, .b l, .b (kps2 l b).2])] (.one (.c (.o (.i .i64 (kpw2 l b).1)))) [(1000, .st [.sl (b.map u8) m, .i .i64 (kps3 l b).1, .b l, .b (kps3 l b).2])] := c_rdOctet b hm (by omega) (kps2 l b).1 (by omega) l (kps2 l b).2
  have r3 : Fn Tryz.prog 27 [.o (.p 1000 0)] [(1000, .st [.sl (b.map u8) m, .i .i64 (kps3 l b).1, .b l, .b (kps3 l b).2])] (.one (.c (.o (.i .i64 (kpw3 l b).1)))) [(1000, .st [.sl (b.map u8) m, .i .i64 (kps4 l b).1, .b l, .b (kps4 l b).2])] := c_rdOctet b hm (by omega) (kps3 l b).1 (by omega) l (kps3 l b).2
  have r4 : Fn Tryz.prog 27 [.o (.p 1000 0)] [(1000, .st [.sl (b.map u8) m, .i .i64 (kps4 l b).1, .b l, .b (kps4 l b).2])] (.one (.c (.o (.i .i64 (kpw4 l b).1)))) [(1000, .st [.sl (b.map u8) m, .i .i64 (kps5 l b).1, .b l, .b (kps5 l b).2])] := c_rdOctet b hm (by omega) (kps4 l b).1 (by omega) l (kps4 l b).2
  have r5 : Fn Tryz.prog 30 [.o (.p 1000 0), .o (.i .i64 (kpw4 l b).1)] [(1000, .st [.sl (b.map u8) m, .i .i64 (kps5 l b).1, .b l, .b (kps5 l b).2])] (.one (.fr ((kpw5 l b).1.map u8) (kpw5 l b).1.length 1)) [(1000, .st [.sl (b.map u8) m, .i .i64 (kps6 l b).1, .b l, .b (kps6 l b).2])] := c_rdBytes b hm (by omega) (kps5 l b).1 (kpw4 l b).1 (by omega) l (kps5 l b).2
  have t5 := bytesS_le b (kps5 l b).1 (kpw4 l b).1
  rw [show bytesS b (kps5 l b).1 (kpw4 l b).1 = kpw5 l b from rfl] at t5
  have r6 : Fn Tryz.prog 33 [.o (.p 1000 0)] [(1000, .st [.sl (b.map u8) m, .i .i64 (kps6 l b).1, .b l, .b (kps6 l b).2])] (.one (.c (.o (.i .i64 (kpw6 l b).1)))) [(1000, .st [.sl (b.map u8) m, .i .i64 (kps7 l b).1, .b l, .b (kps7 l b).2])] := c_rdNumber b hm (by omega) (kps6 l b).1 (by omega) l (kps6 l b).2
  have rk := c_rkeyRead (kpw0 l b).1 rfl (by omega)
  have dr := @kpD_ref l b
  have db := @kpD_bad l b
  rw [kp0] at db
  rw [kpRw] at dr db
  have cE := c_rEncK l (readK (kpw0 l b).1).1 (kpw1 l b).1.1 (kpw1 l b).1.2.1 (kpw1 l b).1.2.2 (kpw2 l b).1 (kpw3 l b).1 (kpw5 l b).1 (kpw6 l b).1 rfl (by omega) (readK_bounds _)
  clear g0 g1 g2 g3 g4 g5 g6 g7
  generalize kpD l b = R at *
  generalize kpN l ⟨(readK (kpw0 l b).1).1, (kpw1 l b).1.1, (kpw1 l b).1.2.1, (kpw1 l b).1.2.2, (kpw2 l b).1, (kpw3 l b).1, (kpw5 l b).1, (kpw6 l b).1⟩ = E at *
  generalize kpw6 l b = W6 at *
  generalize kpw5 l b = W5 at *
  generalize kpw4 l b = W4 at *
  generalize kpw3 l b = W3 at *
  generalize kpw2 l b = W2 at *
  generalize kpw1 l b = W1 at *
  generalize kpw0 l b = W0 at *
  generalize kps7 l b = S7 at *
  generalize kps6 l b = S6 at *
  generalize kps5 l b = S5 at *
  generalize kps4 l b = S4 at *
  generalize kps3 l b = S3 at *
  generalize kps2 l b = S2 at *
  generalize kps1 l b = S1 at *
  generalize oct0S b = S0 at *
  generalize getS false 1 b 0 = Z0 at *
  generalize readK W0.1 = Q at *
  refine Fn_intro (G := g11) (goodA rfl) (fn := Tryz.f11) rfl rfl rfl rfl rfl ?_
  (repeat' ((conv => whnf) <;> first | exact rfl | with_reducible refine boolK_dec (fun _ => ?_) (fun _ => ?_) <;> try (exfalso; omega) | refine boolK_beq (fun _ => ?_) (fun _ => ?_) <;> try (exfalso; first | omega | with_reducible contradiction) | refine boolK_bne (fun _ => ?_) (fun _ => ?_) <;> try (exfalso; first | omega | with_reducible contradiction) | (with_reducible first | refine boolK_not ?_ | refine boolK_and ?_ | refine boolK_or ?_ | refine boolK_true ?_ | refine boolK_false ?_) | refine boolK_intro (fun _ => ?_) (fun _ => ?_) <;> try (exfalso; simp_all; done) | refine jC ?_ | refine jD ?_ | refine jE ?_ | refine jF ?_ | refine jG ?_ | with_reducible refine natK_lit ?_ | refine natK_of rfl ?_ | refine natK_any ?_ | refine jW ?_ | refine callK_intro (r') ?_ | refine callK_intro (r0) ?_ | refine callK_intro (r1) ?_ | refine callK_intro (r2) ?_ | refine callK_intro (r3) ?_ | refine callK_intro (r4) ?_ | refine callK_intro (r5) ?_ | refine callK_intro (r6) ?_ | refine callK_intro (rk) ?_ | refine callK_intro (cE) ?_ | refine jy ?_ | refine ju ?_ | refine sideK_intro (by first | (rw [db (.inl (by assumption))] <;> first | rfl | exact ⟨rfl, rfl⟩ | exact ⟨rfl, rfl, rfl⟩) | (rw [db (.inr (.inl (by assumption)))] <;> first | rfl | exact ⟨rfl, rfl⟩ | exact ⟨rfl, rfl, rfl⟩) | (rw [db (.inr (.inr (by assumption)))] <;> first | rfl | exact ⟨rfl, rfl⟩ | exact ⟨rfl, rfl, rfl⟩) | (rw [dr (by assumption) (by assumption)] <;> first | rfl | exact ⟨rfl, rfl⟩ | exact ⟨rfl, rfl, rfl⟩)) ?_ | refine jv ?_)) <;> (try (conv => whnf))
end Go.Sx

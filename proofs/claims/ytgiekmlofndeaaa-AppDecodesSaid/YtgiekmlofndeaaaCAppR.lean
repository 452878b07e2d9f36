/-
  Contracts of the document's decoders of messages of applications.
-/
import Derived.Test.YtgiekmlofndeaaaCAppD
set_option linter.all false
namespace Go.Sx
open Go.Proofs Go.RowKit
noncomputable def g70 : Par := par 39 (nthLL [[0, 1, 2, 6], [1, 2, 6, 8], [6, 8, 9], [6, 8, 9], [6, 8, 9], [6, 8, 9, 10], [6, 8, 9, 10, 11], [6, 8, 9, 11], [6, 8, 9], [6, 7]]) [6, 7, 8] (nthLL [])
noncomputable def g25 : Par := par 58 (nthLL [[0, 2], [0, 2, 4, 5], [0, 2, 4, 5, 19], [2, 3], [0, 2, 4, 6], [0, 2, 9, 10], [0, 2, 5, 9, 10, 11], [2, 9, 55], [2, 3], [2, 3]]) [2, 3, 5] (nthLL [])
noncomputable def g28 : Par := par 62 (nthLL [[0, 2], [0, 2, 4, 5], [0, 2, 4, 5, 17], [2, 3], [0, 2, 6, 7], [0, 2, 7, 8], [0, 2, 7, 8], [0, 2, 7, 8], [0, 2, 7, 8], [0, 2, 7, 8], [0, 2, 5, 7, 8, 9], [2, 8, 59], [2, 3], [2, 3]]) [2, 3, 5] (nthLL [])
noncomputable def g31 : Par := par 48 (nthLL [[0, 1, 4], [0, 1, 4, 6], [0, 1, 4, 6], [0, 1, 4, 6, 7], [0, 1, 4, 6, 7], [0, 1, 4, 6, 7], [0, 4, 6, 7, 8, 9], [4, 7, 45], [4, 5], [4, 5]]) [4, 5] (nthLL [])
noncomputable def g33 : Par := par 49 (nthLL [[0], [0, 3, 4], [0, 3, 4, 15], [2, 3, 4], [0, 3, 5], [0, 3, 5, 6], [0, 2, 3, 5], [0, 2, 3, 4, 5, 7], [2, 3, 46], [2, 3, 4], [2, 3, 4]]) [2, 3, 4] (nthLL [])
set_option maxRecDepth 10000
set_option maxHeartbeats 4000000
theorem c_front (b : List UInt8) {m : Nat} (hm : m = b.length) (hb : b.length ≤ 90000) (l mu : Bool) : Fn Try.prog 70 [.o (.sl (b.map u8) m), .o (.b l), .o (.b mu)] [] (.tup [.c (.a [.b l, .b mu, .i .i64 (apw0 b).1, .s (apw1 b).1, .sl ((apw4 b).1.map u8) (apw4 b).1.length, .sl ((apw5 b).1.map u8) (apw5 b).1.length]), .pt [.sl (b.map u8) m, .i .i64 (aps6 b).1, .b l, .b (aps6 b).2]]) [] := by
  obtain ⟨g1, g2, g3, g4, g5, g6⟩ := aps_bounds  b
  have r0 : Fn Try.prog 76 [.o (.p 1000 0)] [(1000, .st [.sl (b.map u8) m, .i .i64 2, .b l, .b false])] (.one (.c (.o (.i .i64 (apw0  b).1)))) [(1000, .st [.sl (b.map u8) m, .i .i64 (aps1  b).1, .b l, .b (aps1  b).2])] := c_rdOctet b hm (by omega) 2 (by omega) l false
  have r1 : Fn Try.prog 77 [.o (.p 1000 0)] [(1000, .st [.sl (b.map u8) m, .i .i64 (aps1  b).1, .b l, .b (aps1  b).2])] (.one (.c (.o (.s (apw1  b).1)))) [(1000, .st [.sl (b.map u8) m, .i .i64 (aps2  b).1, .b l, .b (aps2  b).2])] := c_rdText b hm (by omega) (aps1  b).1 (by omega) l (aps1  b).2
  have t1 := text_len b (aps1  b).1
  rw [show textS b (aps1  b).1 = apw1  b from rfl] at t1
  have r2 : Fn Try.prog 76 [.o (.p 1000 0)] [(1000, .st [.sl (b.map u8) m, .i .i64 (aps2  b).1, .b l, .b (aps2  b).2])] (.one (.c (.o (.i .i64 (apw2  b).1)))) [(1000, .st [.sl (b.map u8) m, .i .i64 (aps3  b).1, .b l, .b (aps3  b).2])] := c_rdOctet b hm (by omega) (aps2  b).1 (by omega) l (aps2  b).2
  have r3 : Fn Try.prog 76 [.o (.p 1000 0)] [(1000, .st [.sl (b.map u8) m, .i .i64 (aps3  b).1, .b l, .b (aps3  b).2])] (.one (.c (.o (.i .i64 (apw3  b).1)))) [(1000, .st [.sl (b.map u8) m, .i .i64 (aps4  b).1, .b l, .b (aps4  b).2])] := c_rdOctet b hm (by omega) (aps3  b).1 (by omega) l (aps3  b).2
  have r4 : Fn Try.prog 82 [.o (.p 1000 0), .o (.i .i64 (apw2  b).1)] [(1000, .st [.sl (b.map u8) m, .i .i64 (aps4  b).1, .b l, .b (aps4  b).2])] (.one (.fr ((apw4  b).1.map u8) (apw4  b).1.length 1)) [(1000, .st [.sl (b.map u8) m, .i .i64 (aps5  b).1, .b l, .b (aps5  b).2])] := c_rdBytes b hm (by omega) (aps4  b).1 (apw2  b).1 (by omega) l (aps4  b).2
  have t4 := bytesS_le b (aps4  b).1 (apw2  b).1
  rw [show bytesS b (aps4  b).1 (apw2  b).1 = apw4  b from rfl] at t4
  have r5 : Fn Try.prog 82 [.o (.p 1000 0), .o (.i .i64 (apw3  b).1)] [(1000, .st [.sl (b.map u8) m, .i .i64 (aps5  b).1, .b l, .b (aps5  b).2])] (.one (.fr ((apw5  b).1.map u8) (apw5  b).1.length 1)) [(1000, .st [.sl (b.map u8) m, .i .i64 (aps6  b).1, .b l, .b (aps6  b).2])] := c_rdBytes b hm (by omega) (aps5  b).1 (apw3  b).1 (by omega) l (aps5  b).2
  have t5 := bytesS_le b (aps5  b).1 (apw3  b).1
  rw [show bytesS b (aps5  b).1 (apw3  b).1 = apw5  b from rfl] at t5
  clear g1 g2 g3 g4 g5 g6
  generalize apw5  b = W5 at *
  generalize apw4  b = W4 at *
  generalize apw3  b = W3 at *
  generalize apw2  b = W2 at *
  generalize apw1  b = W1 at *
  generalize apw0  b = W0 at *
  generalize aps6  b = S6 at *
  generalize aps5  b = S5 at *
  generalize aps4  b = S4 at *
  generalize aps3  b = S3 at *
  generalize aps2  b = S2 at *
  generalize aps1  b = S1 at *
  refine Fn_intro (G := g70) (goodA rfl) (fn := Try.f70) rfl rfl rfl rfl rfl ?_
  (repeat' ((conv => whnf) <;> first | exact rfl | with_reducible refine boolK_dec (fun _ => ?_) (fun _ => ?_) <;> try (exfalso; omega) | refine boolK_beq (fun _ => ?_) (fun _ => ?_) <;> try (exfalso; first | omega | contradiction) | refine boolK_bne (fun _ => ?_) (fun _ => ?_) <;> try (exfalso; first | omega | contradiction) | (with_reducible first | refine boolK_not ?_ | refine boolK_and ?_ | refine boolK_or ?_ | refine boolK_true ?_ | refine boolK_false ?_) | refine boolK_intro (fun _ => ?_) (fun _ => ?_) <;> try (exfalso; simp_all; done) | with_reducible refine natK_lit ?_ | refine natK_of rfl ?_ | refine natK_any ?_ | refine jP ?_ | refine jQ ?_ | refine jR ?_ | refine jS ?_ | refine jT ?_ | refine jU (fun _ => ?_) | refine jV ?_ | refine jW ?_ | refine jX ?_ | refine jY ?_ | refine jZ ?_ | refine ja ?_ | refine jb ?_ | refine jc ?_ | refine jd ?_ | refine je ?_ | refine jf ?_ | refine jg ?_ | refine jh ?_ | refine ji ?_ | refine jj ?_ | refine jk ?_ | refine jn ?_ | refine jo ?_ | refine jp ?_ | refine jq ?_ | refine jr ?_ | refine js ?_ | refine callK_intro (r0) ?_ | refine callK_intro (r1) ?_ | refine callK_intro (r2) ?_ | refine callK_intro (r3) ?_ | refine callK_intro (r4) ?_ | refine callK_intro (r5) ?_ | refine jt ?_ | refine jx ?_ | refine jy ?_ | refine ju ?_ | refine sideK_intro (by first | (exact ⟨rfl, rfl, rfl⟩)) ?_ | refine jv ?_)) <;> (try (conv => whnf))
theorem apw_len (b : List UInt8) : (apw1 b).1.length ≤ 40 ∧ (apw4 b).1.length ≤ b.length ∧ (apw5 b).1.length ≤ b.length := ⟨text_len _ _, bytesS_le _ _ _, bytesS_le _ _ _⟩
theorem c_rDecodeAp (b : List UInt8) {m : Nat} (hm : m = b.length) (hb : b.length ≤ 90000) : Fn Try.prog 25 [.o (.sl (b.map u8) m)] [] (.tup [.c (.a [.b (apD b).1.1, .b (apD b).1.2.1, .i .i64 (apD b).1.2.2.1, .s (apD b).1.2.2.2.1, .sl ((apD b).1.2.2.2.2.1.map u8) (apD b).1.2.2.2.2.1.length, .sl ((apD b).1.2.2.2.2.2.map u8) (apD b).1.2.2.2.2.2.length]), .c (.o (.i .i64 (apD b).2))]) [] := by
  have cI := c_ris b hm [3, 4] rfl (by decide)
  have cR := c_rread b hm
  have cF := c_front b hm hb (isS b [3, 4]).1 ((readS b).1 == 4)
  obtain ⟨l1, l2, l3⟩ := apw_len b
  have dh := @apD_head b
  have dr := @apD_ref b
  have db := @apD_bad b
  rw [ap0] at dh db
  rw [apRw] at dr db
  have cE := c_rEncodeAp (isS b [3, 4]).1 ((readS b).1 == 4) (apw0 b).1 (apw1 b).1 (apw4 b).1 (apw5 b).1 (by omega) (by omega) (by omega)
  generalize apD b = R at *
  generalize apN ((isS b [3, 4]).1, (readS b).1 == 4, (apw0 b).1, (apw1 b).1, (apw4 b).1, (apw5 b).1) = E at *
  generalize isS b [3, 4] = I at *
  generalize readS b = Q at *
  generalize aps6 b = S at *
  generalize apw0 b = W0 at *
  generalize apw1 b = W1 at *
  generalize apw4 b = W4 at *
  generalize apw5 b = W5 at *
  refine Fn_intro (G := g25) (goodA rfl) (fn := Try.f25) rfl rfl rfl rfl rfl ?_
  (repeat' ((conv => whnf) <;> first | exact rfl | with_reducible refine boolK_dec (fun _ => ?_) (fun _ => ?_) <;> try (exfalso; omega) | refine boolK_beq (fun _ => ?_) (fun _ => ?_) <;> try (exfalso; first | omega | contradiction) | refine boolK_bne (fun _ => ?_) (fun _ => ?_) <;> try (exfalso; first | omega | contradiction) | (with_reducible first | refine boolK_not ?_ | refine boolK_and ?_ | refine boolK_or ?_ | refine boolK_true ?_ | refine boolK_false ?_) | refine boolK_intro (fun _ => ?_) (fun _ => ?_) <;> try (exfalso; simp_all; done) | refine jC ?_ | refine jD ?_ | refine jE ?_ | refine jF ?_ | refine jG ?_ | with_reducible refine natK_lit ?_ | refine natK_of rfl ?_ | refine natK_any ?_ | refine jP ?_ | refine jQ ?_ | refine jR ?_ | refine jS ?_ | refine jT ?_ | refine jU (fun _ => ?_) | refine jV ?_ | refine jW ?_ | refine jX ?_ | refine jY ?_ | refine jZ ?_ | refine ja ?_ | refine jb ?_ | refine jc ?_ | refine jd ?_ | refine je ?_ | refine jf ?_ | refine jg ?_ | refine jh ?_ | refine ji ?_ | refine jj ?_ | refine jk ?_ | refine jn ?_ | refine jo ?_ | refine jp ?_ | refine jq ?_ | refine jr ?_ | refine js ?_ | refine callK_intro (cI) ?_ | refine callK_intro (cR) ?_ | refine callK_intro (cF) ?_ | refine callK_intro (cE) ?_ | refine jt ?_ | refine jx ?_ | refine jy ?_ | refine ju ?_ | refine sideK_intro (by first | (rw [dh (by assumption)] <;> first | rfl | exact ⟨rfl, rfl⟩ | exact ⟨rfl, rfl, rfl⟩) | (rw [db (by assumption) (.inl (by assumption))] <;> first | rfl | exact ⟨rfl, rfl⟩ | exact ⟨rfl, rfl, rfl⟩) | (rw [db (by assumption) (.inr (.inl (by assumption)))] <;> first | rfl | exact ⟨rfl, rfl⟩ | exact ⟨rfl, rfl, rfl⟩) | (rw [db (by assumption) (.inr (.inr (by assumption)))] <;> first | rfl | exact ⟨rfl, rfl⟩ | exact ⟨rfl, rfl, rfl⟩) | (rw [dr (by assumption) (by assumption) (by assumption)] <;> first | rfl | exact ⟨rfl, rfl⟩ | exact ⟨rfl, rfl, rfl⟩)) ?_ | refine jv ?_)) <;> (try (conv => whnf))
theorem c_rDecodeTgs (b : List UInt8) {m : Nat} (hm : m = b.length) (hb : b.length ≤ 90000) : Fn Try.prog 28 [.o (.sl (b.map u8) m)] [] (.tup [.c (.a [.b (tgD b).1.1.1, .b (tgD b).1.1.2.1, .i .i64 (tgD b).1.1.2.2.1, .s (tgD b).1.1.2.2.2.1, .sl ((tgD b).1.1.2.2.2.2.1.map u8) (tgD b).1.1.2.2.2.2.1.length, .sl ((tgD b).1.1.2.2.2.2.2.map u8) (tgD b).1.1.2.2.2.2.2.length, .i .i64 (tgD b).1.2.1, .i .i64 (tgD b).1.2.2.1, .s (tgD b).1.2.2.2.1, .s (tgD b).1.2.2.2.2]), .c (.o (.i .i64 (tgD b).2))]) [] := by
  have cI := c_ris b hm [3] rfl (by decide)
  have cF := c_front b hm hb (isS b [3]).1 false
  obtain ⟨l1, l2, l3⟩ := apw_len b
  have dh := @tgD_head b
  have dr := @tgD_ref b
  have db := @tgD_bad b
  rw [tg0, ap0] at dh db
  rw [tgRw, tgAw] at dr db
  generalize hI : isS b [3] = I at *
  obtain ⟨_, _, _, _, _, g0⟩ := aps_bounds b
  obtain ⟨l, e⟩ := I
  dsimp only at cI cF dh dr db
  obtain ⟨g1, g2, g3, g4⟩ := tgs_bounds l b g0
  have r0 : Fn Try.prog 75 [.o (.p 1000 0)] [(1000, .st [.sl (b.map u8) m, .i .i64 (aps6 b).1, .b l, .b (aps6 b).2])] (.one (.c (.o (.i .i64 (tgw0 l b).1)))) [(1000, .st [.sl (b.map u8) m, .i .i64 (tgs1 l b).1, .b l, .b (tgs1 l b).2])] := c_rdNumber b hm (by omega) (aps6 b).1 (by omega) l (aps6 b).2
  have r1 : Fn Try.prog 76 [.o (.p 1000 0)] [(1000, .st [.sl (b.map u8) m, .i .i64 (tgs1 l b).1, .b l, .b (tgs1 l b).2])] (.one (.c (.o (.i .i64 (tgw1 l b).1)))) [(1000, .st [.sl (b.map u8) m, .i .i64 (tgs2 l b).1, .b l, .b (tgs2 l b).2])] := c_rdOctet b hm (by omega) (tgs1 l b).1 (by omega) l (tgs1 l b).2
  have r2 : Fn Try.prog 77 [.o (.p 1000 0)] [(1000, .st [.sl (b.map u8) m, .i .i64 (tgs2 l b).1, .b l, .b (tgs2 l b).2])] (.one (.c (.o (.s (tgw2 l b).1)))) [(1000, .st [.sl (b.map u8) m, .i .i64 (tgs3 l b).1, .b l, .b (tgs3 l b).2])] := c_rdText b hm (by omega) (tgs2 l b).1 (by omega) l (tgs2 l b).2
  have t2 := text_len b (tgs2 l b).1
  rw [show textS b (tgs2 l b).1 = tgw2 l b from rfl] at t2
  have r3 : Fn Try.prog 77 [.o (.p 1000 0)] [(1000, .st [.sl (b.map u8) m, .i .i64 (tgs3 l b).1, .b l, .b (tgs3 l b).2])] (.one (.c (.o (.s (tgw3 l b).1)))) [(1000, .st [.sl (b.map u8) m, .i .i64 (tgs4 l b).1, .b l, .b (tgs4 l b).2])] := c_rdText b hm (by omega) (tgs3 l b).1 (by omega) l (tgs3 l b).2
  have t3 := text_len b (tgs3 l b).1
  rw [show textS b (tgs3 l b).1 = tgw3 l b from rfl] at t3
  have cE := c_rEncodeTgs l false (apw0 b).1 (tgw0 l b).1 (tgw1 l b).1 (apw1 b).1 (apw4 b).1 (apw5 b).1 (tgw2 l b).1 (tgw3 l b).1 (by omega) (by omega) (by omega) (by omega) (by omega)
  clear g0 g1 g2 g3 g4
  generalize tgD b = R at *
  generalize tgN ((l, false, (apw0 b).1, (apw1 b).1, (apw4 b).1, (apw5 b).1), (tgw0 l b).1, (tgw1 l b).1, (tgw2 l b).1, (tgw3 l b).1) = E at *
  generalize tgw3 l b = W3 at *
  generalize tgw2 l b = W2 at *
  generalize tgw1 l b = W1 at *
  generalize tgw0 l b = W0 at *
  generalize tgs4 l b = S4 at *
  generalize tgs3 l b = S3 at *
  generalize tgs2 l b = S2 at *
  generalize tgs1 l b = S1 at *
  generalize aps6 b = S0 at *
  generalize apw0 b = A0 at *
  generalize apw1 b = A1 at *
  generalize apw4 b = A4 at *
  generalize apw5 b = A5 at *
  refine Fn_intro (G := g28) (goodA rfl) (fn := Try.f28) rfl rfl rfl rfl rfl ?_
  (repeat' ((conv => whnf) <;> first | exact rfl | with_reducible refine boolK_dec (fun _ => ?_) (fun _ => ?_) <;> try (exfalso; omega) | refine boolK_beq (fun _ => ?_) (fun _ => ?_) <;> try (exfalso; first | omega | contradiction) | refine boolK_bne (fun _ => ?_) (fun _ => ?_) <;> try (exfalso; first | omega | contradiction) | (with_reducible first | refine boolK_not ?_ | refine boolK_and ?_ | refine boolK_or ?_ | refine boolK_true ?_ | refine boolK_false ?_) | refine boolK_intro (fun _ => ?_) (fun _ => ?_) <;> try (exfalso; simp_all; done) | refine jC ?_ | refine jD ?_ | refine jE ?_ | refine jF ?_ | refine jG ?_ | with_reducible refine natK_lit ?_ | refine natK_of rfl ?_ | refine natK_any ?_ | refine jP ?_ | refine jQ ?_ | refine jR ?_ | refine jS ?_ | refine jT ?_ | refine jU (fun _ => ?_) | refine jV ?_ | refine jW ?_ | refine jX ?_ | refine jY ?_ | refine jZ ?_ | refine ja ?_ | refine jb ?_ | refine jc ?_ | refine jd ?_ | refine je ?_ | refine jf ?_ | refine jg ?_ | refine jh ?_ | refine ji ?_ | refine jj ?_ | refine jk ?_ | refine jn ?_ | refine jo ?_ | refine jp ?_ | refine jq ?_ | refine jr ?_ | refine js ?_ | refine callK_intro (cI) ?_ | refine callK_intro (cF) ?_ | refine callK_intro (r0) ?_ | refine callK_intro (r1) ?_ | refine callK_intro (r2) ?_ | refine callK_intro (r3) ?_ | refine callK_intro (cE) ?_ | refine jt ?_ | refine jx ?_ | refine jy ?_ | refine ju ?_ | refine sideK_intro (by first | (rw [dh (by assumption)] <;> first | rfl | exact ⟨rfl, rfl⟩ | exact ⟨rfl, rfl, rfl⟩) | (rw [db (by assumption) (.inl (by assumption))] <;> first | rfl | exact ⟨rfl, rfl⟩ | exact ⟨rfl, rfl, rfl⟩) | (rw [db (by assumption) (.inr (.inl (by assumption)))] <;> first | rfl | exact ⟨rfl, rfl⟩ | exact ⟨rfl, rfl, rfl⟩) | (rw [db (by assumption) (.inr (.inr (by assumption)))] <;> first | rfl | exact ⟨rfl, rfl⟩ | exact ⟨rfl, rfl, rfl⟩) | (rw [dr (by assumption) (by assumption) (by assumption)] <;> first | rfl | exact ⟨rfl, rfl⟩ | exact ⟨rfl, rfl, rfl⟩)) ?_ | refine jv ?_)) <;> (try (conv => whnf))
theorem c_rDecodeMutual (b : List UInt8) {m : Nat} (hm : m = b.length) (hb : b.length ≤ 90000) (l : Bool) : Fn Try.prog 31 [.o (.sl (b.map u8) m), .o (.b l)] [] (.tup [.c (.a [.i .i64 (mtD l b).1.1, .i .i64 (mtD l b).1.2.1, .i .i64 (mtD l b).1.2.2]), .c (.o (.i .i64 (mtD l b).2))]) [] := by
  have g0 := oct0S_bounds b
  have r' : Fn Try.prog 76 [.o (.p 1000 0)] [(1000, .st [.sl (b.map u8) m, .i .i64 0, .b l, .b false])] (.one (.c (.o (.i .i64 (getS false 1 b 0).1)))) [(1000, .st [.sl (b.map u8) m, .i .i64 (oct0S b).1, .b l, .b (oct0S b).2])] := c_rdOctet b hm (by omega) 0 (by omega) l false
  obtain ⟨g1, g2, g3⟩ := mts_bounds l b g0
  have r0 : Fn Try.prog 75 [.o (.p 1000 0)] [(1000, .st [.sl (b.map u8) m, .i .i64 (oct0S b).1, .b l, .b (oct0S b).2])] (.one (.c (.o (.i .i64 (mtw0 l b).1)))) [(1000, .st [.sl (b.map u8) m, .i .i64 (mts1 l b).1, .b l, .b (mts1 l b).2])] := c_rdNumber b hm (by omega) (oct0S b).1 (by omega) l (oct0S b).2
  have r1 : Fn Try.prog 76 [.o (.p 1000 0)] [(1000, .st [.sl (b.map u8) m, .i .i64 (mts1 l b).1, .b l, .b (mts1 l b).2])] (.one (.c (.o (.i .i64 (mtw1 l b).1)))) [(1000, .st [.sl (b.map u8) m, .i .i64 (mts2 l b).1, .b l, .b (mts2 l b).2])] := c_rdOctet b hm (by omega) (mts1 l b).1 (by omega) l (mts1 l b).2
  have r2 : Fn Try.prog 75 [.o (.p 1000 0)] [(1000, .st [.sl (b.map u8) m, .i .i64 (mts2 l b).1, .b l, .b (mts2 l b).2])] (.one (.c (.o (.i .i64 (mtw2 l b).1)))) [(1000, .st [.sl (b.map u8) m, .i .i64 (mts3 l b).1, .b l, .b (mts3 l b).2])] := c_rdNumber b hm (by omega) (mts2 l b).1 (by omega) l (mts2 l b).2
  have dr := @mtD_ref l b
  have db := @mtD_bad l b
  rw [mt0] at db
  rw [mtRw] at dr db
  have cE := c_rEncodeMutual l (mtw0 l b).1 (mtw1 l b).1 (mtw2 l b).1
  clear g0 g1 g2 g3
  generalize mtD l b = R at *
  generalize mtN l ((mtw0 l b).1, (mtw1 l b).1, (mtw2 l b).1) = E at *
  generalize mtw2 l b = W2 at *
  generalize mtw1 l b = W1 at *
  generalize mtw0 l b = W0 at *
  generalize mts3 l b = S3 at *
  generalize mts2 l b = S2 at *
  generalize mts1 l b = S1 at *
  generalize oct0S b = S0 at *
  generalize getS false 1 b 0 = Z0 at *
  refine Fn_intro (G := g31) (goodA rfl) (fn := Try.f31) rfl rfl rfl rfl rfl ?_
  (repeat' ((conv => whnf) <;> first | exact rfl | with_reducible refine boolK_dec (fun _ => ?_) (fun _ => ?_) <;> try (exfalso; omega) | refine boolK_beq (fun _ => ?_) (fun _ => ?_) <;> try (exfalso; first | omega | contradiction) | refine boolK_bne (fun _ => ?_) (fun _ => ?_) <;> try (exfalso; first | omega | contradiction) | (with_reducible first | refine boolK_not ?_ | refine boolK_and ?_ | refine boolK_or ?_ | refine boolK_true ?_ | refine boolK_false ?_) | refine boolK_intro (fun _ => ?_) (fun _ => ?_) <;> try (exfalso; simp_all; done) | refine jC ?_ | refine jD ?_ | refine jE ?_ | refine jF ?_ | refine jG ?_ | with_reducible refine natK_lit ?_ | refine natK_of rfl ?_ | refine natK_any ?_ | refine jP ?_ | refine jQ ?_ | refine jR ?_ | refine jS ?_ | refine jT ?_ | refine jU (fun _ => ?_) | refine jV ?_ | refine jW ?_ | refine jX ?_ | refine jY ?_ | refine jZ ?_ | refine ja ?_ | refine jb ?_ | refine jc ?_ | refine jd ?_ | refine je ?_ | refine jf ?_ | refine jg ?_ | refine jh ?_ | refine ji ?_ | refine jj ?_ | refine jk ?_ | refine jn ?_ | refine jo ?_ | refine jp ?_ | refine jq ?_ | refine jr ?_ | refine js ?_ | refine callK_intro (r') ?_ | refine callK_intro (r0) ?_ | refine callK_intro (r1) ?_ | refine callK_intro (r2) ?_ | refine callK_intro (cE) ?_ | refine jt ?_ | refine jx ?_ | refine jy ?_ | refine ju ?_ | refine sideK_intro (by first | (rw [db (.inl (by assumption))] <;> first | rfl | exact ⟨rfl, rfl⟩ | exact ⟨rfl, rfl, rfl⟩) | (rw [db (.inr (.inl (by assumption)))] <;> first | rfl | exact ⟨rfl, rfl⟩ | exact ⟨rfl, rfl, rfl⟩) | (rw [db (.inr (.inr (by assumption)))] <;> first | rfl | exact ⟨rfl, rfl⟩ | exact ⟨rfl, rfl, rfl⟩) | (rw [dr (by assumption) (by assumption)] <;> first | rfl | exact ⟨rfl, rfl⟩ | exact ⟨rfl, rfl, rfl⟩)) ?_ | refine jv ?_)) <;> (try (conv => whnf))
theorem c_rDecodeAnswer (b : List UInt8) {m : Nat} (hm : m = b.length) (hb : b.length ≤ 90000) : Fn Try.prog 33 [.o (.sl (b.map u8) m)] [] (.tup [.c (.o (.sl ((anD b).1.1.map u8) (anD b).1.1.length)), .c (.o (.b (anD b).1.2)), .c (.o (.i .i64 (anD b).2))]) [] := by
  have cI := c_ris b hm [8] rfl (by decide)
  have dh := @anD_head b
  have dr := @anD_ref b
  have db := @anD_bad b
  rw [an0] at dh db
  rw [anRw] at dr db
  generalize hI : isS b [8] = I at *
  obtain ⟨l, e⟩ := I
  dsimp only at cI dh dr db
  obtain ⟨g1, g2⟩ := ans_bounds l b
  have r0 : Fn Try.prog 81 [.o (.p 1000 0)] [(1000, .st [.sl (b.map u8) m, .i .i64 2, .b l, .b false])] (.one (.c (.o (.i .i64 (anw0 l b).1)))) [(1000, .st [.sl (b.map u8) m, .i .i64 (ans1 l b).1, .b l, .b (ans1 l b).2])] := c_rdShort b hm (by omega) 2 (by omega) l false
  have r1 : Fn Try.prog 82 [.o (.p 1000 0), .o (.i .i64 (anw0 l b).1)] [(1000, .st [.sl (b.map u8) m, .i .i64 (ans1 l b).1, .b l, .b (ans1 l b).2])] (.one (.fr ((anw1 l b).1.map u8) (anw1 l b).1.length 1)) [(1000, .st [.sl (b.map u8) m, .i .i64 (ans2 l b).1, .b l, .b (ans2 l b).2])] := c_rdBytes b hm (by omega) (ans1 l b).1 (anw0 l b).1 (by omega) l (ans1 l b).2
  have t1 := bytesS_le b (ans1 l b).1 (anw0 l b).1
  rw [show bytesS b (ans1 l b).1 (anw0 l b).1 = anw1 l b from rfl] at t1
  have cE := c_rEncodeAnswer (anw1 l b).1 rfl (by omega) l
  clear g1 g2
  generalize anD b = R at *
  generalize anN ((anw1 l b).1, l) = E at *
  generalize anw1 l b = W1 at *
  generalize anw0 l b = W0 at *
  generalize ans2 l b = S2 at *
  generalize ans1 l b = S1 at *
  refine Fn_intro (G := g33) (goodA rfl) (fn := Try.f33) rfl rfl rfl rfl rfl ?_
  (repeat' ((conv => whnf) <;> first | exact rfl | with_reducible refine boolK_dec (fun _ => ?_) (fun _ => ?_) <;> try (exfalso; omega) | refine boolK_beq (fun _ => ?_) (fun _ => ?_) <;> try (exfalso; first | omega | contradiction) | refine boolK_bne (fun _ => ?_) (fun _ => ?_) <;> try (exfalso; first | omega | contradiction) | (with_reducible first | refine boolK_not ?_ | refine boolK_and ?_ | refine boolK_or ?_ | refine boolK_true ?_ | refine boolK_false ?_) | refine boolK_intro (fun _ => ?_) (fun _ => ?_) <;> try (exfalso; simp_all; done) | refine jC ?_ | refine jD ?_ | refine jE ?_ | refine jF ?_ | refine jG ?_ | with_reducible refine natK_lit ?_ | refine natK_of rfl ?_ | refine natK_any ?_ | refine jP ?_ | refine jQ ?_ | refine jR ?_ | refine jS ?_ | refine jT ?_ | refine jU (fun _ => ?_) | refine jV ?_ | refine jW ?_ | refine jX ?_ | refine jY ?_ | refine jZ ?_ | refine ja ?_ | refine jb ?_ | refine jc ?_ | refine jd ?_ | refine je ?_ | refine jf ?_ | refine jg ?_ | refine jh ?_ | refine ji ?_ | refine jj ?_ | refine jk ?_ | refine jn ?_ | refine jo ?_ | refine jp ?_ | refine jq ?_ | refine jr ?_ | refine js ?_ | refine callK_intro (cI) ?_ | refine callK_intro (r0) ?_ | refine callK_intro (r1) ?_ | refine callK_intro (cE) ?_ | refine jt ?_ | refine jx ?_ | refine jy ?_ | refine ju ?_ | refine sideK_intro (by first | (rw [dh (by assumption)] <;> first | rfl | exact ⟨rfl, rfl⟩ | exact ⟨rfl, rfl, rfl⟩) | (rw [db (by assumption) (.inl (by assumption))] <;> first | rfl | exact ⟨rfl, rfl⟩ | exact ⟨rfl, rfl, rfl⟩) | (rw [db (by assumption) (.inr (.inl (by assumption)))] <;> first | rfl | exact ⟨rfl, rfl⟩ | exact ⟨rfl, rfl, rfl⟩) | (rw [db (by assumption) (.inr (.inr (by assumption)))] <;> first | rfl | exact ⟨rfl, rfl⟩ | exact ⟨rfl, rfl, rfl⟩) | (rw [dr (by assumption) (by assumption) (by assumption)] <;> first | rfl | exact ⟨rfl, rfl⟩ | exact ⟨rfl, rfl, rfl⟩)) ?_ | refine jv ?_)) <;> (try (conv => whnf))
end Go.Sx

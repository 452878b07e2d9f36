/-
  Contracts of the functions that take messages apart, make them and open them.
-/
import Derived.Test.YtkphcbogdmblnaaCProt
set_option linter.all false
namespace Go.Sx
open Go.Proofs Go.RowKit
noncomputable def g62 : Par := par 41 (nthLL [[0, 1, 2, 3], [0, 1, 2, 11, 12], [0, 1, 11, 28], [8, 9, 10], [1, 12, 13], [8, 9, 10]]) [1, 8, 9, 10, 13] (nthLL [])
noncomputable def g41 : Par := par 55 (nthLL [[0, 3, 4], [0, 3, 4, 5, 6], [0, 3, 4, 5, 6, 16], [2, 3, 4, 5, 6], [0, 2, 3, 4, 5], [0, 2, 3, 4, 5, 7, 8], [0, 2, 3, 4, 5, 7, 8, 25], [0, 2, 3, 4, 5, 7, 8], [0, 2, 3, 4, 5, 7, 8, 34], [0, 2, 3, 4, 5, 7, 8], [2, 3, 4, 5, 50], [2, 3, 4, 5, 6], [2, 3, 4, 5, 6]]) [2, 3, 4, 5, 6] (nthLL [])
noncomputable def g27 : Par := par 23 (nthLL [[0], [7, 8, 9, 10], [2, 3, 4, 5]]) [2, 3, 4, 5, 7, 8, 9, 10] (nthLL [])
noncomputable def g30 : Par := par 69 (nthLL [[0, 2], [0, 2, 4, 5], [0, 2, 4, 5, 19], [2, 3, 4, 5], [0, 2, 4, 6], [0, 2, 4, 6, 9], [0, 2, 4, 9, 32], [0, 4, 9, 10], [0, 2, 4, 9], [0, 2, 4, 9, 11], [0, 2, 3, 4, 9], [2, 3, 4, 65], [2, 3, 4, 5], [2, 3, 4, 5]]) [2, 3, 4, 5] (nthLL [])
set_option maxRecDepth 10000
set_option maxHeartbeats 4000000
theorem c_next (b : List UInt8) {m : Nat} (hm : m = b.length) (hb : b.length ≤ 90000) (k most : Int) (hk : 0 ≤ k ∧ k ≤ 100000) (l : Bool) : Fn Try.prog 62 [.o (.sl (b.map u8) m), .o (.i .i64 k), .o (.i .i64 most), .o (.b l)] [] (.tup [.fr ((nextS l b k most).1.map u8) (nextS l b k most).1.length 1, .c (.o (.i .i64 (nextS l b k most).2.1)), .c (.o (.b (nextS l b k most).2.2))]) [] := by
  have c1 := c_Short b hm (by omega) k (by omega) l
  have n1 := get_next l 2 b k
  have e1 := @nextS_1 l b k most
  have e2 := @nextS_2 l b k most
  have e3 := @nextS_3 l b k most
  have c2 := c_Bytes b hm (by omega) (getS l 2 b k).2.1 (getS l 2 b k).1 (by omega)
  generalize nextS l b k most = R at *
  generalize bytesS b (getS l 2 b k).2.1 (getS l 2 b k).1 = Q at *
  generalize getS l 2 b k = G at *
  refine Fn_intro (G := g62) (goodA rfl) (fn := Try.f62) rfl rfl rfl rfl rfl ?_
  (repeat' ((conv => whnf) <;> first | exact rfl | with_reducible refine boolK_dec (fun _ => ?_) (fun _ => ?_) <;> try (exfalso; omega) | refine boolK_beq (fun _ => ?_) (fun _ => ?_) <;> try (exfalso; first | omega | contradiction) | refine boolK_bne (fun _ => ?_) (fun _ => ?_) <;> try (exfalso; first | omega | contradiction) | (with_reducible first | refine boolK_not ?_ | refine boolK_and ?_ | refine boolK_or ?_ | refine boolK_true ?_ | refine boolK_false ?_) | refine boolK_intro (fun _ => ?_) (fun _ => ?_) <;> try (exfalso; simp_all; done) | with_reducible refine natK_lit ?_ | refine natK_of rfl ?_ | refine natK_any ?_ | refine jP ?_ | refine jQ ?_ | refine jR ?_ | refine jS ?_ | refine jT ?_ | refine jU (fun _ => ?_) | refine jV ?_ | refine jW ?_ | refine jX ?_ | refine jY ?_ | refine jZ ?_ | refine ja ?_ | refine jb ?_ | refine jc ?_ | refine jd ?_ | refine je ?_ | refine jf ?_ | refine jg ?_ | refine jh ?_ | refine ji ?_ | refine jj ?_ | refine jk ?_ | refine jn ?_ | refine jo ?_ | refine jp ?_ | refine jq ?_ | refine jr ?_ | refine js ?_ | refine callK_intro (c1) ?_ | refine callK_intro (c2) ?_ | refine jt ?_ | refine jx ?_ | refine jy ?_ | refine ju ?_ | refine sideK_intro (by first | (rw [e1 (by assumption)] <;> first | rfl | exact ⟨rfl, rfl⟩ | exact ⟨rfl, rfl, rfl⟩) | (rw [e2 (by assumption)] <;> first | rfl | exact ⟨rfl, rfl⟩ | exact ⟨rfl, rfl, rfl⟩) | (rw [e3 (by assumption) (by assumption)] <;> first | rfl | exact ⟨rfl, rfl⟩ | exact ⟨rfl, rfl, rfl⟩)) ?_ | refine jv ?_)) <;> (try (conv => whnf))
theorem c_parts (b : List UInt8) {m : Nat} (hm : m = b.length) (hb : b.length ≤ 90000) : Fn Try.prog 41 [.o (.sl (b.map u8) m)] [] (.tup [.c (.o (.i .i64 (partsS b).1)), .c (.o (.sl ((partsS b).2.1.map u8) (partsS b).2.1.length)), .c (.o (.sl ((partsS b).2.2.1.map u8) (partsS b).2.2.1.length)), .c (.o (.b (partsS b).2.2.2.1)), .c (.o (.i .i64 (partsS b).2.2.2.2))]) [] := by
  subst hm
  have cI := c_is b rfl [6, 7] rfl (by decide)
  have cR := c_read b rfl
  have ee := @partsS_e b
  have e6 := @partsS_6 b
  have e7 := @partsS_7 b
  have ek := @is67 b
  generalize partsS b = R at *
  generalize hI : isS b [6, 7] = I at *
  generalize readS b = Q at *
  refine Fn_intro (G := g41) (goodA rfl) (fn := Try.f41) rfl rfl rfl rfl rfl ?_
  by_cases hz : I.2 = 0
  · by_cases h7 : Q.1 = 7
    · have e7 := e7 hz h7
      clear ee e6 ek
      subst e7
      have p0 := @part7_no1 I.1 b
      have p1 := @part7_no I.1 b
      have p2 := @part7_ok I.1 b
      have cN := c_next b rfl hb 2 1000 (by omega) I.1
      have nN := (nextS_len (l := I.1) (b := b) (k := 2) (most := 1000)).2
      have cM := c_next b rfl hb (nextS I.1 b 2 1000).2.1 1012 (by omega) I.1
      generalize part7 I.1 b = R at *
      generalize nextS I.1 b (nextS I.1 b 2 1000).2.1 1012 = M at *
      generalize nextS I.1 b 2 1000 = N at *
      rw [pt0] at p0 p1
      (repeat' ((conv => whnf) <;> first | exact rfl | with_reducible refine boolK_dec (fun _ => ?_) (fun _ => ?_) <;> try (exfalso; omega) | refine boolK_beq (fun _ => ?_) (fun _ => ?_) <;> try (exfalso; first | omega | contradiction) | refine boolK_bne (fun _ => ?_) (fun _ => ?_) <;> try (exfalso; first | omega | contradiction) | (with_reducible first | refine boolK_not ?_ | refine boolK_and ?_ | refine boolK_or ?_ | refine boolK_true ?_ | refine boolK_false ?_) | refine boolK_intro (fun _ => ?_) (fun _ => ?_) <;> try (exfalso; simp_all; done) | with_reducible refine natK_lit ?_ | refine natK_of rfl ?_ | refine natK_any ?_ | refine jP ?_ | refine jQ ?_ | refine jR ?_ | refine jS ?_ | refine jT ?_ | refine jU (fun _ => ?_) | refine jV ?_ | refine jW ?_ | refine jX ?_ | refine jY ?_ | refine jZ ?_ | refine ja ?_ | refine jb ?_ | refine jc ?_ | refine jd ?_ | refine je ?_ | refine jf ?_ | refine jg ?_ | refine jh ?_ | refine ji ?_ | refine jj ?_ | refine jk ?_ | refine jn ?_ | refine jo ?_ | refine jp ?_ | refine jq ?_ | refine jr ?_ | refine js ?_ | refine callK_intro (cI) ?_ | refine callK_intro (cR) ?_ | refine callK_intro (cN) ?_ | refine callK_intro (cM) ?_ | refine jt ?_ | refine jx ?_ | refine jy ?_ | refine ju ?_ | refine sideK_intro (by first | (rw [p0 (by assumption)] <;> first | rfl | exact ⟨rfl, rfl⟩ | exact ⟨rfl, rfl, rfl⟩) | (rw [p1 (.inl (by assumption))] <;> first | rfl | exact ⟨rfl, rfl⟩ | exact ⟨rfl, rfl, rfl⟩) | (rw [p1 (.inr (by assumption))] <;> first | rfl | exact ⟨rfl, rfl⟩ | exact ⟨rfl, rfl, rfl⟩) | (rw [p2 (by assumption) (by assumption) (by assumption)] <;> first | rfl | exact ⟨rfl, rfl⟩ | exact ⟨rfl, rfl, rfl⟩) | (rw [h7, p2 (by assumption) (by assumption) (by assumption)]; done)) ?_ | refine jv ?_)) <;> (try (conv => whnf))
    · have e6 := e6 hz h7
      have ek := ek hz h7
      clear ee e7
      subst e6
      have p1 := @part6_no I.1 b
      have p2 := @part6_ok I.1 b
      have cN := c_next b rfl hb 2 1012 (by omega) I.1
      generalize part6 I.1 b = R at *
      generalize nextS I.1 b 2 1012 = N at *
      rw [pt0] at p1
      (repeat' ((conv => whnf) <;> first | exact rfl | with_reducible refine boolK_dec (fun _ => ?_) (fun _ => ?_) <;> try (exfalso; omega) | refine boolK_beq (fun _ => ?_) (fun _ => ?_) <;> try (exfalso; first | omega | contradiction) | refine boolK_bne (fun _ => ?_) (fun _ => ?_) <;> try (exfalso; first | omega | contradiction) | (with_reducible first | refine boolK_not ?_ | refine boolK_and ?_ | refine boolK_or ?_ | refine boolK_true ?_ | refine boolK_false ?_) | refine boolK_intro (fun _ => ?_) (fun _ => ?_) <;> try (exfalso; simp_all; done) | with_reducible refine natK_lit ?_ | refine natK_of rfl ?_ | refine natK_any ?_ | refine jP ?_ | refine jQ ?_ | refine jR ?_ | refine jS ?_ | refine jT ?_ | refine jU (fun _ => ?_) | refine jV ?_ | refine jW ?_ | refine jX ?_ | refine jY ?_ | refine jZ ?_ | refine ja ?_ | refine jb ?_ | refine jc ?_ | refine jd ?_ | refine je ?_ | refine jf ?_ | refine jg ?_ | refine jh ?_ | refine ji ?_ | refine jj ?_ | refine jk ?_ | refine jn ?_ | refine jo ?_ | refine jp ?_ | refine jq ?_ | refine jr ?_ | refine js ?_ | refine callK_intro (cI) ?_ | refine callK_intro (cR) ?_ | refine callK_intro (cN) ?_ | refine jt ?_ | refine jx ?_ | refine jy ?_ | refine ju ?_ | refine sideK_intro (by first | (rw [p1 (.inl (by assumption))] <;> first | rfl | exact ⟨rfl, rfl⟩ | exact ⟨rfl, rfl, rfl⟩) | (rw [p1 (.inr (by assumption))] <;> first | rfl | exact ⟨rfl, rfl⟩ | exact ⟨rfl, rfl, rfl⟩) | (rw [p2 (by assumption) (by assumption)] <;> first | rfl | exact ⟨rfl, rfl⟩ | exact ⟨rfl, rfl, rfl⟩) | (rw [ek, p2 (by assumption) (by assumption)]; done)) ?_ | refine jv ?_)) <;> (try (conv => whnf))
  · have ee := ee hz
    subst ee
    rw [pt0]
    (repeat' ((conv => whnf) <;> first | exact rfl | with_reducible refine boolK_dec (fun _ => ?_) (fun _ => ?_) <;> try (exfalso; omega) | refine boolK_beq (fun _ => ?_) (fun _ => ?_) <;> try (exfalso; first | omega | contradiction) | refine boolK_bne (fun _ => ?_) (fun _ => ?_) <;> try (exfalso; first | omega | contradiction) | (with_reducible first | refine boolK_not ?_ | refine boolK_and ?_ | refine boolK_or ?_ | refine boolK_true ?_ | refine boolK_false ?_) | refine boolK_intro (fun _ => ?_) (fun _ => ?_) <;> try (exfalso; simp_all; done) | with_reducible refine natK_lit ?_ | refine natK_of rfl ?_ | refine natK_any ?_ | refine jP ?_ | refine jQ ?_ | refine jR ?_ | refine jS ?_ | refine jT ?_ | refine jU (fun _ => ?_) | refine jV ?_ | refine jW ?_ | refine jX ?_ | refine jY ?_ | refine jZ ?_ | refine ja ?_ | refine jb ?_ | refine jc ?_ | refine jd ?_ | refine je ?_ | refine jf ?_ | refine jg ?_ | refine jh ?_ | refine ji ?_ | refine jj ?_ | refine jk ?_ | refine jn ?_ | refine jo ?_ | refine jp ?_ | refine jq ?_ | refine jr ?_ | refine js ?_ | refine callK_intro (cI) ?_ | refine jt ?_ | refine jx ?_ | refine jy ?_ | refine ju ?_ | refine jv ?_)) <;> (try (conv => whnf))
theorem c_Parts (b : List UInt8) {m : Nat} (hm : m = b.length) (hb : b.length ≤ 90000) : Fn Try.prog 27 [.o (.sl (b.map u8) m)] [] (.tup [.c (.o (.sl ((partsS b).2.1.map u8) (partsS b).2.1.length)), .c (.o (.sl ((partsS b).2.2.1.map u8) (partsS b).2.2.1.length)), .c (.o (.b (partsS b).2.2.2.1)), .c (.o (.i .i64 (partsS b).2.2.2.2))]) [] := by
  have c := c_parts b hm hb
  generalize partsS b = R at *
  refine Fn_intro (G := g27) (goodA rfl) (fn := Try.f27) rfl rfl rfl rfl rfl ?_
  (repeat' ((conv => whnf) <;> first | exact rfl | with_reducible refine boolK_dec (fun _ => ?_) (fun _ => ?_) <;> try (exfalso; omega) | refine boolK_beq (fun _ => ?_) (fun _ => ?_) <;> try (exfalso; first | omega | contradiction) | refine boolK_bne (fun _ => ?_) (fun _ => ?_) <;> try (exfalso; first | omega | contradiction) | (with_reducible first | refine boolK_not ?_ | refine boolK_and ?_ | refine boolK_or ?_ | refine boolK_true ?_ | refine boolK_false ?_) | refine boolK_intro (fun _ => ?_) (fun _ => ?_) <;> try (exfalso; simp_all; done) | with_reducible refine natK_lit ?_ | refine natK_of rfl ?_ | refine natK_any ?_ | refine jP ?_ | refine jQ ?_ | refine jR ?_ | refine jS ?_ | refine jT ?_ | refine jU (fun _ => ?_) | refine jV ?_ | refine jW ?_ | refine jX ?_ | refine jY ?_ | refine jZ ?_ | refine ja ?_ | refine jb ?_ | refine jc ?_ | refine jd ?_ | refine je ?_ | refine jf ?_ | refine jg ?_ | refine jh ?_ | refine ji ?_ | refine jj ?_ | refine jk ?_ | refine jn ?_ | refine jo ?_ | refine jp ?_ | refine jq ?_ | refine jr ?_ | refine js ?_ | refine callK_intro (c) ?_ | refine jt ?_ | refine jx ?_ | refine jy ?_ | refine ju ?_ | refine jv ?_)) <;> (try (conv => whnf))
theorem c_rParts (b : List UInt8) {m : Nat} (hm : m = b.length) (hb : b.length ≤ 90000) : Fn Try.prog 30 [.o (.sl (b.map u8) m)] [] (.tup [.c (.o (.sl ((partsS b).2.1.map u8) (partsS b).2.1.length)), .c (.o (.sl ((partsS b).2.2.1.map u8) (partsS b).2.2.1.length)), .c (.o (.b (partsS b).2.2.2.1)), .c (.o (.i .i64 (partsS b).2.2.2.2))]) [] := by
  subst hm
  have hm : b.length = b.length := rfl
  have cI := c_ris b rfl [6, 7] rfl (by decide)
  have cR := c_rread b rfl
  have ee := @partsS_e b
  have e6 := @partsS_6 b
  have e7 := @partsS_7 b
  generalize partsS b = R at *
  generalize hI : isS b [6, 7] = I at *
  generalize readS b = Q at *
  refine Fn_intro (G := g30) (goodA rfl) (fn := Try.f30) rfl rfl rfl rfl rfl ?_
  by_cases hz : I.2 = 0
  · by_cases h7 : Q.1 = 7
    · have e7 := e7 hz h7
      clear ee e6
      subst e7
      have p1 := @part7_bad I.1 b
      have p2 := @part7_ref I.1 b
      obtain ⟨g1, g2, g3, g4⟩ := pts_bounds I.1 b
      have r0 : Fn Try.prog 47 [.o (.p 1000 0)] [(1000, .st [.sl (b.map u8) b.length, .i .i64 2, .b I.1, .b false])] (.one (.c (.o (.i .i64 (ptw0 I.1 b).1)))) [(1000, .st [.sl (b.map u8) b.length, .i .i64 (pts1 I.1 b).1, .b I.1, .b (pts1 I.1 b).2])] := c_rdShort b hm (by omega) 2 (by omega) I.1 false
      have r1 : Fn Try.prog 48 [.o (.p 1000 0), .o (.i .i64 (ptw0 I.1 b).1)] [(1000, .st [.sl (b.map u8) b.length, .i .i64 (pts1 I.1 b).1, .b I.1, .b (pts1 I.1 b).2])] (.one (.fr ((ptw1 I.1 b).1.map u8) (ptw1 I.1 b).1.length 1)) [(1000, .st [.sl (b.map u8) b.length, .i .i64 (pts2 I.1 b).1, .b I.1, .b (pts2 I.1 b).2])] := c_rdBytes b hm (by omega) (pts1 I.1 b).1 (ptw0 I.1 b).1 (by omega) I.1 (pts1 I.1 b).2
      have t1 := bytesS_le b (pts1 I.1 b).1 (ptw0 I.1 b).1
      rw [show bytesS b (pts1 I.1 b).1 (ptw0 I.1 b).1 = ptw1 I.1 b from rfl] at t1
      have r2 : Fn Try.prog 47 [.o (.p 1000 0)] [(1000, .st [.sl (b.map u8) b.length, .i .i64 (pts2 I.1 b).1, .b I.1, .b (pts2 I.1 b).2])] (.one (.c (.o (.i .i64 (ptw2 I.1 b).1)))) [(1000, .st [.sl (b.map u8) b.length, .i .i64 (pts3 I.1 b).1, .b I.1, .b (pts3 I.1 b).2])] := c_rdShort b hm (by omega) (pts2 I.1 b).1 (by omega) I.1 (pts2 I.1 b).2
      have r3 : Fn Try.prog 48 [.o (.p 1000 0), .o (.i .i64 (ptw2 I.1 b).1)] [(1000, .st [.sl (b.map u8) b.length, .i .i64 (pts3 I.1 b).1, .b I.1, .b (pts3 I.1 b).2])] (.one (.fr ((ptw3 I.1 b).1.map u8) (ptw3 I.1 b).1.length 1)) [(1000, .st [.sl (b.map u8) b.length, .i .i64 (pts4 I.1 b).1, .b I.1, .b (pts4 I.1 b).2])] := c_rdBytes b hm (by omega) (pts3 I.1 b).1 (ptw2 I.1 b).1 (by omega) I.1 (pts3 I.1 b).2
      have t3 := bytesS_le b (pts3 I.1 b).1 (ptw2 I.1 b).1
      rw [show bytesS b (pts3 I.1 b).1 (ptw2 I.1 b).1 = ptw3 I.1 b from rfl] at t3
      rw [pt0] at p1
      generalize part7 I.1 b = R at *
      clear g1 g2 g3 g4
      generalize ptw3 I.1 b = W3 at *
      generalize ptw2 I.1 b = W2 at *
      generalize ptw1 I.1 b = W1 at *
      generalize ptw0 I.1 b = W0 at *
      generalize pts4 I.1 b = S4 at *
      generalize pts3 I.1 b = S3 at *
      generalize pts2 I.1 b = S2 at *
      generalize pts1 I.1 b = S1 at *
      (repeat' ((conv => whnf) <;> first | exact rfl | with_reducible refine boolK_dec (fun _ => ?_) (fun _ => ?_) <;> try (exfalso; omega) | refine boolK_beq (fun _ => ?_) (fun _ => ?_) <;> try (exfalso; first | omega | contradiction) | refine boolK_bne (fun _ => ?_) (fun _ => ?_) <;> try (exfalso; first | omega | contradiction) | (with_reducible first | refine boolK_not ?_ | refine boolK_and ?_ | refine boolK_or ?_ | refine boolK_true ?_ | refine boolK_false ?_) | refine boolK_intro (fun _ => ?_) (fun _ => ?_) <;> try (exfalso; simp_all; done) | with_reducible refine natK_lit ?_ | refine natK_of rfl ?_ | refine natK_any ?_ | refine jP ?_ | refine jQ ?_ | refine jR ?_ | refine jS ?_ | refine jT ?_ | refine jU (fun _ => ?_) | refine jV ?_ | refine jW ?_ | refine jX ?_ | refine jY ?_ | refine jZ ?_ | refine ja ?_ | refine jb ?_ | refine jc ?_ | refine jd ?_ | refine je ?_ | refine jf ?_ | refine jg ?_ | refine jh ?_ | refine ji ?_ | refine jj ?_ | refine jk ?_ | refine jn ?_ | refine jo ?_ | refine jp ?_ | refine jq ?_ | refine jr ?_ | refine js ?_ | refine callK_intro (cI) ?_ | refine callK_intro (cR) ?_ | refine callK_intro (r0) ?_ | refine callK_intro (r1) ?_ | refine callK_intro (r2) ?_ | refine callK_intro (r3) ?_ | refine jt ?_ | refine jx ?_ | refine jy ?_ | refine ju ?_ | refine sideK_intro (by first | (rw [p1 (.inl (by assumption))] <;> first | rfl | exact ⟨rfl, rfl⟩ | exact ⟨rfl, rfl, rfl⟩) | (rw [p1 (.inr (.inl (by assumption)))] <;> first | rfl | exact ⟨rfl, rfl⟩ | exact ⟨rfl, rfl, rfl⟩) | (rw [p1 (.inr (.inr (.inl (by omega))))] <;> first | rfl | exact ⟨rfl, rfl⟩ | exact ⟨rfl, rfl, rfl⟩) | (rw [p1 (.inr (.inr (.inr (by omega))))] <;> first | rfl | exact ⟨rfl, rfl⟩ | exact ⟨rfl, rfl, rfl⟩) | (rw [p2 (by assumption) (by assumption) (by omega) (by omega)] <;> first | rfl | exact ⟨rfl, rfl⟩ | exact ⟨rfl, rfl, rfl⟩)) ?_ | refine jv ?_)) <;> (try (conv => whnf))
    · have e6 := e6 hz h7
      clear ee e7
      subst e6
      have p1 := @part6_bad I.1 b
      have p2 := @part6_ref I.1 b
      obtain ⟨g1, g2⟩ := pss_bounds I.1 b
      have r0 : Fn Try.prog 47 [.o (.p 1000 0)] [(1000, .st [.sl (b.map u8) b.length, .i .i64 2, .b I.1, .b false])] (.one (.c (.o (.i .i64 (psw0 I.1 b).1)))) [(1000, .st [.sl (b.map u8) b.length, .i .i64 (pss1 I.1 b).1, .b I.1, .b (pss1 I.1 b).2])] := c_rdShort b hm (by omega) 2 (by omega) I.1 false
      have r1 : Fn Try.prog 48 [.o (.p 1000 0), .o (.i .i64 (psw0 I.1 b).1)] [(1000, .st [.sl (b.map u8) b.length, .i .i64 (pss1 I.1 b).1, .b I.1, .b (pss1 I.1 b).2])] (.one (.fr ((psw1 I.1 b).1.map u8) (psw1 I.1 b).1.length 1)) [(1000, .st [.sl (b.map u8) b.length, .i .i64 (pss2 I.1 b).1, .b I.1, .b (pss2 I.1 b).2])] := c_rdBytes b hm (by omega) (pss1 I.1 b).1 (psw0 I.1 b).1 (by omega) I.1 (pss1 I.1 b).2
      have t1 := bytesS_le b (pss1 I.1 b).1 (psw0 I.1 b).1
      rw [show bytesS b (pss1 I.1 b).1 (psw0 I.1 b).1 = psw1 I.1 b from rfl] at t1
      rw [pt0] at p1
      generalize part6 I.1 b = R at *
      clear g1 g2
      generalize psw1 I.1 b = W1 at *
      generalize psw0 I.1 b = W0 at *
      generalize pss2 I.1 b = S2 at *
      generalize pss1 I.1 b = S1 at *
      (repeat' ((conv => whnf) <;> first | exact rfl | with_reducible refine boolK_dec (fun _ => ?_) (fun _ => ?_) <;> try (exfalso; omega) | refine boolK_beq (fun _ => ?_) (fun _ => ?_) <;> try (exfalso; first | omega | contradiction) | refine boolK_bne (fun _ => ?_) (fun _ => ?_) <;> try (exfalso; first | omega | contradiction) | (with_reducible first | refine boolK_not ?_ | refine boolK_and ?_ | refine boolK_or ?_ | refine boolK_true ?_ | refine boolK_false ?_) | refine boolK_intro (fun _ => ?_) (fun _ => ?_) <;> try (exfalso; simp_all; done) | with_reducible refine natK_lit ?_ | refine natK_of rfl ?_ | refine natK_any ?_ | refine jP ?_ | refine jQ ?_ | refine jR ?_ | refine jS ?_ | refine jT ?_ | refine jU (fun _ => ?_) | refine jV ?_ | refine jW ?_ | refine jX ?_ | refine jY ?_ | refine jZ ?_ | refine ja ?_ | refine jb ?_ | refine jc ?_ | refine jd ?_ | refine je ?_ | refine jf ?_ | refine jg ?_ | refine jh ?_ | refine ji ?_ | refine jj ?_ | refine jk ?_ | refine jn ?_ | refine jo ?_ | refine jp ?_ | refine jq ?_ | refine jr ?_ | refine js ?_ | refine callK_intro (cI) ?_ | refine callK_intro (cR) ?_ | refine callK_intro (r0) ?_ | refine callK_intro (r1) ?_ | refine jt ?_ | refine jx ?_ | refine jy ?_ | refine ju ?_ | refine sideK_intro (by first | (rw [p1 (.inl (by assumption))] <;> first | rfl | exact ⟨rfl, rfl⟩ | exact ⟨rfl, rfl, rfl⟩) | (rw [p1 (.inr (.inl (by assumption)))] <;> first | rfl | exact ⟨rfl, rfl⟩ | exact ⟨rfl, rfl, rfl⟩) | (rw [p1 (.inr (.inr (by omega)))] <;> first | rfl | exact ⟨rfl, rfl⟩ | exact ⟨rfl, rfl, rfl⟩) | (rw [p2 (by assumption) (by assumption) (by omega)] <;> first | rfl | exact ⟨rfl, rfl⟩ | exact ⟨rfl, rfl, rfl⟩)) ?_ | refine jv ?_)) <;> (try (conv => whnf))
  · have ee := ee hz
    subst ee
    rw [pt0]
    (repeat' ((conv => whnf) <;> first | exact rfl | with_reducible refine boolK_dec (fun _ => ?_) (fun _ => ?_) <;> try (exfalso; omega) | refine boolK_beq (fun _ => ?_) (fun _ => ?_) <;> try (exfalso; first | omega | contradiction) | refine boolK_bne (fun _ => ?_) (fun _ => ?_) <;> try (exfalso; first | omega | contradiction) | (with_reducible first | refine boolK_not ?_ | refine boolK_and ?_ | refine boolK_or ?_ | refine boolK_true ?_ | refine boolK_false ?_) | refine boolK_intro (fun _ => ?_) (fun _ => ?_) <;> try (exfalso; simp_all; done) | with_reducible refine natK_lit ?_ | refine natK_of rfl ?_ | refine natK_any ?_ | refine jP ?_ | refine jQ ?_ | refine jR ?_ | refine jS ?_ | refine jT ?_ | refine jU (fun _ => ?_) | refine jV ?_ | refine jW ?_ | refine jX ?_ | refine jY ?_ | refine jZ ?_ | refine ja ?_ | refine jb ?_ | refine jc ?_ | refine jd ?_ | refine je ?_ | refine jf ?_ | refine jg ?_ | refine jh ?_ | refine ji ?_ | refine jj ?_ | refine jk ?_ | refine jn ?_ | refine jo ?_ | refine jp ?_ | refine jq ?_ | refine jr ?_ | refine js ?_ | refine callK_intro (cI) ?_ | refine jt ?_ | refine jx ?_ | refine jy ?_ | refine ju ?_ | refine jv ?_)) <;> (try (conv => whnf))
end Go.Sx

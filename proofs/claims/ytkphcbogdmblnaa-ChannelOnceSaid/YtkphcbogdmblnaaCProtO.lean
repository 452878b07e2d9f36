/-
  Contracts of the functions that take messages apart, make them and open them.
-/
import Derived.Test.YtkphcbogdmblnaaCProtM
set_option linter.all false
namespace Go.Sx
open Go.Proofs Go.RowKit
noncomputable def g64 : Par := par 18 (nthLL [[0, 1, 4], [4, 6, 7], [4, 6, 15], [4, 5], [4, 5]]) [4, 5] (nthLL [])
noncomputable def g42 : Par := par 42 (nthLL [[0, 1, 4], [1, 4, 6, 8, 9, 10], [1, 4, 6, 8, 9, 10, 22], [4, 5], [1, 4, 8, 9, 26], [4, 5], [4, 9, 11, 12], [4, 9, 11, 35], [4, 5], [4, 5]]) [4, 5, 10] (nthLL [])
noncomputable def g43 : Par := par 48 (nthLL [[0, 1, 4], [1, 4, 6, 7, 8, 9, 10], [1, 4, 6, 7, 8, 9, 10, 22], [4, 5], [1, 4, 7, 8, 9, 26], [4, 5], [4, 7, 9, 11, 12], [4, 7, 9, 41], [4, 5], [4, 5]]) [4, 5, 10] (nthLL [])
noncomputable def g49 : Par := par 72 (nthLL [[0, 1, 2, 3, 8], [0, 1, 2, 3, 8, 10, 11, 12, 13], [0, 1, 2, 3, 8, 10, 11, 12, 13, 28], [8, 9], [1, 2, 3, 8, 10, 11, 12, 14], [1, 2, 3, 8, 10, 11, 12, 39], [8, 9], [1, 8, 10, 12, 17, 18], [8, 12, 17, 60], [8, 9], [8, 13, 19], [8, 19, 69], [8, 9], [8, 9]]) [8, 9, 13] (nthLL [])
noncomputable def g31 : Par := par 11 (nthLL [[0, 1, 4], [4, 5]]) [4, 5] (nthLL [])
noncomputable def g32 : Par := par 11 (nthLL [[0, 1, 4], [4, 5]]) [4, 5] (nthLL [])
set_option maxRecDepth 10000
set_option maxHeartbeats 4000000
theorem c_content (t : List UInt8) {m : Nat} (hm : m = t.length) (ht : t.length ≤ 90000) (l : Bool) : Fn Try.prog 64 [.o (.sl (t.map u8) m), .o (.b l)] [] (.tup [.c (.a [.sl ((cont l t).1.1.map u8) (cont l t).1.1.length, .i .i64 (cont l t).1.2.1, .i .i64 (cont l t).1.2.2.1, .i .i64 (cont l t).1.2.2.2]), .c (.o (.i .i64 (cont l t).2))]) [] := by
  have cD := c_DecodeP t hm ht l
  have cy := @cont_yes l t
  have cn := @cont_no l t
  rw [pr0] at cn
  generalize cont l t = R at *
  generalize prD l t = D at *
  refine Fn_intro (G := g64) (goodA rfl) (fn := Try.f64) rfl rfl rfl rfl rfl ?_
  (repeat' ((conv => whnf) <;> first | exact rfl | with_reducible refine boolK_dec (fun _ => ?_) (fun _ => ?_) <;> try (exfalso; omega) | refine boolK_beq (fun _ => ?_) (fun _ => ?_) <;> try (exfalso; first | omega | contradiction) | refine boolK_bne (fun _ => ?_) (fun _ => ?_) <;> try (exfalso; first | omega | contradiction) | (with_reducible first | refine boolK_not ?_ | refine boolK_and ?_ | refine boolK_or ?_ | refine boolK_true ?_ | refine boolK_false ?_) | refine boolK_intro (fun _ => ?_) (fun _ => ?_) <;> try (exfalso; simp_all; done) | with_reducible refine natK_lit ?_ | refine natK_of rfl ?_ | refine natK_any ?_ | refine jP ?_ | refine jQ ?_ | refine jR ?_ | refine jS ?_ | refine jT ?_ | refine jU (fun _ => ?_) | refine jV ?_ | refine jW ?_ | refine jX ?_ | refine jY ?_ | refine jZ ?_ | refine ja ?_ | refine jb ?_ | refine jc ?_ | refine jd ?_ | refine je ?_ | refine jf ?_ | refine jg ?_ | refine jh ?_ | refine ji ?_ | refine jj ?_ | refine jk ?_ | refine jn ?_ | refine jo ?_ | refine jp ?_ | refine jq ?_ | refine jr ?_ | refine js ?_ | refine callK_intro (cD) ?_ | refine jt ?_ | refine jx ?_ | refine jy ?_ | refine ju ?_ | refine sideK_intro (by first | (rw [cn (by assumption)] <;> first | rfl | exact ⟨rfl, rfl⟩ | exact ⟨rfl, rfl, rfl⟩) | (rw [cy (by assumption)] <;> first | rfl | exact ⟨rfl, rfl⟩ | exact ⟨rfl, rfl, rfl⟩)) ?_ | refine jv ?_)) <;> (try (conv => whnf))
theorem c_OpenPrivate (b : List UInt8) {m : Nat} (hm : m = b.length) (hb : b.length ≤ 90000) (k : Int) : Fn Try.prog 42 [.o (.sl (b.map u8) m), .o (.i .u64 k)] [] (.tup [.c (.a [.sl ((openP b k).1.1.map u8) (openP b k).1.1.length, .i .i64 (openP b k).1.2.1, .i .i64 (openP b k).1.2.2.1, .i .i64 (openP b k).1.2.2.2]), .c (.o (.i .i64 (openP b k).2))]) [] := by
  have cP := c_parts b hm hb
  have hp := partsS_len b
  have oe := @openP_e b k
  have ot := @openP_t b k
  have om := @openP_m b k
  have oc := @openP_c b k
  rw [pr0] at oe ot om
  generalize openP b k = R at *
  generalize partsS b = P at *
  have cO := c_boxOpen P.2.2.1 rfl (by omega) 5 k
  have ho := boxO_len P.2.2.1 5 k
  have cC := c_content (boxO P.2.2.1 5 k).1 rfl (by omega) P.2.2.2.1
  generalize cont P.2.2.2.1 (boxO P.2.2.1 5 k).1 = C at *
  generalize boxO P.2.2.1 5 k = O at *
  refine Fn_intro (G := g42) (goodA rfl) (fn := Try.f42) rfl rfl rfl rfl rfl ?_
  (repeat' ((conv => whnf) <;> first | exact rfl | with_reducible refine boolK_dec (fun _ => ?_) (fun _ => ?_) <;> try (exfalso; omega) | refine boolK_beq (fun _ => ?_) (fun _ => ?_) <;> try (exfalso; first | omega | contradiction) | refine boolK_bne (fun _ => ?_) (fun _ => ?_) <;> try (exfalso; first | omega | contradiction) | (with_reducible first | refine boolK_not ?_ | refine boolK_and ?_ | refine boolK_or ?_ | refine boolK_true ?_ | refine boolK_false ?_) | refine boolK_intro (fun _ => ?_) (fun _ => ?_) <;> try (exfalso; simp_all; done) | with_reducible refine natK_lit ?_ | refine natK_of rfl ?_ | refine natK_any ?_ | refine jP ?_ | refine jQ ?_ | refine jR ?_ | refine jS ?_ | refine jT ?_ | refine jU (fun _ => ?_) | refine jV ?_ | refine jW ?_ | refine jX ?_ | refine jY ?_ | refine jZ ?_ | refine ja ?_ | refine jb ?_ | refine jc ?_ | refine jd ?_ | refine je ?_ | refine jf ?_ | refine jg ?_ | refine jh ?_ | refine ji ?_ | refine jj ?_ | refine jk ?_ | refine jn ?_ | refine jo ?_ | refine jp ?_ | refine jq ?_ | refine jr ?_ | refine js ?_ | refine callK_intro (cP) ?_ | refine callK_intro (cO) ?_ | refine callK_intro (cC) ?_ | refine jt ?_ | refine jx ?_ | refine jy ?_ | refine ju ?_ | refine sideK_intro (by first | (rw [oe (by assumption)] <;> first | rfl | exact ⟨rfl, rfl⟩ | exact ⟨rfl, rfl, rfl⟩) | (rw [ot (by assumption) (by assumption)] <;> first | rfl | exact ⟨rfl, rfl⟩ | exact ⟨rfl, rfl, rfl⟩) | (rw [om (by assumption) (by assumption) (by assumption)] <;> first | rfl | exact ⟨rfl, rfl⟩ | exact ⟨rfl, rfl, rfl⟩) | (rw [oc (by assumption) (by assumption) (by assumption)] <;> first | rfl | exact ⟨rfl, rfl⟩ | exact ⟨rfl, rfl, rfl⟩)) ?_ | refine jv ?_)) <;> (try (conv => whnf))
theorem c_OpenSafe (b : List UInt8) {m : Nat} (hm : m = b.length) (hb : b.length ≤ 90000) (k : Int) : Fn Try.prog 43 [.o (.sl (b.map u8) m), .o (.i .u64 k)] [] (.tup [.c (.a [.sl ((openS b k).1.1.map u8) (openS b k).1.1.length, .i .i64 (openS b k).1.2.1, .i .i64 (openS b k).1.2.2.1, .i .i64 (openS b k).1.2.2.2]), .c (.o (.i .i64 (openS b k).2))]) [] := by
  have cP := c_parts b hm hb
  have hp := partsS_len b
  have oe := @openS_e b k
  have ot := @openS_t b k
  have om := @openS_m b k
  have oc := @openS_c b k
  rw [pr0] at oe ot om
  generalize openS b k = R at *
  generalize partsS b = P at *
  have cO := c_boxOpen P.2.2.1 rfl (by omega) 6 k
  have ho := boxO_len P.2.2.1 6 k
  have cC := c_content P.2.1 rfl (by omega) P.2.2.2.1
  generalize cont P.2.2.2.1 P.2.1 = C at *
  generalize boxO P.2.2.1 6 k = O at *
  refine Fn_intro (G := g43) (goodA rfl) (fn := Try.f43) rfl rfl rfl rfl rfl ?_
  (repeat' ((conv => whnf) <;> first | exact rfl | with_reducible refine boolK_dec (fun _ => ?_) (fun _ => ?_) <;> try (exfalso; omega) | refine boolK_beq (fun _ => ?_) (fun _ => ?_) <;> try (exfalso; first | omega | contradiction) | refine boolK_bne (fun _ => ?_) (fun _ => ?_) <;> try (exfalso; first | omega | contradiction) | (with_reducible first | refine boolK_not ?_ | refine boolK_and ?_ | refine boolK_or ?_ | refine boolK_true ?_ | refine boolK_false ?_) | refine boolK_intro (fun _ => ?_) (fun _ => ?_) <;> try (exfalso; simp_all; done) | with_reducible refine natK_lit ?_ | refine natK_of rfl ?_ | refine natK_any ?_ | refine jP ?_ | refine jQ ?_ | refine jR ?_ | refine jS ?_ | refine jT ?_ | refine jU (fun _ => ?_) | refine jV ?_ | refine jW ?_ | refine jX ?_ | refine jY ?_ | refine jZ ?_ | refine ja ?_ | refine jb ?_ | refine jc ?_ | refine jd ?_ | refine je ?_ | refine jf ?_ | refine jg ?_ | refine jh ?_ | refine ji ?_ | refine jj ?_ | refine jk ?_ | refine jn ?_ | refine jo ?_ | refine jp ?_ | refine jq ?_ | refine jr ?_ | refine js ?_ | refine callK_intro (cP) ?_ | refine callK_intro (cO) ?_ | refine callK_intro (cC) ?_ | refine callK_intro (c_Equal _ _ rfl rfl) ?_ | refine jt ?_ | refine jx ?_ | refine jy ?_ | refine ju ?_ | refine sideK_intro (by first | (rw [oe (by assumption)] <;> first | rfl | exact ⟨rfl, rfl⟩ | exact ⟨rfl, rfl, rfl⟩) | (rw [ot (by assumption) (by assumption)] <;> first | rfl | exact ⟨rfl, rfl⟩ | exact ⟨rfl, rfl, rfl⟩) | (rw [om (by assumption) (by assumption) (.inl (by assumption))] <;> first | rfl | exact ⟨rfl, rfl⟩ | exact ⟨rfl, rfl, rfl⟩) | (rw [om (by assumption) (by assumption) (.inr (by assumption))] <;> first | rfl | exact ⟨rfl, rfl⟩ | exact ⟨rfl, rfl, rfl⟩) | (rw [oc (by assumption) (by assumption) (by assumption) (by assumption)] <;> first | rfl | exact ⟨rfl, rfl⟩ | exact ⟨rfl, rfl, rfl⟩)) ?_ | refine jv ?_)) <;> (try (conv => whnf))
theorem c_ropen6 (b : List UInt8) {m : Nat} (hm : m = b.length) (hb : b.length ≤ 90000) (k : Int) : Fn Try.prog 49 [.o (.sl (b.map u8) m), .o (.i .i64 6), .o (.i .i64 5), .o (.i .u64 k)] [] (.tup [.c (.a [.sl ((openP b k).1.1.map u8) (openP b k).1.1.length, .i .i64 (openP b k).1.2.1, .i .i64 (openP b k).1.2.2.1, .i .i64 (openP b k).1.2.2.2]), .c (.o (.i .i64 (openP b k).2))]) [] := by
  have cP := c_rParts b hm hb
  have cR := c_rread b hm
  have hp := partsS_len b
  have pk := @parts_kind b
  have oe := @openP_e b k
  have ot := @openP_t b k
  have om := @openP_m b k
  have oc := @openP_c b k
  rw [pr0] at oe ot om
  generalize openP b k = R at *
  generalize partsS b = P at *
  generalize readS b = Q at *
  have cO := c_rboxOpen P.2.2.1 rfl (by omega) 5 k
  have ho := boxO_len P.2.2.1 5 k
  generalize boxO P.2.2.1 5 k = O at *
  have cD := c_rDecodeP O.1 rfl (by omega) P.2.2.2.1
  have cy := @cont_yes P.2.2.2.1 O.1
  have cn := @cont_no P.2.2.2.1 O.1
  rw [pr0] at cn
  have oc1 : P.2.2.2.2 = 0 → P.1 = 6 → O.2 = true → (prD P.2.2.2.1 O.1).2 = 0 → R = ((prD P.2.2.2.1 O.1).1, 0) := fun a1 a2 a3 a4 => (oc a1 a2 a3).trans (cy a4)
  have oc2 : P.2.2.2.2 = 0 → P.1 = 6 → O.2 = true → ¬ (prD P.2.2.2.1 O.1).2 = 0 → R = (([], 0, 0, 0), 41) := fun a1 a2 a3 a4 => (oc a1 a2 a3).trans (cn a4)
  clear oc cy cn
  generalize prD P.2.2.2.1 O.1 = D at *
  refine Fn_intro (G := g49) (goodA rfl) (fn := Try.f49) rfl rfl rfl rfl rfl ?_
  by_cases he : P.2.2.2.2 = 0
  · have pk := pk he
    have ot := ot he
    have om := om he
    have oc1 := oc1 he
    have oc2 := oc2 he
    rw [pk] at ot om oc1 oc2
    clear oe pk
    (repeat' ((conv => whnf) <;> first | exact rfl | with_reducible refine boolK_dec (fun _ => ?_) (fun _ => ?_) <;> try (exfalso; omega) | refine boolK_beq (fun _ => ?_) (fun _ => ?_) <;> try (exfalso; first | omega | contradiction) | refine boolK_bne (fun _ => ?_) (fun _ => ?_) <;> try (exfalso; first | omega | contradiction) | (with_reducible first | refine boolK_not ?_ | refine boolK_and ?_ | refine boolK_or ?_ | refine boolK_true ?_ | refine boolK_false ?_) | refine boolK_intro (fun _ => ?_) (fun _ => ?_) <;> try (exfalso; simp_all; done) | refine jC ?_ | refine jD ?_ | refine jE ?_ | refine jF ?_ | refine jG ?_ | with_reducible refine natK_lit ?_ | refine natK_of rfl ?_ | refine natK_any ?_ | refine jP ?_ | refine jQ ?_ | refine jR ?_ | refine jS ?_ | refine jT ?_ | refine jU (fun _ => ?_) | refine jV ?_ | refine jW ?_ | refine jX ?_ | refine jY ?_ | refine jZ ?_ | refine ja ?_ | refine jb ?_ | refine jc ?_ | refine jd ?_ | refine je ?_ | refine jf ?_ | refine jg ?_ | refine jh ?_ | refine ji ?_ | refine jj ?_ | refine jk ?_ | refine jn ?_ | refine jo ?_ | refine jp ?_ | refine jq ?_ | refine jr ?_ | refine js ?_ | refine callK_intro (cP) ?_ | refine callK_intro (cR) ?_ | refine callK_intro (cO) ?_ | refine callK_intro (cD) ?_ | refine jt ?_ | refine jx ?_ | refine jy ?_ | refine ju ?_ | refine sideK_intro (by first | (rw [ot (by assumption)] <;> first | rfl | exact ⟨rfl, rfl⟩ | exact ⟨rfl, rfl, rfl⟩) | (rw [om (by assumption) (by assumption)] <;> first | rfl | exact ⟨rfl, rfl⟩ | exact ⟨rfl, rfl, rfl⟩) | (rw [oc1 (by assumption) (by assumption) (by assumption)] <;> first | rfl | exact ⟨rfl, rfl⟩ | exact ⟨rfl, rfl, rfl⟩) | (rw [oc2 (by assumption) (by assumption) (by assumption)] <;> first | rfl | exact ⟨rfl, rfl⟩ | exact ⟨rfl, rfl, rfl⟩)) ?_ | refine jv ?_)) <;> (try (conv => whnf))
  · have oe := oe he
    subst oe
    clear ot om oc1 oc2 pk
    (repeat' ((conv => whnf) <;> first | exact rfl | with_reducible refine boolK_dec (fun _ => ?_) (fun _ => ?_) <;> try (exfalso; omega) | refine boolK_beq (fun _ => ?_) (fun _ => ?_) <;> try (exfalso; first | omega | contradiction) | refine boolK_bne (fun _ => ?_) (fun _ => ?_) <;> try (exfalso; first | omega | contradiction) | (with_reducible first | refine boolK_not ?_ | refine boolK_and ?_ | refine boolK_or ?_ | refine boolK_true ?_ | refine boolK_false ?_) | refine boolK_intro (fun _ => ?_) (fun _ => ?_) <;> try (exfalso; simp_all; done) | refine jC ?_ | refine jD ?_ | refine jE ?_ | refine jF ?_ | refine jG ?_ | with_reducible refine natK_lit ?_ | refine natK_of rfl ?_ | refine natK_any ?_ | refine jP ?_ | refine jQ ?_ | refine jR ?_ | refine jS ?_ | refine jT ?_ | refine jU (fun _ => ?_) | refine jV ?_ | refine jW ?_ | refine jX ?_ | refine jY ?_ | refine jZ ?_ | refine ja ?_ | refine jb ?_ | refine jc ?_ | refine jd ?_ | refine je ?_ | refine jf ?_ | refine jg ?_ | refine jh ?_ | refine ji ?_ | refine jj ?_ | refine jk ?_ | refine jn ?_ | refine jo ?_ | refine jp ?_ | refine jq ?_ | refine jr ?_ | refine js ?_ | refine callK_intro (cP) ?_ | refine jt ?_ | refine jx ?_ | refine jy ?_ | refine ju ?_ | refine jv ?_)) <;> (try (conv => whnf))
theorem c_rOpenPrivate (b : List UInt8) {m : Nat} (hm : m = b.length) (hb : b.length ≤ 90000) (k : Int) : Fn Try.prog 31 [.o (.sl (b.map u8) m), .o (.i .u64 k)] [] (.tup [.c (.a [.sl ((openP b k).1.1.map u8) (openP b k).1.1.length, .i .i64 (openP b k).1.2.1, .i .i64 (openP b k).1.2.2.1, .i .i64 (openP b k).1.2.2.2]), .c (.o (.i .i64 (openP b k).2))]) [] := by
  have c := c_ropen6 b hm hb k
  generalize openP b k = R at *
  refine Fn_intro (G := g31) (goodA rfl) (fn := Try.f31) rfl rfl rfl rfl rfl ?_
  (repeat' ((conv => whnf) <;> first | exact rfl | with_reducible refine boolK_dec (fun _ => ?_) (fun _ => ?_) <;> try (exfalso; omega) | refine boolK_beq (fun _ => ?_) (fun _ => ?_) <;> try (exfalso; first | omega | contradiction) | refine boolK_bne (fun _ => ?_) (fun _ => ?_) <;> try (exfalso; first | omega | contradiction) | (with_reducible first | refine boolK_not ?_ | refine boolK_and ?_ | refine boolK_or ?_ | refine boolK_true ?_ | refine boolK_false ?_) | refine boolK_intro (fun _ => ?_) (fun _ => ?_) <;> try (exfalso; simp_all; done) | with_reducible refine natK_lit ?_ | refine natK_of rfl ?_ | refine natK_any ?_ | refine jP ?_ | refine jQ ?_ | refine jR ?_ | refine jS ?_ | refine jT ?_ | refine jU (fun _ => ?_) | refine jV ?_ | refine jW ?_ | refine jX ?_ | refine jY ?_ | refine jZ ?_ | refine ja ?_ | refine jb ?_ | refine jc ?_ | refine jd ?_ | refine je ?_ | refine jf ?_ | refine jg ?_ | refine jh ?_ | refine ji ?_ | refine jj ?_ | refine jk ?_ | refine jn ?_ | refine jo ?_ | refine jp ?_ | refine jq ?_ | refine jr ?_ | refine js ?_ | refine callK_intro (c) ?_ | refine jt ?_ | refine jx ?_ | refine jy ?_ | refine ju ?_ | refine jv ?_)) <;> (try (conv => whnf))
theorem c_ropen7 (b : List UInt8) {m : Nat} (hm : m = b.length) (hb : b.length ≤ 90000) (k : Int) : Fn Try.prog 49 [.o (.sl (b.map u8) m), .o (.i .i64 7), .o (.i .i64 6), .o (.i .u64 k)] [] (.tup [.c (.a [.sl ((openS b k).1.1.map u8) (openS b k).1.1.length, .i .i64 (openS b k).1.2.1, .i .i64 (openS b k).1.2.2.1, .i .i64 (openS b k).1.2.2.2]), .c (.o (.i .i64 (openS b k).2))]) [] := by
  have cP := c_rParts b hm hb
  have cR := c_rread b hm
  have hp := partsS_len b
  have pk := @parts_kind b
  have oe := @openS_e b k
  have ot := @openS_t b k
  have om := @openS_m b k
  have oc := @openS_c b k
  rw [pr0] at oe ot om
  generalize openS b k = R at *
  generalize partsS b = P at *
  generalize readS b = Q at *
  have cO := c_rboxOpen P.2.2.1 rfl (by omega) 6 k
  have ho := boxO_len P.2.2.1 6 k
  generalize boxO P.2.2.1 6 k = O at *
  have cD := c_rDecodeP O.1 rfl (by omega) P.2.2.2.1
  have cy := @cont_yes P.2.2.2.1 O.1
  have cn := @cont_no P.2.2.2.1 O.1
  rw [pr0] at cn
  have oc1 : P.2.2.2.2 = 0 → P.1 = 7 → O.2 = true → O.1 = P.2.1 → (prD P.2.2.2.1 O.1).2 = 0 → R = ((prD P.2.2.2.1 O.1).1, 0) := fun a1 a2 a3 a4 a5 => (oc a1 a2 a3 a4).trans (by rw [← a4]; exact cy a5)
  have oc2 : P.2.2.2.2 = 0 → P.1 = 7 → O.2 = true → O.1 = P.2.1 → ¬ (prD P.2.2.2.1 O.1).2 = 0 → R = (([], 0, 0, 0), 41) := fun a1 a2 a3 a4 a5 => (oc a1 a2 a3 a4).trans (by rw [← a4]; exact cn a5)
  clear oc cy cn
  generalize prD P.2.2.2.1 O.1 = D at *
  refine Fn_intro (G := g49) (goodA rfl) (fn := Try.f49) rfl rfl rfl rfl rfl ?_
  by_cases he : P.2.2.2.2 = 0
  · have pk := pk he
    have ot := ot he
    have om := om he
    have oc1 := oc1 he
    have oc2 := oc2 he
    rw [pk] at ot om oc1 oc2
    clear oe pk
    (repeat' ((conv => whnf) <;> first | exact rfl | with_reducible refine boolK_dec (fun _ => ?_) (fun _ => ?_) <;> try (exfalso; omega) | refine boolK_beq (fun _ => ?_) (fun _ => ?_) <;> try (exfalso; first | omega | contradiction) | refine boolK_bne (fun _ => ?_) (fun _ => ?_) <;> try (exfalso; first | omega | contradiction) | (with_reducible first | refine boolK_not ?_ | refine boolK_and ?_ | refine boolK_or ?_ | refine boolK_true ?_ | refine boolK_false ?_) | refine boolK_intro (fun _ => ?_) (fun _ => ?_) <;> try (exfalso; simp_all; done) | refine jC ?_ | refine jD ?_ | refine jE ?_ | refine jF ?_ | refine jG ?_ | with_reducible refine natK_lit ?_ | refine natK_of rfl ?_ | refine natK_any ?_ | refine jP ?_ | refine jQ ?_ | refine jR ?_ | refine jS ?_ | refine jT ?_ | refine jU (fun _ => ?_) | refine jV ?_ | refine jW ?_ | refine jX ?_ | refine jY ?_ | refine jZ ?_ | refine ja ?_ | refine jb ?_ | refine jc ?_ | refine jd ?_ | refine je ?_ | refine jf ?_ | refine jg ?_ | refine jh ?_ | refine ji ?_ | refine jj ?_ | refine jk ?_ | refine jn ?_ | refine jo ?_ | refine jp ?_ | refine jq ?_ | refine jr ?_ | refine js ?_ | refine callK_intro (cP) ?_ | refine callK_intro (cR) ?_ | refine callK_intro (cO) ?_ | refine callK_intro (cD) ?_ | refine jt ?_ | refine jx ?_ | refine jy ?_ | refine ju ?_ | refine sideK_intro (by first | (rw [ot (by assumption)] <;> first | rfl | exact ⟨rfl, rfl⟩ | exact ⟨rfl, rfl, rfl⟩) | (rw [om (by assumption) (.inl (by assumption))] <;> first | rfl | exact ⟨rfl, rfl⟩ | exact ⟨rfl, rfl, rfl⟩) | (rw [om (by assumption) (.inr (by assumption))] <;> first | rfl | exact ⟨rfl, rfl⟩ | exact ⟨rfl, rfl, rfl⟩) | (rw [oc1 (by assumption) (by assumption) (by assumption) (by assumption)] <;> first | rfl | exact ⟨rfl, rfl⟩ | exact ⟨rfl, rfl, rfl⟩) | (rw [oc2 (by assumption) (by assumption) (by assumption) (by assumption)] <;> first | rfl | exact ⟨rfl, rfl⟩ | exact ⟨rfl, rfl, rfl⟩)) ?_ | refine jv ?_)) <;> (try (conv => whnf))
  · have oe := oe he
    subst oe
    clear ot om oc1 oc2 pk
    (repeat' ((conv => whnf) <;> first | exact rfl | with_reducible refine boolK_dec (fun _ => ?_) (fun _ => ?_) <;> try (exfalso; omega) | refine boolK_beq (fun _ => ?_) (fun _ => ?_) <;> try (exfalso; first | omega | contradiction) | refine boolK_bne (fun _ => ?_) (fun _ => ?_) <;> try (exfalso; first | omega | contradiction) | (with_reducible first | refine boolK_not ?_ | refine boolK_and ?_ | refine boolK_or ?_ | refine boolK_true ?_ | refine boolK_false ?_) | refine boolK_intro (fun _ => ?_) (fun _ => ?_) <;> try (exfalso; simp_all; done) | refine jC ?_ | refine jD ?_ | refine jE ?_ | refine jF ?_ | refine jG ?_ | with_reducible refine natK_lit ?_ | refine natK_of rfl ?_ | refine natK_any ?_ | refine jP ?_ | refine jQ ?_ | refine jR ?_ | refine jS ?_ | refine jT ?_ | refine jU (fun _ => ?_) | refine jV ?_ | refine jW ?_ | refine jX ?_ | refine jY ?_ | refine jZ ?_ | refine ja ?_ | refine jb ?_ | refine jc ?_ | refine jd ?_ | refine je ?_ | refine jf ?_ | refine jg ?_ | refine jh ?_ | refine ji ?_ | refine jj ?_ | refine jk ?_ | refine jn ?_ | refine jo ?_ | refine jp ?_ | refine jq ?_ | refine jr ?_ | refine js ?_ | refine callK_intro (cP) ?_ | refine jt ?_ | refine jx ?_ | refine jy ?_ | refine ju ?_ | refine jv ?_)) <;> (try (conv => whnf))
theorem c_rOpenSafe (b : List UInt8) {m : Nat} (hm : m = b.length) (hb : b.length ≤ 90000) (k : Int) : Fn Try.prog 32 [.o (.sl (b.map u8) m), .o (.i .u64 k)] [] (.tup [.c (.a [.sl ((openS b k).1.1.map u8) (openS b k).1.1.length, .i .i64 (openS b k).1.2.1, .i .i64 (openS b k).1.2.2.1, .i .i64 (openS b k).1.2.2.2]), .c (.o (.i .i64 (openS b k).2))]) [] := by
  have c := c_ropen7 b hm hb k
  generalize openS b k = R at *
  refine Fn_intro (G := g32) (goodA rfl) (fn := Try.f32) rfl rfl rfl rfl rfl ?_
  (repeat' ((conv => whnf) <;> first | exact rfl | with_reducible refine boolK_dec (fun _ => ?_) (fun _ => ?_) <;> try (exfalso; omega) | refine boolK_beq (fun _ => ?_) (fun _ => ?_) <;> try (exfalso; first | omega | contradiction) | refine boolK_bne (fun _ => ?_) (fun _ => ?_) <;> try (exfalso; first | omega | contradiction) | (with_reducible first | refine boolK_not ?_ | refine boolK_and ?_ | refine boolK_or ?_ | refine boolK_true ?_ | refine boolK_false ?_) | refine boolK_intro (fun _ => ?_) (fun _ => ?_) <;> try (exfalso; simp_all; done) | with_reducible refine natK_lit ?_ | refine natK_of rfl ?_ | refine natK_any ?_ | refine jP ?_ | refine jQ ?_ | refine jR ?_ | refine jS ?_ | refine jT ?_ | refine jU (fun _ => ?_) | refine jV ?_ | refine jW ?_ | refine jX ?_ | refine jY ?_ | refine jZ ?_ | refine ja ?_ | refine jb ?_ | refine jc ?_ | refine jd ?_ | refine je ?_ | refine jf ?_ | refine jg ?_ | refine jh ?_ | refine ji ?_ | refine jj ?_ | refine jk ?_ | refine jn ?_ | refine jo ?_ | refine jp ?_ | refine jq ?_ | refine jr ?_ | refine js ?_ | refine callK_intro (c) ?_ | refine jt ?_ | refine jx ?_ | refine jy ?_ | refine ju ?_ | refine jv ?_)) <;> (try (conv => whnf))
end Go.Sx

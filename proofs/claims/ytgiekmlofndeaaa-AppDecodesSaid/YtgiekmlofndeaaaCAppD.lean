/-
  Contracts of the decoders of package appmessage.
-/
import Derived.Test.YtgiekmlofndeaaaCApp
set_option linter.all false
namespace Go.Sx
open Go.Proofs Go.RowKit
noncomputable def g66 : Par := par 69 (nthLL [[0, 2], [0, 2, 4], [0, 2, 4], [0, 2, 4, 5], [0, 2, 4], [0, 2, 4, 8], [0, 2, 4, 8], [0, 2, 4, 8], [0, 2, 4, 6, 8], [0, 2, 4, 6, 7, 8], [0, 2, 4, 7, 8], [2, 4, 8], [2, 3]]) [2, 3, 8] (nthLL [])
noncomputable def g24 : Par := par 40 (nthLL [[0, 2], [0, 2, 5], [0, 2, 5, 17], [2, 3], [0, 2, 6], [0, 2, 6, 8, 9], [2, 6, 37], [2, 3], [2, 3]]) [2, 3, 5] (nthLL [])
noncomputable def g27 : Par := par 74 (nthLL [[0, 2], [0, 2, 4, 5], [0, 2, 4, 5, 17], [2, 3], [0, 2, 4, 6], [0, 2, 4, 6], [0, 2, 4, 6, 7], [0, 2, 6, 7], [0, 2, 6, 7], [0, 2, 6, 7], [0, 2, 6], [0, 2, 6, 8, 9], [2, 6, 71], [2, 3], [2, 3]]) [2, 3, 5] (nthLL [])
noncomputable def g30 : Par := par 52 (nthLL [[0, 1, 4], [0, 1, 4, 6], [0, 1, 4, 6, 7], [0, 1, 4, 6, 7], [0, 1, 4, 6, 7], [0, 1, 4, 6], [0, 4, 6, 8, 9], [4, 6, 49], [4, 5], [4, 5]]) [4, 5] (nthLL [])
noncomputable def g32 : Par := par 55 (nthLL [[0], [0, 5, 6], [0, 5, 6, 22], [2, 3, 4], [0, 5, 7, 8], [0, 5, 10], [0, 5, 10, 13, 14], [5, 10, 52], [2, 3, 4], [2, 3, 4]]) [2, 3, 4, 5, 6, 10] (nthLL [])
set_option maxRecDepth 10000
set_option maxHeartbeats 4000000
theorem c_readAp (b : List UInt8) {m : Nat} (hm : m = b.length) (hb : b.length ≤ 90000) : Fn Try.prog 66 [.o (.sl (b.map u8) m)] [] (.tup [.c (.a [.b (apRd b).1, .b (apRd b).2.1, .i .i64 (apRd b).2.2.1, .s (apRd b).2.2.2.1, .sl ((apRd b).2.2.2.2.1.map u8) (apRd b).2.2.2.2.1.length, .sl ((apRd b).2.2.2.2.2.map u8) (apRd b).2.2.2.2.2.length]), .c (.o (.i .i64 (apu5 b).2.1))]) [] := by
  have cR := c_read b hm
  have c0 := c_Octet b hm (by omega) 2 (by omega)
  have n0 := get_next false 1 b 2
  rw [show getS false 1 b 2 = apu0  b from rfl] at c0 n0
  have c1 := c_Text b hm (by omega) (apu0  b).2.1 (by omega)
  have n1 := text_next b (apu0  b).2.1
  have l1 := text_len b (apu0  b).2.1
  rw [show textS b (apu0  b).2.1 = apu1  b from rfl] at c1 n1 l1
  have c2 := c_Octet b hm (by omega) (apu1  b).2.1 (by omega)
  have n2 := get_next false 1 b (apu1  b).2.1
  rw [show getS false 1 b (apu1  b).2.1 = apu2  b from rfl] at c2 n2
  have c3 := c_Octet b hm (by omega) (apu2  b).2.1 (by omega)
  have n3 := get_next false 1 b (apu2  b).2.1
  rw [show getS false 1 b (apu2  b).2.1 = apu3  b from rfl] at c3 n3
  have c4 := c_Bytes b hm (by omega) (apu3  b).2.1 (apu2  b).1 (by omega)
  have n4 := bytes_next b (apu3  b).2.1 (apu2  b).1
  have l4 := bytesS_le b (apu3  b).2.1 (apu2  b).1
  rw [show bytesS b (apu3  b).2.1 (apu2  b).1 = apu4  b from rfl] at c4 n4 l4
  have c5 := c_Bytes b hm (by omega) (apu4  b).2.1 (apu3  b).1 (by omega)
  have n5 := bytes_next b (apu4  b).2.1 (apu3  b).1
  have l5 := bytesS_le b (apu4  b).2.1 (apu3  b).1
  rw [show bytesS b (apu4  b).2.1 (apu3  b).1 = apu5  b from rfl] at c5 n5 l5
  refine Fn_intro (G := g66) (goodA rfl) (fn := Try.f66) rfl rfl rfl rfl rfl ?_
  rw [apRd]
  generalize apu5  b = U5 at *
  generalize apu4  b = U4 at *
  generalize apu3  b = U3 at *
  generalize apu2  b = U2 at *
  generalize apu1  b = U1 at *
  generalize apu0  b = U0 at *
  generalize readS b = Q at *
  (repeat' ((conv => whnf) <;> first | exact rfl | with_reducible refine boolK_dec (fun _ => ?_) (fun _ => ?_) <;> try (exfalso; omega) | refine boolK_beq (fun _ => ?_) (fun _ => ?_) <;> try (exfalso; first | omega | contradiction) | refine boolK_bne (fun _ => ?_) (fun _ => ?_) <;> try (exfalso; first | omega | contradiction) | (with_reducible first | refine boolK_not ?_ | refine boolK_and ?_ | refine boolK_or ?_ | refine boolK_true ?_ | refine boolK_false ?_) | refine boolK_intro (fun _ => ?_) (fun _ => ?_) <;> try (exfalso; simp_all; done) | with_reducible refine natK_lit ?_ | refine natK_of rfl ?_ | refine natK_any ?_ | refine jP ?_ | refine jQ ?_ | refine jR ?_ | refine jS ?_ | refine jT ?_ | refine jU (fun _ => ?_) | refine jV ?_ | refine jW ?_ | refine jX ?_ | refine jY ?_ | refine jZ ?_ | refine ja ?_ | refine jb ?_ | refine jc ?_ | refine jd ?_ | refine je ?_ | refine jf ?_ | refine jg ?_ | refine jh ?_ | refine ji ?_ | refine jj ?_ | refine jk ?_ | refine jn ?_ | refine jo ?_ | refine jp ?_ | refine jq ?_ | refine jr ?_ | refine js ?_ | refine callK_intro (cR) ?_ | refine callK_intro (c0) ?_ | refine callK_intro (c1) ?_ | refine callK_intro (c2) ?_ | refine callK_intro (c3) ?_ | refine callK_intro (c4) ?_ | refine callK_intro (c5) ?_ | refine jt ?_ | refine jx ?_ | refine jy ?_ | refine ju ?_ | refine jv ?_)) <;> (try (conv => whnf))
theorem apRd_len (b : List UInt8) : (apRd b).2.2.2.1.length ≤ 40 ∧ (apRd b).2.2.2.2.1.length ≤ b.length ∧ (apRd b).2.2.2.2.2.length ≤ b.length := ⟨text_len _ _, bytesS_le _ _ _, bytesS_le _ _ _⟩
theorem c_DecodeAp (b : List UInt8) {m : Nat} (hm : m = b.length) (hb : b.length ≤ 90000) : Fn Try.prog 24 [.o (.sl (b.map u8) m)] [] (.tup [.c (.a [.b (apD b).1.1, .b (apD b).1.2.1, .i .i64 (apD b).1.2.2.1, .s (apD b).1.2.2.2.1, .sl ((apD b).1.2.2.2.2.1.map u8) (apD b).1.2.2.2.2.1.length, .sl ((apD b).1.2.2.2.2.2.map u8) (apD b).1.2.2.2.2.2.length]), .c (.o (.i .i64 (apD b).2))]) [] := by
  have cI := c_is b hm [3, 4] rfl (by decide)
  have cR := c_readAp b hm hb
  obtain ⟨l1, l2, l3⟩ := apRd_len b
  have dh := @apD_head b
  have dy := @apD_yes b
  have dn := @apD_no b
  rw [ap0] at dh dn
  generalize apD b = R at *
  generalize isS b [3, 4] = I at *
  generalize apRd b = X at *
  have cE := c_EncodeAp X.1 X.2.1 X.2.2.1 X.2.2.2.1 X.2.2.2.2.1 X.2.2.2.2.2 (by omega) (by omega) (by omega)
  rw [show (X.1, X.2.1, X.2.2.1, X.2.2.2.1, X.2.2.2.2.1, X.2.2.2.2.2) = X from rfl] at cE
  generalize apN X = E at *
  refine Fn_intro (G := g24) (goodA rfl) (fn := Try.f24) rfl rfl rfl rfl rfl ?_
  (repeat' ((conv => whnf) <;> first | exact rfl | with_reducible refine boolK_dec (fun _ => ?_) (fun _ => ?_) <;> try (exfalso; omega) | refine boolK_beq (fun _ => ?_) (fun _ => ?_) <;> try (exfalso; first | omega | contradiction) | refine boolK_bne (fun _ => ?_) (fun _ => ?_) <;> try (exfalso; first | omega | contradiction) | (with_reducible first | refine boolK_not ?_ | refine boolK_and ?_ | refine boolK_or ?_ | refine boolK_true ?_ | refine boolK_false ?_) | refine boolK_intro (fun _ => ?_) (fun _ => ?_) <;> try (exfalso; simp_all; done) | with_reducible refine natK_lit ?_ | refine natK_of rfl ?_ | refine natK_any ?_ | refine jP ?_ | refine jQ ?_ | refine jR ?_ | refine jS ?_ | refine jT ?_ | refine jU (fun _ => ?_) | refine jV ?_ | refine jW ?_ | refine jX ?_ | refine jY ?_ | refine jZ ?_ | refine ja ?_ | refine jb ?_ | refine jc ?_ | refine jd ?_ | refine je ?_ | refine jf ?_ | refine jg ?_ | refine jh ?_ | refine ji ?_ | refine jj ?_ | refine jk ?_ | refine jn ?_ | refine jo ?_ | refine jp ?_ | refine jq ?_ | refine jr ?_ | refine js ?_ | refine callK_intro (cI) ?_ | refine callK_intro (cR) ?_ | refine callK_intro (cE) ?_ | refine callK_intro (c_Equal _ _ rfl hm) ?_ | refine jt ?_ | refine jx ?_ | refine jy ?_ | refine ju ?_ | refine sideK_intro (by first | (rw [dh (by assumption)] <;> first | rfl | exact ⟨rfl, rfl⟩ | exact ⟨rfl, rfl, rfl⟩) | (rw [dn (by assumption) (.inl (by assumption))] <;> first | rfl | exact ⟨rfl, rfl⟩ | exact ⟨rfl, rfl, rfl⟩) | (rw [dn (by assumption) (.inr (by assumption))] <;> first | rfl | exact ⟨rfl, rfl⟩ | exact ⟨rfl, rfl, rfl⟩) | (rw [dy (by assumption) (by assumption) (by assumption)] <;> first | rfl | exact ⟨rfl, rfl⟩ | exact ⟨rfl, rfl, rfl⟩)) ?_ | refine jv ?_)) <;> (try (conv => whnf))
theorem c_DecodeTgs (b : List UInt8) {m : Nat} (hm : m = b.length) (hb : b.length ≤ 90000) : Fn Try.prog 27 [.o (.sl (b.map u8) m)] [] (.tup [.c (.a [.b (tgD b).1.1.1, .b (tgD b).1.1.2.1, .i .i64 (tgD b).1.1.2.2.1, .s (tgD b).1.1.2.2.2.1, .sl ((tgD b).1.1.2.2.2.2.1.map u8) (tgD b).1.1.2.2.2.2.1.length, .sl ((tgD b).1.1.2.2.2.2.2.map u8) (tgD b).1.1.2.2.2.2.2.length, .i .i64 (tgD b).1.2.1, .i .i64 (tgD b).1.2.2.1, .s (tgD b).1.2.2.2.1, .s (tgD b).1.2.2.2.2]), .c (.o (.i .i64 (tgD b).2))]) [] := by
  have cI := c_is b hm [3] rfl (by decide)
  have cR := c_readAp b hm hb
  obtain ⟨l1', l2', l3'⟩ := apRd_len b
  have n' := bytes_next b (apu4 b).2.1 (apu3 b).1
  rw [show bytesS b (apu4 b).2.1 (apu3 b).1 = apu5 b from rfl] at n'
  have dh := @tgD_head b
  have dy := @tgD_yes b
  have dn := @tgD_no b
  rw [tg0, ap0] at dh dn
  rw [tgRd] at dy dn
  generalize tgD b = R at *
  generalize hI : isS b [3] = I at *
  have c0 := c_Number b hm (by omega) (apu5 b).2.1 (by omega) I.1
  have n0 := get_next I.1 4 b (apu5 b).2.1
  rw [show getS I.1 4 b (apu5 b).2.1 = tgu0 I.1 b from rfl] at c0 n0
  have c1 := c_Octet b hm (by omega) (tgu0 I.1 b).2.1 (by omega)
  have n1 := get_next false 1 b (tgu0 I.1 b).2.1
  rw [show getS false 1 b (tgu0 I.1 b).2.1 = tgu1 I.1 b from rfl] at c1 n1
  have c2 := c_Text b hm (by omega) (tgu1 I.1 b).2.1 (by omega)
  have n2 := text_next b (tgu1 I.1 b).2.1
  have l2 := text_len b (tgu1 I.1 b).2.1
  rw [show textS b (tgu1 I.1 b).2.1 = tgu2 I.1 b from rfl] at c2 n2 l2
  have c3 := c_Text b hm (by omega) (tgu2 I.1 b).2.1 (by omega)
  have n3 := text_next b (tgu2 I.1 b).2.1
  have l3 := text_len b (tgu2 I.1 b).2.1
  rw [show textS b (tgu2 I.1 b).2.1 = tgu3 I.1 b from rfl] at c3 n3 l3
  have cE := c_EncodeTgs (apRd b).1 (apRd b).2.1 (apRd b).2.2.1 (tgu0 I.1 b).1 (tgu1 I.1 b).1 (apRd b).2.2.2.1 (apRd b).2.2.2.2.1 (apRd b).2.2.2.2.2 (tgu2 I.1 b).1 (tgu3 I.1 b).1 (by omega) (by omega) (by omega) (by omega) (by omega)
  rw [show ((apRd b).1, (apRd b).2.1, (apRd b).2.2.1, (apRd b).2.2.2.1, (apRd b).2.2.2.2.1, (apRd b).2.2.2.2.2) = apRd b from rfl] at cE
  generalize tgN (apRd b, (tgu0 I.1 b).1, (tgu1 I.1 b).1, (tgu2 I.1 b).1, (tgu3 I.1 b).1) = E at *
  generalize tgu3 I.1 b = U3 at *
  generalize tgu2 I.1 b = U2 at *
  generalize tgu1 I.1 b = U1 at *
  generalize tgu0 I.1 b = U0 at *
  generalize apRd b = X at *
  generalize apu5 b = A5 at *
  clear n0 n1 n2 n3
  refine Fn_intro (G := g27) (goodA rfl) (fn := Try.f27) rfl rfl rfl rfl rfl ?_
  (repeat' ((conv => whnf) <;> first | exact rfl | with_reducible refine boolK_dec (fun _ => ?_) (fun _ => ?_) <;> try (exfalso; omega) | refine boolK_beq (fun _ => ?_) (fun _ => ?_) <;> try (exfalso; first | omega | contradiction) | refine boolK_bne (fun _ => ?_) (fun _ => ?_) <;> try (exfalso; first | omega | contradiction) | (with_reducible first | refine boolK_not ?_ | refine boolK_and ?_ | refine boolK_or ?_ | refine boolK_true ?_ | refine boolK_false ?_) | refine boolK_intro (fun _ => ?_) (fun _ => ?_) <;> try (exfalso; simp_all; done) | with_reducible refine natK_lit ?_ | refine natK_of rfl ?_ | refine natK_any ?_ | refine jP ?_ | refine jQ ?_ | refine jR ?_ | refine jS ?_ | refine jT ?_ | refine jU (fun _ => ?_) | refine jV ?_ | refine jW ?_ | refine jX ?_ | refine jY ?_ | refine jZ ?_ | refine ja ?_ | refine jb ?_ | refine jc ?_ | refine jd ?_ | refine je ?_ | refine jf ?_ | refine jg ?_ | refine jh ?_ | refine ji ?_ | refine jj ?_ | refine jk ?_ | refine jn ?_ | refine jo ?_ | refine jp ?_ | refine jq ?_ | refine jr ?_ | refine js ?_ | refine callK_intro (cI) ?_ | refine callK_intro (cR) ?_ | refine callK_intro (c0) ?_ | refine callK_intro (c1) ?_ | refine callK_intro (c2) ?_ | refine callK_intro (c3) ?_ | refine callK_intro (cE) ?_ | refine callK_intro (c_Equal _ _ rfl hm) ?_ | refine jt ?_ | refine jx ?_ | refine jy ?_ | refine ju ?_ | refine sideK_intro (by first | (rw [dh (by assumption)] <;> first | rfl | exact ⟨rfl, rfl⟩ | exact ⟨rfl, rfl, rfl⟩) | (rw [dn (by assumption) (.inl (by assumption))] <;> first | rfl | exact ⟨rfl, rfl⟩ | exact ⟨rfl, rfl, rfl⟩) | (rw [dn (by assumption) (.inr (by assumption))] <;> first | rfl | exact ⟨rfl, rfl⟩ | exact ⟨rfl, rfl, rfl⟩) | (rw [dy (by assumption) (by assumption) (by assumption)] <;> first | rfl | exact ⟨rfl, rfl⟩ | exact ⟨rfl, rfl, rfl⟩)) ?_ | refine jv ?_)) <;> (try (conv => whnf))
theorem c_DecodeMutual (b : List UInt8) {m : Nat} (hm : m = b.length) (hb : b.length ≤ 90000) (l : Bool) : Fn Try.prog 30 [.o (.sl (b.map u8) m), .o (.b l)] [] (.tup [.c (.a [.i .i64 (mtD l b).1.1, .i .i64 (mtD l b).1.2.1, .i .i64 (mtD l b).1.2.2]), .c (.o (.i .i64 (mtD l b).2))]) [] := by
  have c0 := c_Number b hm (by omega) 1 (by omega) l
  have n0 := get_next l 4 b 1
  rw [show getS l 4 b 1 = mtu0 l b from rfl] at c0 n0
  have c1 := c_Octet b hm (by omega) (mtu0 l b).2.1 (by omega)
  have n1 := get_next false 1 b (mtu0 l b).2.1
  rw [show getS false 1 b (mtu0 l b).2.1 = mtu1 l b from rfl] at c1 n1
  have c2 := c_Number b hm (by omega) (mtu1 l b).2.1 (by omega) l
  have n2 := get_next l 4 b (mtu1 l b).2.1
  rw [show getS l 4 b (mtu1 l b).2.1 = mtu2 l b from rfl] at c2 n2
  have dy := @mtD_yes l b
  have dn := @mtD_no l b
  rw [mt0] at dn
  rw [mtRd] at dy dn
  have cE := c_EncodeMutual l (mtu0 l b).1 (mtu1 l b).1 (mtu2 l b).1
  generalize mtD l b = R at *
  generalize mtN l ((mtu0 l b).1, (mtu1 l b).1, (mtu2 l b).1) = E at *
  generalize mtu2 l b = U2 at *
  generalize mtu1 l b = U1 at *
  generalize mtu0 l b = U0 at *
  refine Fn_intro (G := g30) (goodA rfl) (fn := Try.f30) rfl rfl rfl rfl rfl ?_
  (repeat' ((conv => whnf) <;> first | exact rfl | with_reducible refine boolK_dec (fun _ => ?_) (fun _ => ?_) <;> try (exfalso; omega) | refine boolK_beq (fun _ => ?_) (fun _ => ?_) <;> try (exfalso; first | omega | contradiction) | refine boolK_bne (fun _ => ?_) (fun _ => ?_) <;> try (exfalso; first | omega | contradiction) | (with_reducible first | refine boolK_not ?_ | refine boolK_and ?_ | refine boolK_or ?_ | refine boolK_true ?_ | refine boolK_false ?_) | refine boolK_intro (fun _ => ?_) (fun _ => ?_) <;> try (exfalso; simp_all; done) | with_reducible refine natK_lit ?_ | refine natK_of rfl ?_ | refine natK_any ?_ | refine jP ?_ | refine jQ ?_ | refine jR ?_ | refine jS ?_ | refine jT ?_ | refine jU (fun _ => ?_) | refine jV ?_ | refine jW ?_ | refine jX ?_ | refine jY ?_ | refine jZ ?_ | refine ja ?_ | refine jb ?_ | refine jc ?_ | refine jd ?_ | refine je ?_ | refine jf ?_ | refine jg ?_ | refine jh ?_ | refine ji ?_ | refine jj ?_ | refine jk ?_ | refine jn ?_ | refine jo ?_ | refine jp ?_ | refine jq ?_ | refine jr ?_ | refine js ?_ | refine callK_intro (c0) ?_ | refine callK_intro (c1) ?_ | refine callK_intro (c2) ?_ | refine callK_intro (cE) ?_ | refine callK_intro (c_Equal _ _ rfl hm) ?_ | refine jt ?_ | refine jx ?_ | refine jy ?_ | refine ju ?_ | refine sideK_intro (by first | (rw [dn (.inl (by assumption))] <;> first | rfl | exact ⟨rfl, rfl⟩ | exact ⟨rfl, rfl, rfl⟩) | (rw [dn (.inr (by assumption))] <;> first | rfl | exact ⟨rfl, rfl⟩ | exact ⟨rfl, rfl, rfl⟩) | (rw [dy (by assumption) (by assumption)] <;> first | rfl | exact ⟨rfl, rfl⟩ | exact ⟨rfl, rfl, rfl⟩)) ?_ | refine jv ?_)) <;> (try (conv => whnf))
theorem c_DecodeAnswer (b : List UInt8) {m : Nat} (hm : m = b.length) (hb : b.length ≤ 90000) : Fn Try.prog 32 [.o (.sl (b.map u8) m)] [] (.tup [.c (.o (.sl ((anD b).1.1.map u8) (anD b).1.1.length)), .c (.o (.b (anD b).1.2)), .c (.o (.i .i64 (anD b).2))]) [] := by
  have cI := c_is b hm [8] rfl (by decide)
  have dh := @anD_head b
  have dy := @anD_yes b
  have dn := @anD_no b
  rw [an0] at dh dn
  rw [anRd] at dy dn
  generalize anD b = R at *
  generalize hI : isS b [8] = I at *
  have c0 := c_Short b hm (by omega) 2 (by omega) I.1
  have n0 := get_next I.1 2 b 2
  rw [show getS I.1 2 b 2 = anu0 I.1 b from rfl] at c0 n0
  have c1 := c_Bytes b hm (by omega) (anu0 I.1 b).2.1 (anu0 I.1 b).1 (by omega)
  have n1 := bytes_next b (anu0 I.1 b).2.1 (anu0 I.1 b).1
  have l1 := bytesS_le b (anu0 I.1 b).2.1 (anu0 I.1 b).1
  rw [show bytesS b (anu0 I.1 b).2.1 (anu0 I.1 b).1 = anu1 I.1 b from rfl] at c1 n1 l1
  have cE := c_EncodeAnswer (anu1 I.1 b).1 rfl (by omega) I.1
  generalize anN ((anu1 I.1 b).1, I.1) = E at *
  generalize anu1 I.1 b = U1 at *
  generalize anu0 I.1 b = U0 at *
  refine Fn_intro (G := g32) (goodA rfl) (fn := Try.f32) rfl rfl rfl rfl rfl ?_
  (repeat' ((conv => whnf) <;> first | exact rfl | with_reducible refine boolK_dec (fun _ => ?_) (fun _ => ?_) <;> try (exfalso; omega) | refine boolK_beq (fun _ => ?_) (fun _ => ?_) <;> try (exfalso; first | omega | contradiction) | refine boolK_bne (fun _ => ?_) (fun _ => ?_) <;> try (exfalso; first | omega | contradiction) | (with_reducible first | refine boolK_not ?_ | refine boolK_and ?_ | refine boolK_or ?_ | refine boolK_true ?_ | refine boolK_false ?_) | refine boolK_intro (fun _ => ?_) (fun _ => ?_) <;> try (exfalso; simp_all; done) | with_reducible refine natK_lit ?_ | refine natK_of rfl ?_ | refine natK_any ?_ | refine jP ?_ | refine jQ ?_ | refine jR ?_ | refine jS ?_ | refine jT ?_ | refine jU (fun _ => ?_) | refine jV ?_ | refine jW ?_ | refine jX ?_ | refine jY ?_ | refine jZ ?_ | refine ja ?_ | refine jb ?_ | refine jc ?_ | refine jd ?_ | refine je ?_ | refine jf ?_ | refine jg ?_ | refine jh ?_ | refine ji ?_ | refine jj ?_ | refine jk ?_ | refine jn ?_ | refine jo ?_ | refine jp ?_ | refine jq ?_ | refine jr ?_ | refine js ?_ | refine callK_intro (cI) ?_ | refine callK_intro (c0) ?_ | refine callK_intro (c1) ?_ | refine callK_intro (cE) ?_ | refine callK_intro (c_Equal _ _ rfl hm) ?_ | refine jt ?_ | refine jx ?_ | refine jy ?_ | refine ju ?_ | refine sideK_intro (by first | (rw [dh (by assumption)] <;> first | rfl | exact ⟨rfl, rfl⟩ | exact ⟨rfl, rfl, rfl⟩) | (rw [dn (by assumption) (.inl (by assumption))] <;> first | rfl | exact ⟨rfl, rfl⟩ | exact ⟨rfl, rfl, rfl⟩) | (rw [dn (by assumption) (.inr (by assumption))] <;> first | rfl | exact ⟨rfl, rfl⟩ | exact ⟨rfl, rfl, rfl⟩) | (rw [dy (by assumption) (by assumption) (by assumption)] <;> first | rfl | exact ⟨rfl, rfl⟩ | exact ⟨rfl, rfl, rfl⟩)) ?_ | refine jv ?_)) <;> (try (conv => whnf))
end Go.Sx

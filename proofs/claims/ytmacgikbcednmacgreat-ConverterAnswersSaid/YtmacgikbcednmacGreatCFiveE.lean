/-
  Contracts of the encoders of parts and messages of package five and of its reference.
-/
import Derived.Test.YtmacgikbcednmacGreatCFive
set_option linter.all false
namespace Go.Sx
open Go.Proofs Go.RowKit
noncomputable def g18 : Par := par 42 (nthLL [[1], [1, 5], [2, 3], [1, 19], [2, 3], [1, 24], [2, 3], [1, 4], [1, 4], [1, 4], [2, 3]]) [2, 3] (nthLL [])
noncomputable def g19 : Par := par 37 (nthLL [[1], [1, 12], [2, 3], [1, 16], [2, 3], [1, 20], [2, 3], [1, 4], [1, 4], [2, 3]]) [2, 3, 4] (nthLL [[], [], [], [], [], [], [], [0, 0, 2, 7, 15], [0, 0, 2, 7, 0, 16, 48, 127, 255]])
set_option maxRecDepth 10000
set_option maxHeartbeats 4000000
theorem putS_five : putS 10 false = [4, 20] := by decide
theorem c_EncM (op : Int) (n1 n2 n3 bx : List UInt8) {m : Nat} (hm : m = bx.length) (hl : n1.length ≤ 100000 ∧ n2.length ≤ 100000 ∧ n3.length ≤ 100000 ∧ bx.length ≤ 100000) : Fn Tryz.prog 18 [.a [.i .i64 op, .s n1, .s n2, .s n3, .sl (bx.map u8) m]] [] (.tup [.fr ((fmN ⟨op, n1, n2, n3, bx⟩).1.map u8) (fmN ⟨op, n1, n2, n3, bx⟩).1.length 1, .c (.o (.i .i64 (fmN ⟨op, n1, n2, n3, bx⟩).2))]) [] := by
  subst hm
  have v2 := c_Valid n1 n2 n3 (by omega) (by omega) (by omega)
  have v4 := c_put 10 false
  rw [putS_five] at v4
  have e0 := @fmN_40 ⟨op, n1, n2, n3, bx⟩
  have e1 := @fmN_103 ⟨op, n1, n2, n3, bx⟩
  have e2 := @fmN_105 ⟨op, n1, n2, n3, bx⟩
  have e3 := @fmN_ok ⟨op, n1, n2, n3, bx⟩
  have hB : (fmB ⟨op, n1, n2, n3, bx⟩).length = n1.length + n2.length + n3.length + bx.length + 8 := by
    simp only [fmB, List.length_append, List.length_singleton, List.length_nil, List.length_cons, numS_len, keyB_len]
    omega
  dsimp only at e0 e1 e2 e3
  generalize fmN ⟨op, n1, n2, n3, bx⟩ = N at *
  generalize validS n1 n2 n3 = A2 at *
  refine Fn_intro (G := g18) (goodA rfl) (fn := Tryz.f18) rfl rfl rfl rfl rfl ?_
  by_cases h0 : op = 1 ∨ op = 2 ∨ op = 3
  · cases A2
    · rw [e1 h0 (by simp)]
      (repeat' ((conv => whnf) <;> first | exact rfl | with_reducible refine boolK_dec (fun _ => ?_) (fun _ => ?_) <;> try (exfalso; omega) | refine boolK_beq (fun _ => ?_) (fun _ => ?_) <;> try (exfalso; first | omega | with_reducible contradiction) | refine boolK_bne (fun _ => ?_) (fun _ => ?_) <;> try (exfalso; first | omega | with_reducible contradiction) | (with_reducible first | refine boolK_not ?_ | refine boolK_and ?_ | refine boolK_or ?_ | refine boolK_true ?_ | refine boolK_false ?_) | refine boolK_intro (fun _ => ?_) (fun _ => ?_) <;> try (exfalso; simp_all; done) | with_reducible refine natK_lit ?_ | refine natK_of rfl ?_ | refine natK_any ?_ | refine jn ?_ | refine callK_intro (v2) ?_ | refine jy ?_ | refine ju ?_ | refine jv ?_)) <;> (try (conv => whnf))
    by_cases h2 : bx.length ≤ 1012
    · rw [e3 h0 rfl h2]
      (repeat' ((conv => whnf) <;> first | exact rfl | with_reducible refine boolK_dec (fun _ => ?_) (fun _ => ?_) <;> try (exfalso; omega) | refine boolK_beq (fun _ => ?_) (fun _ => ?_) <;> try (exfalso; first | omega | with_reducible contradiction) | refine boolK_bne (fun _ => ?_) (fun _ => ?_) <;> try (exfalso; first | omega | with_reducible contradiction) | (with_reducible first | refine boolK_not ?_ | refine boolK_and ?_ | refine boolK_or ?_ | refine boolK_true ?_ | refine boolK_false ?_) | refine boolK_intro (fun _ => ?_) (fun _ => ?_) <;> try (exfalso; simp_all; done) | with_reducible refine natK_lit ?_ | refine natK_of rfl ?_ | refine natK_any ?_ | refine jn ?_ | refine callK_intro (v2) ?_ | refine callK_intro (v4) ?_ | refine callK_intro (c_PutOctet [4, 20] rfl (by decide) _) ?_ | refine callK_intro (c_PutPrincipal _ (by first | omega | (simp only [List.length_append, List.length_singleton, List.length_nil, List.length_cons, numS_len, keyB_len] <;> omega)) _ _ _ (by first | omega | (simp only [List.length_append, List.length_singleton, List.length_nil, List.length_cons, numS_len, keyB_len] <;> omega))) ?_ | refine callK_intro (c_putBox _ bx (by first | omega | (simp only [List.length_append, List.length_singleton, List.length_nil, List.length_cons, numS_len, keyB_len] <;> omega)) rfl (by first | omega | (simp only [List.length_append, List.length_singleton, List.length_nil, List.length_cons, numS_len, keyB_len] <;> omega))) ?_ | refine jy ?_ | refine ju ?_ | refine sideK_intro (by first | (exact ⟨rfl, by rw [hB]; first | omega | (simp only [List.length_append, List.length_singleton, List.length_nil, List.length_cons, numS_len, keyB_len]; omega), rfl⟩) | (exact ⟨(by first | omega | (simp only [List.length_append, List.length_singleton, List.length_nil, List.length_cons, numS_len, keyB_len] <;> omega)), by simp⟩)) ?_ | refine jv ?_)) <;> (try (conv => whnf))
    · rw [e2 h0 rfl h2]
      (repeat' ((conv => whnf) <;> first | exact rfl | with_reducible refine boolK_dec (fun _ => ?_) (fun _ => ?_) <;> try (exfalso; omega) | refine boolK_beq (fun _ => ?_) (fun _ => ?_) <;> try (exfalso; first | omega | with_reducible contradiction) | refine boolK_bne (fun _ => ?_) (fun _ => ?_) <;> try (exfalso; first | omega | with_reducible contradiction) | (with_reducible first | refine boolK_not ?_ | refine boolK_and ?_ | refine boolK_or ?_ | refine boolK_true ?_ | refine boolK_false ?_) | refine boolK_intro (fun _ => ?_) (fun _ => ?_) <;> try (exfalso; simp_all; done) | with_reducible refine natK_lit ?_ | refine natK_of rfl ?_ | refine natK_any ?_ | refine jn ?_ | refine callK_intro (v2) ?_ | refine jy ?_ | refine ju ?_ | refine jv ?_)) <;> (try (conv => whnf))
  · rw [e0 h0]
    (repeat' ((conv => whnf) <;> first | exact rfl | with_reducible refine boolK_dec (fun _ => ?_) (fun _ => ?_) <;> try (exfalso; omega) | refine boolK_beq (fun _ => ?_) (fun _ => ?_) <;> try (exfalso; first | omega | with_reducible contradiction) | refine boolK_bne (fun _ => ?_) (fun _ => ?_) <;> try (exfalso; first | omega | with_reducible contradiction) | (with_reducible first | refine boolK_not ?_ | refine boolK_and ?_ | refine boolK_or ?_ | refine boolK_true ?_ | refine boolK_false ?_) | refine boolK_intro (fun _ => ?_) (fun _ => ?_) <;> try (exfalso; simp_all; done) | with_reducible refine natK_lit ?_ | refine natK_of rfl ?_ | refine natK_any ?_ | refine jn ?_ | refine callK_intro (v2) ?_ | refine jy ?_ | refine ju ?_ | refine jv ?_)) <;> (try (conv => whnf))
theorem c_rEncM (op : Int) (n1 n2 n3 bx : List UInt8) {m : Nat} (hm : m = bx.length) (hl : n1.length ≤ 100000 ∧ n2.length ≤ 100000 ∧ n3.length ≤ 100000 ∧ bx.length ≤ 100000) : Fn Tryz.prog 19 [.a [.i .i64 op, .s n1, .s n2, .s n3, .sl (bx.map u8) m]] [] (.tup [.fr ((fmN ⟨op, n1, n2, n3, bx⟩).1.map u8) (fmN ⟨op, n1, n2, n3, bx⟩).1.length 1, .c (.o (.i .i64 (fmN ⟨op, n1, n2, n3, bx⟩).2))]) [] := by
  subst hm
  have v2 := c_rValid n1 n2 n3 (by omega) (by omega) (by omega)
  have v4 := c_rput 10 false
  rw [putS_five] at v4
  have e0 := @fmN_40 ⟨op, n1, n2, n3, bx⟩
  have e1 := @fmN_103 ⟨op, n1, n2, n3, bx⟩
  have e2 := @fmN_105 ⟨op, n1, n2, n3, bx⟩
  have e3 := @fmN_ok ⟨op, n1, n2, n3, bx⟩
  have hB : (fmB ⟨op, n1, n2, n3, bx⟩).length = n1.length + n2.length + n3.length + bx.length + 8 := by
    simp only [fmB, List.length_append, List.length_singleton, List.length_nil, List.length_cons, numS_len, keyB_len]
    omega
  dsimp only at e0 e1 e2 e3
  generalize fmN ⟨op, n1, n2, n3, bx⟩ = N at *
  generalize validS n1 n2 n3 = A2 at *
  refine Fn_intro (G := g19) (goodA rfl) (fn := Tryz.f19) rfl rfl rfl rfl rfl ?_
  by_cases h0 : op = 1 ∨ op = 2 ∨ op = 3
  · cases A2
    · rw [e1 h0 (by simp)]
      (repeat' ((conv => whnf) <;> first | exact rfl | with_reducible refine boolK_dec (fun _ => ?_) (fun _ => ?_) <;> try (exfalso; omega) | refine boolK_beq (fun _ => ?_) (fun _ => ?_) <;> try (exfalso; first | omega | with_reducible contradiction) | refine boolK_bne (fun _ => ?_) (fun _ => ?_) <;> try (exfalso; first | omega | with_reducible contradiction) | (with_reducible first | refine boolK_not ?_ | refine boolK_and ?_ | refine boolK_or ?_ | refine boolK_true ?_ | refine boolK_false ?_) | refine boolK_intro (fun _ => ?_) (fun _ => ?_) <;> try (exfalso; simp_all; done) | with_reducible refine natK_lit ?_ | refine natK_of rfl ?_ | refine natK_any ?_ | refine jP ?_ | refine jQ ?_ | refine jR ?_ | refine jS ?_ | refine jT ?_ | refine jU (fun _ => ?_) | refine jV ?_ | refine jX ?_ | refine jY ?_ | refine jZ ?_ | refine ja ?_ | refine jb ?_ | refine jc ?_ | refine jd ?_ | refine jn ?_ | refine jo ?_ | refine jp ?_ | refine jq ?_ | refine jr ?_ | refine js ?_ | refine callK_intro (v2) ?_ | refine jt ?_ | refine jy ?_ | refine ju ?_ | refine jv ?_)) <;> (try (conv => whnf))
    by_cases h2 : bx.length ≤ 1012
    · rw [e3 h0 rfl h2]
      (repeat' ((conv => whnf) <;> first | exact rfl | with_reducible refine boolK_dec (fun _ => ?_) (fun _ => ?_) <;> try (exfalso; omega) | refine boolK_beq (fun _ => ?_) (fun _ => ?_) <;> try (exfalso; first | omega | with_reducible contradiction) | refine boolK_bne (fun _ => ?_) (fun _ => ?_) <;> try (exfalso; first | omega | with_reducible contradiction) | (with_reducible first | refine boolK_not ?_ | refine boolK_and ?_ | refine boolK_or ?_ | refine boolK_true ?_ | refine boolK_false ?_) | refine boolK_intro (fun _ => ?_) (fun _ => ?_) <;> try (exfalso; simp_all; done) | with_reducible refine natK_lit ?_ | refine natK_of rfl ?_ | refine natK_any ?_ | refine jP ?_ | refine jQ ?_ | refine jR ?_ | refine jS ?_ | refine jT ?_ | refine jU (fun _ => ?_) | refine jV ?_ | refine jX ?_ | refine jY ?_ | refine jZ ?_ | refine ja ?_ | refine jb ?_ | refine jc ?_ | refine jd ?_ | refine jn ?_ | refine jo ?_ | refine jp ?_ | refine jq ?_ | refine jr ?_ | refine js ?_ | refine callK_intro (v2) ?_ | refine callK_intro (v4) ?_ | refine callK_intro (c_rPutOctet [4, 20] rfl (by decide) _) ?_ | refine callK_intro (c_rPutPrincipal _ (by first | omega | (simp only [List.length_append, List.length_singleton, List.length_nil, List.length_cons, numS_len, keyB_len] <;> omega)) _ _ _ (by first | omega | (simp only [List.length_append, List.length_singleton, List.length_nil, List.length_cons, numS_len, keyB_len] <;> omega))) ?_ | refine callK_intro (c_rPutShort _ (by first | omega | (simp only [List.length_append, List.length_singleton, List.length_nil, List.length_cons, numS_len, keyB_len] <;> omega)) (by first | omega | (simp only [List.length_append, List.length_singleton, List.length_nil, List.length_cons, numS_len, keyB_len] <;> omega)) _ _) ?_ | refine jt ?_ | refine jy ?_ | refine ju ?_ | refine sideK_intro (by first | (exact ⟨rfl, by rw [hB]; first | omega | (simp only [List.length_append, List.length_singleton, List.length_nil, List.length_cons, numS_len, keyB_len]; omega), rfl⟩) | (exact ⟨(by first | omega | (simp only [List.length_append, List.length_singleton, List.length_nil, List.length_cons, numS_len, keyB_len] <;> omega)), by simp⟩)) ?_ | refine jv ?_)) <;> (try (conv => whnf))
    · rw [e2 h0 rfl h2]
      (repeat' ((conv => whnf) <;> first | exact rfl | with_reducible refine boolK_dec (fun _ => ?_) (fun _ => ?_) <;> try (exfalso; omega) | refine boolK_beq (fun _ => ?_) (fun _ => ?_) <;> try (exfalso; first | omega | with_reducible contradiction) | refine boolK_bne (fun _ => ?_) (fun _ => ?_) <;> try (exfalso; first | omega | with_reducible contradiction) | (with_reducible first | refine boolK_not ?_ | refine boolK_and ?_ | refine boolK_or ?_ | refine boolK_true ?_ | refine boolK_false ?_) | refine boolK_intro (fun _ => ?_) (fun _ => ?_) <;> try (exfalso; simp_all; done) | with_reducible refine natK_lit ?_ | refine natK_of rfl ?_ | refine natK_any ?_ | refine jP ?_ | refine jQ ?_ | refine jR ?_ | refine jS ?_ | refine jT ?_ | refine jU (fun _ => ?_) | refine jV ?_ | refine jX ?_ | refine jY ?_ | refine jZ ?_ | refine ja ?_ | refine jb ?_ | refine jc ?_ | refine jd ?_ | refine jn ?_ | refine jo ?_ | refine jp ?_ | refine jq ?_ | refine jr ?_ | refine js ?_ | refine callK_intro (v2) ?_ | refine jt ?_ | refine jy ?_ | refine ju ?_ | refine jv ?_)) <;> (try (conv => whnf))
  · rw [e0 h0]
    (repeat' ((conv => whnf) <;> first | exact rfl | with_reducible refine boolK_dec (fun _ => ?_) (fun _ => ?_) <;> try (exfalso; omega) | refine boolK_beq (fun _ => ?_) (fun _ => ?_) <;> try (exfalso; first | omega | with_reducible contradiction) | refine boolK_bne (fun _ => ?_) (fun _ => ?_) <;> try (exfalso; first | omega | with_reducible contradiction) | (with_reducible first | refine boolK_not ?_ | refine boolK_and ?_ | refine boolK_or ?_ | refine boolK_true ?_ | refine boolK_false ?_) | refine boolK_intro (fun _ => ?_) (fun _ => ?_) <;> try (exfalso; simp_all; done) | with_reducible refine natK_lit ?_ | refine natK_of rfl ?_ | refine natK_any ?_ | refine jP ?_ | refine jQ ?_ | refine jR ?_ | refine jS ?_ | refine jT ?_ | refine jU (fun _ => ?_) | refine jV ?_ | refine jX ?_ | refine jY ?_ | refine jZ ?_ | refine ja ?_ | refine jb ?_ | refine jc ?_ | refine jd ?_ | refine jn ?_ | refine jo ?_ | refine jp ?_ | refine jq ?_ | refine jr ?_ | refine js ?_ | refine callK_intro (v2) ?_ | refine jt ?_ | refine jy ?_ | refine ju ?_ | refine jv ?_)) <;> (try (conv => whnf))
end Go.Sx

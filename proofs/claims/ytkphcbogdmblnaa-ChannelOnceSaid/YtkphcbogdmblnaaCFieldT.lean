/-
  Contracts of the functions of package field on texts and padding, and of its reference.
-/
import Derived.Test.YtkphcbogdmblnaaCFieldR
set_option linter.all false
namespace Go.Sx
open Go.Proofs Go.RowKit
noncomputable def g86 : Par := par 15 (nthLL [[0], [3], [3, 10], [3], [2]]) [2, 3] (nthLL [])
noncomputable def g76 : Par := par 14 (nthLL [[0], [0, 3], [2]]) [2] (nthLL [])
set_option maxRecDepth 10000
set_option maxHeartbeats 2000000
theorem c_rPad (b : List UInt8) {m : Nat} (hm : m = b.length) (hb : b.length ≤ 900000) : Fn Try.prog 86 [.o (.sl (b.map u8) m)] [] (.one (.fr ((padS b).map u8) (padS b).length 1)) [] := by
  subst hm
  refine Fn_intro (G := g86) (goodA rfl) (fn := Try.f86) rfl rfl rfl rfl rfl ?_
  (repeat' ((conv => whnf) <;> first | exact rfl | with_reducible refine boolK_dec (fun _ => ?_) (fun _ => ?_) <;> try (exfalso; omega) | refine boolK_beq (fun _ => ?_) (fun _ => ?_) <;> try (exfalso; first | omega | contradiction) | refine boolK_bne (fun _ => ?_) (fun _ => ?_) <;> try (exfalso; first | omega | contradiction) | (with_reducible first | refine boolK_not ?_ | refine boolK_and ?_ | refine boolK_or ?_ | refine boolK_true ?_ | refine boolK_false ?_) | refine boolK_intro (fun _ => ?_) (fun _ => ?_) <;> try (exfalso; simp_all; done) | with_reducible refine natK_lit ?_ | refine natK_of rfl ?_ | refine natK_any ?_ | refine jO ?_ | refine jP ?_ | refine jQ ?_ | refine jR ?_ | refine jS ?_ | refine jT ?_ | refine jU (fun _ => ?_) | refine jV ?_ | refine jW ?_ | refine jX ?_ | refine jY ?_ | refine jZ ?_ | refine ja ?_ | refine jb ?_ | refine jc ?_ | refine jd ?_ | refine je ?_ | refine jf ?_ | refine jg ?_ | refine jh ?_ | refine ji ?_ | refine jj ?_ | refine jk ?_ | refine jn ?_ | refine jo ?_ | refine jp ?_ | refine jq ?_ | refine jr ?_ | refine js ?_ | refine jt ?_ | refine jx ?_ | refine jy ?_ | refine ju ?_ | refine jv ?_)) <;> (try (conv => whnf))
  refine loopK_inv (G := g86) (fun n st => ∃ (j m : Nat), n + j = padN b.length ∧ m = b.length + j ∧
    st = ⟨[(3, .c (.o (.gw 3 m 1)))], [(3, .ar ((b ++ List.replicate j 0).map u8))]⟩) (n := padN b.length) ⟨0, b.length, by omega, by omega, by simp⟩ ?_
  rintro n st ⟨j, m, hj, hm, rfl⟩
  have := padN_lt b.length
  have hp : padN b.length = (8 - b.length % 8) % 8 := rfl
  (repeat' ((conv => whnf) <;> first | exact rfl | with_reducible refine boolK_dec (fun _ => ?_) (fun _ => ?_) <;> try (exfalso; omega) | refine boolK_beq (fun _ => ?_) (fun _ => ?_) <;> try (exfalso; first | omega | contradiction) | refine boolK_bne (fun _ => ?_) (fun _ => ?_) <;> try (exfalso; first | omega | contradiction) | (with_reducible first | refine boolK_not ?_ | refine boolK_and ?_ | refine boolK_or ?_ | refine boolK_true ?_ | refine boolK_false ?_) | refine boolK_intro (fun _ => ?_) (fun _ => ?_) <;> try (exfalso; simp_all; done) | with_reducible refine natK_lit ?_ | refine natK_of rfl ?_ | refine natK_any ?_ | refine jO ?_ | refine jP ?_ | refine jQ ?_ | refine jR ?_ | refine jS ?_ | refine jT ?_ | refine jU (fun _ => ?_) | refine jV ?_ | refine jW ?_ | refine jX ?_ | refine jY ?_ | refine jZ ?_ | refine ja ?_ | refine jb ?_ | refine jc ?_ | refine jd ?_ | refine je ?_ | refine jf ?_ | refine jg ?_ | refine jh ?_ | refine ji ?_ | refine jj ?_ | refine jk ?_ | refine jn ?_ | refine jo ?_ | refine jp ?_ | refine jq ?_ | refine jr ?_ | refine js ?_ | exact ⟨n - 1, by omega, j + 1, m + 1, by omega, by omega, by rw [List.replicate_succ', ← List.append_assoc]; rfl⟩ | refine jt ?_ | refine jx ?_ | refine jy ?_ | refine ju ?_ | refine sideK_intro (by first | (rw [padS_eq (i := j) (by omega) (by omega)]; exact ⟨rfl, (by rw [List.length_append, List.length_replicate, hm]), rfl⟩)) ?_ | refine jv ?_)) <;> (try (conv => whnf))

theorem c_Pad (b : List UInt8) {m : Nat} (hm : m = b.length) (hb : b.length ≤ 900000) : Fn Try.prog 76 [.o (.sl (b.map u8) m)] [] (.one (.fr ((padS b).map u8) (padS b).length 1)) [] := by
  subst hm
  refine Fn_intro (G := g76) (goodA rfl) (fn := Try.f76) rfl rfl rfl rfl rfl ?_
  have hp : padN b.length = (8 - b.length % 8) % 8 := rfl
  have hp8 := padN_lt b.length
  (repeat' ((conv => whnf) <;> first | exact rfl | with_reducible refine boolK_dec (fun _ => ?_) (fun _ => ?_) <;> try (exfalso; omega) | refine boolK_beq (fun _ => ?_) (fun _ => ?_) <;> try (exfalso; first | omega | contradiction) | refine boolK_bne (fun _ => ?_) (fun _ => ?_) <;> try (exfalso; first | omega | contradiction) | (with_reducible first | refine boolK_not ?_ | refine boolK_and ?_ | refine boolK_or ?_ | refine boolK_true ?_ | refine boolK_false ?_) | refine boolK_intro (fun _ => ?_) (fun _ => ?_) <;> try (exfalso; simp_all; done) | refine jA ?_ | refine jB ?_ | refine jH ?_ | refine jI ?_ | refine jJ ?_ | refine jK ?_ | with_reducible refine natK_lit ?_ | refine natK_of rfl ?_ | refine natK_any ?_ | refine jO ?_ | refine jP ?_ | refine jQ ?_ | refine jR ?_ | refine jS ?_ | refine jT ?_ | refine jU (fun _ => ?_) | refine jV ?_ | refine jW ?_ | refine jX ?_ | refine jY ?_ | refine jZ ?_ | refine ja ?_ | refine jb ?_ | refine jc ?_ | refine jd ?_ | refine je ?_ | refine jf ?_ | refine jg ?_ | refine jh ?_ | refine ji ?_ | refine jj ?_ | refine jk ?_ | refine jn ?_ | refine jo ?_ | refine jp ?_ | refine jq ?_ | refine jr ?_ | refine js ?_ | refine callK_at (c_concat [b, List.replicate (padN b.length) 0] rfl (by simp; omega) (by simp)) (by rw [show (((8 : Int) - (b.length : Int) % 8) % 8).toNat = padN b.length by omega]; exact congrArg (fun x => [C.o (L.sl [L.sl (b.map u8) b.length, x] 2)]) (by show L.sl _ _ = L.sl _ (List.replicate (padN b.length) (0 : UInt8)).length; rw [List.length_replicate]; exact congrArg (fun x => L.sl x (padN b.length)) (rep_u8 0 _))) ?_ | refine jt ?_ | refine jx ?_ | refine jy ?_ | refine ju ?_ | refine sideK_intro (by first | (have e : padS b = [b, List.replicate (padN b.length) 0].flatten := (by simp [padS]; done); rw [e]; exact ⟨rfl, rfl, rfl⟩)) ?_ | refine jv ?_)) <;> (try (conv => whnf))

end Go.Sx

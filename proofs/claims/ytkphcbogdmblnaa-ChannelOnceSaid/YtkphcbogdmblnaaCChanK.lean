/-
  The contract of the law's check of itself.
-/
import Derived.Test.YtkphcbogdmblnaaCChanL
set_option linter.all false
namespace Go.Sx
open Go.Proofs Go.RowKit
noncomputable def g7 : Par := par 110 (nthLL [[], [1, 2], [1, 2, 3, 4], [1, 2, 3, 4, 5, 6], [1, 2, 3, 4, 5, 6, 7, 8], [2, 3, 4, 5, 6, 7, 8, 9, 10], [2, 3, 4, 6, 7, 8, 9, 10, 11, 12], [2, 3, 4, 6, 8, 9, 10, 11, 12, 13, 14], [2, 4, 6, 8, 10, 11, 12, 13, 14, 17], [0]]) [0] (nthLL [])
set_option maxRecDepth 10000
set_option maxHeartbeats 4000000
theorem c_awake21 : Fn Try.prog 7 [] [] (.one (.c (.o (.b true)))) [] := by
  have cK := c_Session 1 (by omega)
  obtain ⟨X, Y, Z, -, ⟨o1, o2⟩, ⟨s1, s2, s3⟩, r1, r2, r3⟩ := c_awk21 rfl
  generalize sessN 1 = k at *
  refine Fn_intro (G := g7) (goodA rfl) (fn := Try.f7) rfl rfl rfl rfl rfl ?_
  (repeat' ((conv => whnf) <;> first | with_reducible refine boolK_refl ?_ | exact rfl | with_reducible refine boolK_dec (fun _ => ?_) (fun _ => ?_) <;> try (exfalso; omega) | refine boolK_beq (fun _ => ?_) (fun _ => ?_) <;> try (exfalso; first | omega | contradiction) | refine boolK_bne (fun _ => ?_) (fun _ => ?_) <;> try (exfalso; first | omega | contradiction) | (with_reducible first | refine boolK_not ?_ | refine boolK_and ?_ | refine boolK_or ?_ | refine boolK_true ?_ | refine boolK_false ?_) | refine boolK_intro (fun _ => ?_) (fun _ => ?_) <;> try (exfalso; simp_all; done) | refine jC ?_ | refine jD ?_ | refine jE ?_ | refine jF ?_ | refine jG ?_ | with_reducible refine natK_lit ?_ | refine natK_of rfl ?_ | refine natK_any ?_ | refine jP ?_ | refine jQ ?_ | refine jR ?_ | refine jS ?_ | refine jT ?_ | refine jU (fun _ => ?_) | refine jV ?_ | refine jW ?_ | refine jX ?_ | refine jY ?_ | refine jZ ?_ | refine ja ?_ | refine jb ?_ | refine jc ?_ | refine jd ?_ | refine je ?_ | refine jf ?_ | refine jg ?_ | refine jh ?_ | refine ji ?_ | refine jj ?_ | refine jk ?_ | refine jn ?_ | refine jo ?_ | refine jp ?_ | refine jq ?_ | refine jr ?_ | refine js ?_ | refine callK_intro (cK) ?_ | refine callK_intro (o1) ?_ | refine callK_intro (o2) ?_ | refine callK_intro (s1) ?_ | refine callK_intro (s2) ?_ | refine callK_intro (s3) ?_ | refine callK_intro (r1) ?_ | refine callK_intro (r2) ?_ | refine callK_intro (r3) ?_ | refine jt ?_ | refine jx ?_ | refine jy ?_ | refine ju ?_ | refine jv ?_)) <;> (try (conv => whnf))
end Go.Sx

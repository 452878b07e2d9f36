/-
  Contracts of the functions that decode authenticators, and of the data's authenticators.
-/
import Derived.Test.YtcmcjiacpahliabCAuth
set_option linter.all false
namespace Go.Sx
open Go.Proofs Go.RowKit
noncomputable def g114 : Par := par 41 (nthLL [[0, 2], [2, 3], [2, 3, 4], [2, 3, 4], [2, 3, 4, 29], [2, 4], [2]]) [2] (nthLL [])
set_option maxRecDepth 10000
set_option maxHeartbeats 2000000
theorem authD_yes {l : Bool} {b : List UInt8} (h2 : (authN l (aP b).1.1 (aP b).1.2.1 (aP b).1.2.2 (aC l b).1 (aT l b).1 (aM l b).1).2 = 0) (h3 : (authN l (aP b).1.1 (aP b).1.2.1 (aP b).1.2.2 (aC l b).1 (aT l b).1 (aM l b).1).1 = b) : authD l b = (((aP b).1.1, (aP b).1.2.1, (aP b).1.2.2, (aC l b).1, (aT l b).1, (aM l b).1), 0) := by rw [authD, if_pos ⟨h2, h3⟩]
theorem authD_no {l : Bool} {b : List UInt8} (h : ¬ (authN l (aP b).1.1 (aP b).1.2.1 (aP b).1.2.2 (aC l b).1 (aT l b).1 (aM l b).1).2 = 0 ∨ ¬ (authN l (aP b).1.1 (aP b).1.2.1 (aP b).1.2.2 (aC l b).1 (aT l b).1 (aM l b).1).1 = b) : authD l b = (([], [], [], 0, 0, 0), 100) := by
  rw [authD, if_neg (fun hh => by rcases h with h | h; exact h hh.1; exact h hh.2)]
/-- the data's authenticators have no error -/
theorem c_Auth (q : List UInt8) {m : Nat} (hm : m = q.length) (hq : q.length ≤ 900000) : ∃ x y z ck tk tm, authC x y z ck tk tm = 0 ∧ Fn Try.prog 114 [.o (.sl (q.map u8) m)] [] (.one (.c (.a [.s x, .s y, .s z, .i .i64 ck, .i .i64 tk, .i .i64 tm]))) [] := by
  have n0 := nx_bounds q 0 (n := 9) (by omega)
  have n1 := nx_bounds q 1 (n := 200) (by omega)
  have n2 := nx_bounds q 2 (n := 256) (by omega)
  have n3 := nx_bounds q 3 (n := 256) (by omega)
  have n4 := nx_bounds q 4 (n := 256) (by omega)
  have n5 := nx_bounds q 5 (n := 256) (by omega)
  have n7 := nx_bounds q 7 (n := 3) (by omega)
  have n8 := nx_bounds q 8 (n := 2) (by omega)
  by_cases h8 : nx q 6 9 = 8
  · refine ⟨longN, longN, longN, 4294967295 - nx q 8 2, nx q 1 200, 4294967295 - nx q 7 3, authC_0 longest_valid.1 (by omega) (by omega) (by omega), ?_⟩
    refine Fn_intro (G := g114) (goodA rfl) (fn := Try.f114) rfl rfl rfl rfl rfl ?_
    (repeat' ((conv => whnf) <;> first | exact rfl | with_reducible refine boolK_dec (fun _ => ?_) (fun _ => ?_) <;> try (exfalso; omega) | refine boolK_beq (fun _ => ?_) (fun _ => ?_) <;> try (exfalso; first | omega | contradiction) | refine boolK_bne (fun _ => ?_) (fun _ => ?_) <;> try (exfalso; first | omega | contradiction) | (with_reducible first | refine boolK_not ?_ | refine boolK_and ?_ | refine boolK_or ?_ | refine boolK_true ?_ | refine boolK_false ?_) | refine boolK_intro (fun _ => ?_) (fun _ => ?_) <;> try (exfalso; simp_all; done) | refine jA ?_ | refine jB ?_ | refine jH ?_ | refine jI ?_ | refine jJ ?_ | refine jK ?_ | with_reducible refine natK_lit ?_ | refine natK_of rfl ?_ | refine natK_any ?_ | refine jP ?_ | refine jQ ?_ | refine jR ?_ | refine jS ?_ | refine jT ?_ | refine jU (fun _ => ?_) | refine jV ?_ | refine jW ?_ | refine jX ?_ | refine jY ?_ | refine jZ ?_ | refine ja ?_ | refine jb ?_ | refine jc ?_ | refine jd ?_ | refine je ?_ | refine jf ?_ | refine jg ?_ | refine jh ?_ | refine ji ?_ | refine jj ?_ | refine jk ?_ | refine jn ?_ | refine jo ?_ | refine jp ?_ | refine jq ?_ | refine jr ?_ | refine js ?_ | refine callK_intro (c_nx0 q hm _ (by omega) hq) ?_ | refine callK_intro (c_nx q hm 1 2 rfl _ (by omega) hq) ?_ | refine callK_intro (c_nx q hm 2 3 rfl _ (by omega) hq) ?_ | refine callK_intro (c_nx q hm 3 4 rfl _ (by omega) hq) ?_ | refine callK_intro (c_nx q hm 4 5 rfl _ (by omega) hq) ?_ | refine callK_intro (c_nx q hm 5 6 rfl _ (by omega) hq) ?_ | refine callK_intro (c_nx q hm 6 7 rfl _ (by omega) hq) ?_ | refine callK_intro (c_nx q hm 7 8 rfl _ (by omega) hq) ?_ | refine callK_intro (c_nx q hm 8 9 rfl _ (by omega) hq) ?_ | refine callK_intro (c_User _ (by omega)) ?_ | refine callK_intro (c_Longest0) ?_ | refine jt ?_ | refine jx ?_ | refine jy ?_ | refine ju ?_ | refine jv ?_)) <;> (try (conv => whnf))
  · refine ⟨userN (nx q 0 9), [], realmN (nx q 0 9 / 3), nx q 2 256 * 70000 + nx q 3 256, nx q 1 200, nx q 4 256 * 150 + nx q 5 256, authC_0 (user_valid _ _) (by omega) (by omega) (by omega), ?_⟩
    refine Fn_intro (G := g114) (goodA rfl) (fn := Try.f114) rfl rfl rfl rfl rfl ?_
    (repeat' ((conv => whnf) <;> first | exact rfl | with_reducible refine boolK_dec (fun _ => ?_) (fun _ => ?_) <;> try (exfalso; omega) | refine boolK_beq (fun _ => ?_) (fun _ => ?_) <;> try (exfalso; first | omega | contradiction) | refine boolK_bne (fun _ => ?_) (fun _ => ?_) <;> try (exfalso; first | omega | contradiction) | (with_reducible first | refine boolK_not ?_ | refine boolK_and ?_ | refine boolK_or ?_ | refine boolK_true ?_ | refine boolK_false ?_) | refine boolK_intro (fun _ => ?_) (fun _ => ?_) <;> try (exfalso; simp_all; done) | refine jA ?_ | refine jB ?_ | refine jH ?_ | refine jI ?_ | refine jJ ?_ | refine jK ?_ | with_reducible refine natK_lit ?_ | refine natK_of rfl ?_ | refine natK_any ?_ | refine jP ?_ | refine jQ ?_ | refine jR ?_ | refine jS ?_ | refine jT ?_ | refine jU (fun _ => ?_) | refine jV ?_ | refine jW ?_ | refine jX ?_ | refine jY ?_ | refine jZ ?_ | refine ja ?_ | refine jb ?_ | refine jc ?_ | refine jd ?_ | refine je ?_ | refine jf ?_ | refine jg ?_ | refine jh ?_ | refine ji ?_ | refine jj ?_ | refine jk ?_ | refine jn ?_ | refine jo ?_ | refine jp ?_ | refine jq ?_ | refine jr ?_ | refine js ?_ | refine callK_intro (c_nx0 q hm _ (by omega) hq) ?_ | refine callK_intro (c_nx q hm 1 2 rfl _ (by omega) hq) ?_ | refine callK_intro (c_nx q hm 2 3 rfl _ (by omega) hq) ?_ | refine callK_intro (c_nx q hm 3 4 rfl _ (by omega) hq) ?_ | refine callK_intro (c_nx q hm 4 5 rfl _ (by omega) hq) ?_ | refine callK_intro (c_nx q hm 5 6 rfl _ (by omega) hq) ?_ | refine callK_intro (c_nx q hm 6 7 rfl _ (by omega) hq) ?_ | refine callK_intro (c_User _ (by omega)) ?_ | refine jt ?_ | refine jx ?_ | refine jy ?_ | refine ju ?_ | refine jv ?_)) <;> (try (conv => whnf))
theorem awk7_h1 : authN true [97] [98] [99] 0 0 1 = (([1, 97, 0, 98, 0, 99, 0, 0, 0, 0, 0, 0, 1, 0, 0, 0] : List UInt8), 0) := by decide +kernel
end Go.Sx

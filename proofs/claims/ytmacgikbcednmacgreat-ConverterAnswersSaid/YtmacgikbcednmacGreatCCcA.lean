/-
  Contracts of the functions that check caches of credentials, and of their reference.
-/
import Derived.Test.YtmacgikbcednmacGreatCCc
set_option linter.all false
namespace Go.Sx
open Go.Proofs Go.RowKit
noncomputable def g68 : Par := par 9 (nthLL [[0], [2]]) [2] (nthLL [])
noncomputable def g69 : Par := par 9 (nthLL [[0], [2]]) [2] (nthLL [])
noncomputable def g84 : Par := par 9 (nthLL [[0], [2]]) [2] (nthLL [])
noncomputable def g31 : Par := par 18 (nthLL [[0, 1], [0, 1, 12], [4], [4]]) [4] (nthLL [])
noncomputable def g40 : Par := par 21 (nthLL [[0, 1], [0, 1, 15], [4], [4]]) [4] (nthLL [])
set_option maxRecDepth 10000
set_option maxHeartbeats 4000000
theorem c_isTime (n : Int) : Fn Tryz.prog 68 [.o (.i .i64 n)] [] (.one (.c (.o (.b (decide (0 ≤ n ∧ n ≤ 4294967295)))))) [] := by
  refine Fn_intro (G := g68) (goodA rfl) (fn := Tryz.f68) rfl rfl rfl rfl rfl ?_
  (repeat' ((conv => whnf) <;> first | exact rfl | with_reducible refine boolK_dec (fun _ => ?_) (fun _ => ?_) <;> try (exfalso; omega) | refine boolK_beq (fun _ => ?_) (fun _ => ?_) <;> try (exfalso; first | omega | with_reducible contradiction) | refine boolK_bne (fun _ => ?_) (fun _ => ?_) <;> try (exfalso; first | omega | with_reducible contradiction) | (with_reducible first | refine boolK_not ?_ | refine boolK_and ?_ | refine boolK_or ?_ | refine boolK_true ?_ | refine boolK_false ?_) | refine boolK_intro (fun _ => ?_) (fun _ => ?_) <;> try (exfalso; simp_all; done) | with_reducible refine natK_lit ?_ | refine natK_of rfl ?_ | refine natK_any ?_ | refine jy ?_ | refine ju ?_ | refine sideK_intro (by first | (exact congrArg (fun x => [L.b x]) (Eq.symm (decide_eq_false (by omega)))) | (exact congrArg (fun x => [L.b x]) (decide_eq_decide.mpr (by omega))) | (exact congrArg (fun x => [L.b x]) (Eq.symm (decide_eq_true (by omega))))) ?_ | refine jv ?_)) <;> (try (conv => whnf))
theorem c_isLife (n : Int) : Fn Tryz.prog 69 [.o (.i .i64 n)] [] (.one (.c (.o (.b (decide (0 ≤ n ∧ n ≤ 255)))))) [] := by
  refine Fn_intro (G := g69) (goodA rfl) (fn := Tryz.f69) rfl rfl rfl rfl rfl ?_
  (repeat' ((conv => whnf) <;> first | exact rfl | with_reducible refine boolK_dec (fun _ => ?_) (fun _ => ?_) <;> try (exfalso; omega) | refine boolK_beq (fun _ => ?_) (fun _ => ?_) <;> try (exfalso; first | omega | with_reducible contradiction) | refine boolK_bne (fun _ => ?_) (fun _ => ?_) <;> try (exfalso; first | omega | with_reducible contradiction) | (with_reducible first | refine boolK_not ?_ | refine boolK_and ?_ | refine boolK_or ?_ | refine boolK_true ?_ | refine boolK_false ?_) | refine boolK_intro (fun _ => ?_) (fun _ => ?_) <;> try (exfalso; simp_all; done) | with_reducible refine natK_lit ?_ | refine natK_of rfl ?_ | refine natK_any ?_ | refine jy ?_ | refine ju ?_ | refine sideK_intro (by first | (exact congrArg (fun x => [L.b x]) (Eq.symm (decide_eq_false (by omega)))) | (exact congrArg (fun x => [L.b x]) (decide_eq_decide.mpr (by omega))) | (exact congrArg (fun x => [L.b x]) (Eq.symm (decide_eq_true (by omega))))) ?_ | refine jv ?_)) <;> (try (conv => whnf))
theorem c_rtime (n : Int) : Fn Tryz.prog 84 [.o (.i .i64 n)] [] (.one (.c (.o (.b (decide (0 ≤ n ∧ n ≤ 4294967295)))))) [] := by
  refine Fn_intro (G := g84) (goodA rfl) (fn := Tryz.f84) rfl rfl rfl rfl rfl ?_
  (repeat' ((conv => whnf) <;> first | exact rfl | with_reducible refine boolK_dec (fun _ => ?_) (fun _ => ?_) <;> try (exfalso; omega) | refine boolK_beq (fun _ => ?_) (fun _ => ?_) <;> try (exfalso; first | omega | with_reducible contradiction) | refine boolK_bne (fun _ => ?_) (fun _ => ?_) <;> try (exfalso; first | omega | with_reducible contradiction) | (with_reducible first | refine boolK_not ?_ | refine boolK_and ?_ | refine boolK_or ?_ | refine boolK_true ?_ | refine boolK_false ?_) | refine boolK_intro (fun _ => ?_) (fun _ => ?_) <;> try (exfalso; simp_all; done) | with_reducible refine natK_lit ?_ | refine natK_of rfl ?_ | refine natK_any ?_ | refine jy ?_ | refine ju ?_ | refine sideK_intro (by first | (exact congrArg (fun x => [L.b x]) (Eq.symm (decide_eq_false (by omega)))) | (exact congrArg (fun x => [L.b x]) (decide_eq_decide.mpr (by omega))) | (exact congrArg (fun x => [L.b x]) (Eq.symm (decide_eq_true (by omega))))) ?_ | refine jv ?_)) <;> (try (conv => whnf))
theorem c_End (is lf : Int) : Fn Tryz.prog 31 [.o (.i .i64 is), .o (.i .i64 lf)] [] (.one (.c (.o (.i .i64 (endS is lf))))) [] := by
  have h1 := @endS_yes is lf
  have h2 := @endS_no is lf
  generalize endS is lf = E at *
  refine Fn_intro (G := g31) (goodA rfl) (fn := Tryz.f31) rfl rfl rfl rfl rfl ?_
  (repeat' ((conv => whnf) <;> first | exact rfl | with_reducible refine boolK_dec (fun _ => ?_) (fun _ => ?_) <;> try (exfalso; omega) | refine boolK_beq (fun _ => ?_) (fun _ => ?_) <;> try (exfalso; first | omega | with_reducible contradiction) | refine boolK_bne (fun _ => ?_) (fun _ => ?_) <;> try (exfalso; first | omega | with_reducible contradiction) | (with_reducible first | refine boolK_not ?_ | refine boolK_and ?_ | refine boolK_or ?_ | refine boolK_true ?_ | refine boolK_false ?_) | refine boolK_intro (fun _ => ?_) (fun _ => ?_) <;> try (exfalso; simp_all; done) | refine jA ?_ | refine jB ?_ | refine jH ?_ | refine jI ?_ | refine jJ ?_ | refine jK ?_ | with_reducible refine natK_lit ?_ | refine natK_of rfl ?_ | refine natK_any ?_ | refine callK_intro (c_isTime _) ?_ | refine callK_intro (c_isLife _) ?_ | refine jy ?_ | refine ju ?_ | refine sideK_intro (by first | (rw [h1 (by omega)] <;> first | rfl | exact ⟨rfl, rfl⟩ | exact ⟨rfl, rfl, rfl⟩) | (rw [h2 (by omega)] <;> first | rfl | exact ⟨rfl, rfl⟩ | exact ⟨rfl, rfl, rfl⟩)) ?_ | refine jv ?_)) <;> (try (conv => whnf))
theorem c_rEnd (is lf : Int) : Fn Tryz.prog 40 [.o (.i .i64 is), .o (.i .i64 lf)] [] (.one (.c (.o (.i .i64 (endS is lf))))) [] := by
  have h1 := @endS_yes is lf
  have h2 := @endS_no is lf
  generalize endS is lf = E at *
  refine Fn_intro (G := g40) (goodA rfl) (fn := Tryz.f40) rfl rfl rfl rfl rfl ?_
  (repeat' ((conv => whnf) <;> first | exact rfl | with_reducible refine boolK_dec (fun _ => ?_) (fun _ => ?_) <;> try (exfalso; omega) | refine boolK_beq (fun _ => ?_) (fun _ => ?_) <;> try (exfalso; first | omega | with_reducible contradiction) | refine boolK_bne (fun _ => ?_) (fun _ => ?_) <;> try (exfalso; first | omega | with_reducible contradiction) | (with_reducible first | refine boolK_not ?_ | refine boolK_and ?_ | refine boolK_or ?_ | refine boolK_true ?_ | refine boolK_false ?_) | refine boolK_intro (fun _ => ?_) (fun _ => ?_) <;> try (exfalso; simp_all; done) | refine jA ?_ | refine jB ?_ | refine jH ?_ | refine jI ?_ | refine jJ ?_ | refine jK ?_ | with_reducible refine natK_lit ?_ | refine natK_of rfl ?_ | refine natK_any ?_ | refine callK_intro (c_rtime _) ?_ | refine jy ?_ | refine ju ?_ | refine sideK_intro (by first | (rw [h1 (by omega)] <;> first | rfl | exact ⟨rfl, rfl⟩ | exact ⟨rfl, rfl, rfl⟩) | (rw [h2 (by omega)] <;> first | rfl | exact ⟨rfl, rfl⟩ | exact ⟨rfl, rfl, rfl⟩)) ?_ | refine jv ?_)) <;> (try (conv => whnf))
end Go.Sx

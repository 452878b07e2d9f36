/-
  Contracts of the small functions of the laws about the converter.
-/
import Derived.Test.YtmacgikbcednmacGreatCConv
set_option linter.all false
namespace Go.Sx
open Go.Proofs Go.RowKit
noncomputable def g4 : Par := par 42 (nthLL [[], [1], [1, 3], [1, 3], [3, 4, 5], [0]]) [0] (nthLL [[], [], [], [], [], [0, 1, 3, 7, 15, 31, 63, 127, 255, 511, 1023, 2047, 4095, 8191, 16383, 32767, 65535, 131071, 65535, 524287, 1048575, 2097151]])
noncomputable def g5 : Par := par 35 (nthLL [[0], [0, 3], [0, 3, 7], [0, 3], [0, 3, 34], [2], [2]]) [2] (nthLL [])
set_option maxRecDepth 10000
set_option maxHeartbeats 4000000
theorem awk26_h1 : convS (userN 0) [] (realmN (0 / 3)) (serviceN 0) (serviceI 0) (sessN 1) 1000 1299 0 = (tick0, false) := convS_no (by omega)
theorem awk26_h2 : convS (userN 0) [] (realmN (0 / 3)) (serviceN 0) (serviceI 0) (sessN 1) 1000 1300 0 = ((false, userN 0, [], realmN (0 / 3), 0, sessN 1, 0, 1000, serviceN 0, serviceI 0), true) := (convS_yes (by omega) (by decide +kernel)).trans rfl
theorem c_awk26a : Fn Tryz.prog 17 [.a [.s (userN 0), .s [], .s (realmN (0 / 3)), .s (serviceN 0), .s (serviceI 0), .s (realmN (0 / 3)), .i .u64 (sessN 1), .i .i64 1000, .i .i64 1299, .i .i64 0]] [] (.tup [.c (.a [.b false, .s [], .s [], .s [], .i .i64 0, .i .u64 0, .i .i64 0, .i .i64 0, .s [], .s []]), .c (.o (.b false))]) [] := by
  have c := c_Convert (userN 0) [] (realmN (0 / 3)) (serviceN 0) (serviceI 0) (realmN (0 / 3)) (sessN 1) 1000 1299 0 (by decide) (by omega) (by omega) (by decide +kernel) (by decide +kernel) (by decide +kernel) (by decide +kernel) (by decide +kernel)
  rw [awk26_h1] at c
  exact c
theorem c_awk26b : Fn Tryz.prog 17 [.a [.s (userN 0), .s [], .s (realmN (0 / 3)), .s (serviceN 0), .s (serviceI 0), .s (realmN (0 / 3)), .i .u64 (sessN 1), .i .i64 1000, .i .i64 1300, .i .i64 0]] [] (.tup [.c (.a [.b false, .s (userN 0), .s [], .s (realmN (0 / 3)), .i .i64 0, .i .u64 (sessN 1), .i .i64 0, .i .i64 1000, .s (serviceN 0), .s (serviceI 0)]), .c (.o (.b true))]) [] := by
  have c := c_Convert (userN 0) [] (realmN (0 / 3)) (serviceN 0) (serviceI 0) (realmN (0 / 3)) (sessN 1) 1000 1300 0 (by decide) (by omega) (by omega) (by decide +kernel) (by decide +kernel) (by decide +kernel) (by decide +kernel) (by decide +kernel)
  rw [awk26_h2] at c
  exact c
theorem c_awake26 : Fn Tryz.prog 4 [] [] (.one (.c (.o (.b true)))) [] := by
  have cU := c_User 0 (by omega)
  have cS := c_Service 0 (by omega)
  have cK := c_Session 1 (by omega)
  have c1 := c_awk26a
  have c2 := c_awk26b
  generalize userN 0 = U at *
  generalize realmN (0 / 3) = R at *
  generalize serviceN 0 = N at *
  generalize serviceI 0 = I at *
  generalize sessN 1 = S at *
  refine Fn_intro (G := g4) (goodA rfl) (fn := Tryz.f4) rfl rfl rfl rfl rfl ?_
  (repeat' ((conv => whnf) <;> first | exact rfl | with_reducible refine boolK_dec (fun _ => ?_) (fun _ => ?_) <;> try (exfalso; omega) | refine boolK_beq (fun _ => ?_) (fun _ => ?_) <;> try (exfalso; first | omega | with_reducible contradiction) | refine boolK_bne (fun _ => ?_) (fun _ => ?_) <;> try (exfalso; first | omega | with_reducible contradiction) | (with_reducible first | refine boolK_not ?_ | refine boolK_and ?_ | refine boolK_or ?_ | refine boolK_true ?_ | refine boolK_false ?_) | refine boolK_intro (fun _ => ?_) (fun _ => ?_) <;> try (exfalso; simp_all; done) | with_reducible refine natK_lit ?_ | refine natK_of rfl ?_ | refine natK_any ?_ | refine callK_intro (cU) ?_ | refine callK_intro (cS) ?_ | refine callK_intro (cK) ?_ | refine callK_intro (c1) ?_ | refine callK_intro (c2) ?_ | refine jy ?_ | refine ju ?_ | refine jv ?_)) <;> (try (conv => whnf))
theorem c_long26_1 (x0 x1 x2 : List UInt8) : Fn Tryz.prog 5 [.o (.sl [.s x0, .s x1, .s x2] 1)] [] (.one (.c (.o (.b (decide (x0.length > 100 ∨ x1.length > 100 ∨ x2.length > 100)))))) [] := by
  refine Fn_intro (G := g5) (goodA rfl) (fn := Tryz.f5) rfl rfl rfl rfl rfl ?_
  (repeat' ((conv => whnf) <;> first | exact rfl | with_reducible refine boolK_dec (fun _ => ?_) (fun _ => ?_) <;> try (exfalso; omega) | refine boolK_beq (fun _ => ?_) (fun _ => ?_) <;> try (exfalso; first | omega | with_reducible contradiction) | refine boolK_bne (fun _ => ?_) (fun _ => ?_) <;> try (exfalso; first | omega | with_reducible contradiction) | (with_reducible first | refine boolK_not ?_ | refine boolK_and ?_ | refine boolK_or ?_ | refine boolK_true ?_ | refine boolK_false ?_) | refine boolK_intro (fun _ => ?_) (fun _ => ?_) <;> try (exfalso; simp_all; done) | refine jA ?_ | refine jB ?_ | refine jH ?_ | refine jI ?_ | refine jJ ?_ | refine jK ?_ | with_reducible refine natK_lit ?_ | refine natK_of rfl ?_ | refine natK_any ?_ | refine jP ?_ | refine jQ ?_ | refine jR ?_ | refine jS ?_ | refine jT ?_ | refine jU (fun _ => ?_) | refine jV ?_ | refine loopK_step (G := g5) ?_ | refine jy ?_ | refine ju ?_ | refine sideK_intro (by first | (exact congrArg (fun x => [L.b x]) (Eq.symm (decide_eq_true (by omega)))) | (exact congrArg (fun x => [L.b x]) (Eq.symm (decide_eq_false (by omega))))) ?_ | refine jv ?_)) <;> (try (conv => whnf))
end Go.Sx

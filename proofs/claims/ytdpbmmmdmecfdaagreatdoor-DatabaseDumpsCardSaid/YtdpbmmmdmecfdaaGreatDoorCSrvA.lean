/-
  Contracts of the functions that add a key of a service, and of those that make the laws' keys.
-/
import Derived.Test.YtdpbmmmdmecfdaaGreatDoorCSrv
import Derived.Test.YtdpbmmmdmecfdaaGreatDoorCData
set_option linter.all false
namespace Go.Sx
open Go.Proofs Go.RowKit
noncomputable def g17 : Par := par 13 (nthLL [[0], [2]]) [2] (nthLL [[], [0, 1, 3, 7, 0, 16, 48, 112, 240, 511, 1023]])
set_option maxRecDepth 10000
set_option maxHeartbeats 2000000
theorem c_more (l : List UInt8) {m : Nat} (hm : m = l.length) (k : Int) : Fn Tryz.prog 17 [.o (.p 1000 0)] [(1000, .st [.sl (l.map u8) m, .i .i64 k])] (.one (.c (.o (.b (decide (k < (l.length : Int))))))) [(1000, .st [.sl (l.map u8) m, .i .i64 k])] := by
  subst hm
  refine Fn_intro (G := g17) (goodA rfl) (fn := Tryz.f17) rfl rfl rfl rfl rfl ?_
  (repeat' ((conv => whnf) <;> first | exact rfl | with_reducible refine boolK_dec (fun _ => ?_) (fun _ => ?_) <;> try (exfalso; omega) | refine boolK_beq (fun _ => ?_) (fun _ => ?_) <;> try (exfalso; first | omega | with_reducible contradiction) | refine boolK_bne (fun _ => ?_) (fun _ => ?_) <;> try (exfalso; first | omega | with_reducible contradiction) | (with_reducible first | refine boolK_not ?_ | refine boolK_and ?_ | refine boolK_or ?_ | refine boolK_true ?_ | refine boolK_false ?_) | refine boolK_intro (fun _ => ?_) (fun _ => ?_) <;> try (exfalso; simp_all; done) | with_reducible refine natK_lit ?_ | refine natK_of rfl ?_ | refine natK_any ?_ | refine jy ?_ | refine ju ?_ | refine jv ?_)) <;> (try (conv => whnf))
end Go.Sx

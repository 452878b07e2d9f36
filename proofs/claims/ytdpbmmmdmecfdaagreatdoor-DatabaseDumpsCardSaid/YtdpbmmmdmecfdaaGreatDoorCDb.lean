/-
  Contracts of the functions of package database and of its reference.
-/
import Derived.Test.YtdpbmmmdmecfdaaGreatDoorPX1
import Derived.Test.YtdpbmmmdmecfdaaGreatDoorCKey
import Derived.Test.YtdpbmmmdmecfdaaGreatDoorCFieldP
set_option linter.all false
namespace Go.Sx
open Go.Proofs Go.RowKit
theorem headS_de {l : List DE} {j : Nat} {K : List UInt8 → List L → Prop} (h : j < l.length) (hk : K (l.getD j de0).x (.s (l.getD j de0).y :: .i .u64 (l.getD j de0).k :: .i .i64 (l.getD j de0).kv :: .i .i64 (l.getD j de0).ex :: .i .i64 (l.getD j de0).ml :: .i .i64 (l.getD j de0).atr :: .i .i64 (l.getD j de0).fl :: .i .i64 (l.getD j de0).un :: flat deR (l.drop (j + 1)))) : headS ((flat deR l).drop (j * 9)) K :=
  ⟨_, _, by rw [flat_at deR_len de0 h]; rfl, hk⟩
theorem headS_de0 {l : List DE} {j : Nat} {K : List UInt8 → List L → Prop} (h : j < l.length) (hk : K (l.getD j de0).x (.s (l.getD j de0).y :: .i .u64 (l.getD j de0).k :: .i .i64 (l.getD j de0).kv :: .i .i64 (l.getD j de0).ex :: .i .i64 (l.getD j de0).ml :: .i .i64 (l.getD j de0).atr :: .i .i64 (l.getD j de0).fl :: .i .i64 (l.getD j de0).un :: flat deR (l.drop (j + 1)))) : headS (((flat deR l).drop (j * 9)).drop 0) K :=
  ⟨_, _, by rw [flat_at deR_len de0 h]; rfl, hk⟩
theorem headS_de1 {l : List DE} {j : Nat} {K : List UInt8 → List L → Prop} (h : j < l.length) (hk : K (l.getD j de0).y (.i .u64 (l.getD j de0).k :: .i .i64 (l.getD j de0).kv :: .i .i64 (l.getD j de0).ex :: .i .i64 (l.getD j de0).ml :: .i .i64 (l.getD j de0).atr :: .i .i64 (l.getD j de0).fl :: .i .i64 (l.getD j de0).un :: flat deR (l.drop (j + 1)))) : headS (((flat deR l).drop (j * 9)).drop 1) K :=
  ⟨_, _, by rw [flat_at deR_len de0 h]; rfl, hk⟩
noncomputable def g52 : Par := par 12 (nthLL [[0, 1], [4]]) [4] (nthLL [])
noncomputable def g66 : Par := par 12 (nthLL [[0, 1], [4]]) [4] (nthLL [])
noncomputable def g31 : Par := par 17 (nthLL [[2, 3], [4]]) [4] (nthLL [[], [0, 1, 0, 4, 15, 0, 32, 0, 128, 511, 1023, 2047, 4095]])
noncomputable def g43 : Par := par 24 (nthLL [[2, 3], [4]]) [4] (nthLL [])
noncomputable def g30 : Par := par 58 (nthLL [[1], [1, 3], [2], [1, 14], [2], [1, 24], [2], [41], [2], [2]]) [2] (nthLL [])
noncomputable def g42 : Par := par 56 (nthLL [[1], [1, 12], [2], [1, 21], [2], [55], [2], [2]]) [2] (nthLL [])
set_option maxRecDepth 10000
set_option maxHeartbeats 4000000
theorem c_dbWithin (n k : Int) : Fn Tryz.prog 52 [.o (.i .i64 n), .o (.i .i64 k)] [] (.one (.c (.o (.b (decide (0 ≤ n ∧ n ≤ k)))))) [] := by
  refine Fn_intro (G := g52) (goodA rfl) (fn := Tryz.f52) rfl rfl rfl rfl rfl ?_
  (repeat' ((conv => whnf) <;> first | exact rfl | with_reducible refine boolK_dec (fun _ => ?_) (fun _ => ?_) <;> try (exfalso; omega) | refine boolK_beq (fun _ => ?_) (fun _ => ?_) <;> try (exfalso; first | omega | with_reducible contradiction) | refine boolK_bne (fun _ => ?_) (fun _ => ?_) <;> try (exfalso; first | omega | with_reducible contradiction) | (with_reducible first | refine boolK_not ?_ | refine boolK_and ?_ | refine boolK_or ?_ | refine boolK_true ?_ | refine boolK_false ?_) | refine boolK_intro (fun _ => ?_) (fun _ => ?_) <;> try (exfalso; simp_all; done) | with_reducible refine natK_lit ?_ | refine natK_of rfl ?_ | refine natK_any ?_ | refine jy ?_ | refine ju ?_ | refine sideK_intro (by first | (exact congrArg (fun x => [L.b x]) (Eq.symm (decide_eq_false (by omega)))) | (exact congrArg (fun x => [L.b x]) (decide_eq_decide.mpr (by omega))) | (exact congrArg (fun x => [L.b x]) (Eq.symm (decide_eq_true (by omega))))) ?_ | refine jv ?_)) <;> (try (conv => whnf))
theorem c_rdbWithin (n k : Int) : Fn Tryz.prog 66 [.o (.i .i64 n), .o (.i .i64 k)] [] (.one (.c (.o (.b (decide (0 ≤ n ∧ n ≤ k)))))) [] := by
  refine Fn_intro (G := g66) (goodA rfl) (fn := Tryz.f66) rfl rfl rfl rfl rfl ?_
  (repeat' ((conv => whnf) <;> first | exact rfl | with_reducible refine boolK_dec (fun _ => ?_) (fun _ => ?_) <;> try (exfalso; omega) | refine boolK_beq (fun _ => ?_) (fun _ => ?_) <;> try (exfalso; first | omega | with_reducible contradiction) | refine boolK_bne (fun _ => ?_) (fun _ => ?_) <;> try (exfalso; first | omega | with_reducible contradiction) | (with_reducible first | refine boolK_not ?_ | refine boolK_and ?_ | refine boolK_or ?_ | refine boolK_true ?_ | refine boolK_false ?_) | refine boolK_intro (fun _ => ?_) (fun _ => ?_) <;> try (exfalso; simp_all; done) | with_reducible refine natK_lit ?_ | refine natK_of rfl ?_ | refine natK_any ?_ | refine jy ?_ | refine ju ?_ | refine sideK_intro (by first | (exact congrArg (fun x => [L.b x]) (Eq.symm (decide_eq_false (by omega)))) | (exact congrArg (fun x => [L.b x]) (decide_eq_decide.mpr (by omega))) | (exact congrArg (fun x => [L.b x]) (Eq.symm (decide_eq_true (by omega))))) ?_ | refine jv ?_)) <;> (try (conv => whnf))
theorem c_dbCompare (s t : DE) : Fn Tryz.prog 31 [.a [.s s.x, .s s.y, .i .u64 s.k, .i .i64 s.kv, .i .i64 s.ex, .i .i64 s.ml, .i .i64 s.atr, .i .i64 s.fl, .i .i64 s.un], .a [.s t.x, .s t.y, .i .u64 t.k, .i .i64 t.kv, .i .i64 t.ex, .i .i64 t.ml, .i .i64 t.atr, .i .i64 t.fl, .i .i64 t.un]] [] (.one (.c (.o (.i .i64 (deO s t))))) [] := by
  refine Fn_intro (G := g31) (goodA rfl) (fn := Tryz.f31) rfl rfl rfl rfl rfl ?_
  (repeat' ((conv => whnf) <;> first | exact rfl | with_reducible refine boolK_dec (fun _ => ?_) (fun _ => ?_) <;> try (exfalso; omega) | refine boolK_beq (fun _ => ?_) (fun _ => ?_) <;> try (exfalso; first | omega | with_reducible contradiction) | refine boolK_bne (fun _ => ?_) (fun _ => ?_) <;> try (exfalso; first | omega | with_reducible contradiction) | (with_reducible first | refine boolK_not ?_ | refine boolK_and ?_ | refine boolK_or ?_ | refine boolK_true ?_ | refine boolK_false ?_) | refine boolK_intro (fun _ => ?_) (fun _ => ?_) <;> try (exfalso; simp_all; done) | with_reducible refine natK_lit ?_ | refine natK_of rfl ?_ | refine natK_any ?_ | refine je ?_ | refine jf ?_ | refine jg ?_ | refine jh ?_ | refine ji ?_ | refine jj ?_ | refine jk ?_ | refine callK_intro (c_cmp _ _) ?_ | refine callK_intro (c_or2 _ _) ?_ | refine jy ?_ | refine ju ?_ | refine jv ?_)) <;> (try (conv => whnf))
theorem c_rdbBefore (s t : DE) : Fn Tryz.prog 43 [.a [.s s.x, .s s.y, .i .u64 s.k, .i .i64 s.kv, .i .i64 s.ex, .i .i64 s.ml, .i .i64 s.atr, .i .i64 s.fl, .i .i64 s.un], .a [.s t.x, .s t.y, .i .u64 t.k, .i .i64 t.kv, .i .i64 t.ex, .i .i64 t.ml, .i .i64 t.atr, .i .i64 t.fl, .i .i64 t.un]] [] (.one (.c (.o (.b (decide (deO s t < 0)))))) [] := by
  have h := deO_lt (s := s) (t := t)
  generalize deO s t = O at *
  refine Fn_intro (G := g43) (goodA rfl) (fn := Tryz.f43) rfl rfl rfl rfl rfl ?_
  (repeat' ((conv => whnf) <;> first | exact rfl | with_reducible refine boolK_dec (fun _ => ?_) (fun _ => ?_) <;> try (exfalso; omega) | refine boolK_beq (fun _ => ?_) (fun _ => ?_) <;> try (exfalso; first | omega | with_reducible contradiction) | refine boolK_bne (fun _ => ?_) (fun _ => ?_) <;> try (exfalso; first | omega | with_reducible contradiction) | (with_reducible first | refine boolK_not ?_ | refine boolK_and ?_ | refine boolK_or ?_ | refine boolK_true ?_ | refine boolK_false ?_) | refine boolK_intro (fun _ => ?_) (fun _ => ?_) <;> try (exfalso; simp_all; done) | with_reducible refine natK_lit ?_ | refine natK_of rfl ?_ | refine natK_any ?_ | refine jy ?_ | refine ju ?_ | refine sideK_intro (by first | (exact congrArg (fun x => [L.b x]) (Eq.symm (decide_eq_false (by simp_all; done)))) | (exact congrArg (fun x => [L.b x]) (Eq.symm (decide_eq_true (by simp_all; done)))) | (exact congrArg (fun x => [L.b x]) (by simp_all; done))) ?_ | refine jv ?_)) <;> (try (conv => whnf))
theorem c_dbCheckEntryB (s : DE) (hs : deSm 9223372036854775807 s) : Fn Tryz.prog 30 [.a [.s s.x, .s s.y, .i .u64 s.k, .i .i64 s.kv, .i .i64 s.ex, .i .i64 s.ml, .i .i64 s.atr, .i .i64 s.fl, .i .i64 s.un]] [] (.one (.c (.o (.i .i64 (deC s))))) [] := by
  obtain ⟨h1, h2, h3⟩ := hs
  have cN := c_ValidName s.x (by omega)
  have cI := c_ValidInstance s.y (by omega)
  have cK := c_keyValid s.k h3
  have e1 := @deC_1 s
  have e2 := @deC_2 s
  have e3 := @deC_3 s
  have e4 := @deC_4 s
  unfold deN at e3 e4
  generalize deC s = R at *
  generalize nameS s.x = N at *
  generalize instS s.y = I at *
  generalize keyOk s.k = O at *
  refine Fn_intro (G := g30) (goodA rfl) (fn := Tryz.f30) rfl rfl rfl rfl rfl ?_
  (repeat' ((conv => whnf) <;> first | exact rfl | with_reducible refine boolK_dec (fun _ => ?_) (fun _ => ?_) <;> try (exfalso; omega) | refine boolK_beq (fun _ => ?_) (fun _ => ?_) <;> try (exfalso; first | omega | with_reducible contradiction) | refine boolK_bne (fun _ => ?_) (fun _ => ?_) <;> try (exfalso; first | omega | with_reducible contradiction) | (with_reducible first | refine boolK_not ?_ | refine boolK_and ?_ | refine boolK_or ?_ | refine boolK_true ?_ | refine boolK_false ?_) | refine boolK_intro (fun _ => ?_) (fun _ => ?_) <;> try (exfalso; simp_all; done) | with_reducible refine natK_lit ?_ | refine natK_of rfl ?_ | refine natK_any ?_ | refine callK_intro (cN) ?_ | refine callK_intro (cI) ?_ | refine callK_intro (cK) ?_ | refine callK_intro (c_dbWithin _ _) ?_ | refine jy ?_ | refine ju ?_ | refine sideK_intro (by first | (rw [e1 (.inl (by assumption))] <;> first | rfl | exact ⟨rfl, rfl⟩ | exact ⟨rfl, rfl, rfl⟩) | (rw [e1 (.inr (by assumption))] <;> first | rfl | exact ⟨rfl, rfl⟩ | exact ⟨rfl, rfl, rfl⟩) | (rw [e2 (by assumption) (by assumption) ⟨by assumption, by assumption⟩] <;> first | rfl | exact ⟨rfl, rfl⟩ | exact ⟨rfl, rfl, rfl⟩) | (rw [e3 (by assumption) (by assumption) (.inl (by assumption)) (by omega)] <;> first | rfl | exact ⟨rfl, rfl⟩ | exact ⟨rfl, rfl, rfl⟩) | (rw [e3 (by assumption) (by assumption) (.inr (by assumption)) (by omega)] <;> first | rfl | exact ⟨rfl, rfl⟩ | exact ⟨rfl, rfl, rfl⟩) | (rw [e4 (by assumption) (by assumption) (.inl (by assumption)) (by omega)] <;> first | rfl | exact ⟨rfl, rfl⟩ | exact ⟨rfl, rfl, rfl⟩) | (rw [e4 (by assumption) (by assumption) (.inr (by assumption)) (by omega)] <;> first | rfl | exact ⟨rfl, rfl⟩ | exact ⟨rfl, rfl, rfl⟩)) ?_ | refine jv ?_)) <;> (try (conv => whnf))
theorem c_dbCheckEntry (s : DE) (hs : deSm 90000 s) : Fn Tryz.prog 30 [.a [.s s.x, .s s.y, .i .u64 s.k, .i .i64 s.kv, .i .i64 s.ex, .i .i64 s.ml, .i .i64 s.atr, .i .i64 s.fl, .i .i64 s.un]] [] (.one (.c (.o (.i .i64 (deC s))))) [] :=
  c_dbCheckEntryB s ⟨Nat.le_trans hs.1 (by decide), Nat.le_trans hs.2.1 (by decide), hs.2.2⟩
theorem c_rdbCheckEntryB (s : DE) (hs : deSm 9223372036854775807 s) : Fn Tryz.prog 42 [.a [.s s.x, .s s.y, .i .u64 s.k, .i .i64 s.kv, .i .i64 s.ex, .i .i64 s.ml, .i .i64 s.atr, .i .i64 s.fl, .i .i64 s.un]] [] (.one (.c (.o (.i .i64 (deC s))))) [] := by
  obtain ⟨h1, h2, h3⟩ := hs
  have cN := c_rValidName s.x (by omega)
  have cI := c_rValidInstance s.y (by omega)
  have cK := c_rkeyValid s.k h3
  have e1 := @deC_1 s
  have e2 := @deC_2 s
  have e3 := @deC_3 s
  have e4 := @deC_4 s
  unfold deN at e3 e4
  generalize deC s = R at *
  generalize nameS s.x = N at *
  generalize instS s.y = I at *
  generalize keyOk s.k = O at *
  refine Fn_intro (G := g42) (goodA rfl) (fn := Tryz.f42) rfl rfl rfl rfl rfl ?_
  (repeat' ((conv => whnf) <;> first | exact rfl | with_reducible refine boolK_dec (fun _ => ?_) (fun _ => ?_) <;> try (exfalso; omega) | refine boolK_beq (fun _ => ?_) (fun _ => ?_) <;> try (exfalso; first | omega | with_reducible contradiction) | refine boolK_bne (fun _ => ?_) (fun _ => ?_) <;> try (exfalso; first | omega | with_reducible contradiction) | (with_reducible first | refine boolK_not ?_ | refine boolK_and ?_ | refine boolK_or ?_ | refine boolK_true ?_ | refine boolK_false ?_) | refine boolK_intro (fun _ => ?_) (fun _ => ?_) <;> try (exfalso; simp_all; done) | with_reducible refine natK_lit ?_ | refine natK_of rfl ?_ | refine natK_any ?_ | refine callK_intro (cN) ?_ | refine callK_intro (cI) ?_ | refine callK_intro (cK) ?_ | refine callK_intro (c_rdbWithin _ _) ?_ | refine jy ?_ | refine ju ?_ | refine sideK_intro (by first | (rw [e1 (.inl (by assumption))] <;> first | rfl | exact ⟨rfl, rfl⟩ | exact ⟨rfl, rfl, rfl⟩) | (rw [e1 (.inr (by assumption))] <;> first | rfl | exact ⟨rfl, rfl⟩ | exact ⟨rfl, rfl, rfl⟩) | (rw [e2 (by assumption) (by assumption) ⟨by assumption, by assumption⟩] <;> first | rfl | exact ⟨rfl, rfl⟩ | exact ⟨rfl, rfl, rfl⟩) | (rw [e3 (by assumption) (by assumption) (.inl (by assumption)) (by omega)] <;> first | rfl | exact ⟨rfl, rfl⟩ | exact ⟨rfl, rfl, rfl⟩) | (rw [e3 (by assumption) (by assumption) (.inr (by assumption)) (by omega)] <;> first | rfl | exact ⟨rfl, rfl⟩ | exact ⟨rfl, rfl, rfl⟩) | (rw [e4 (by assumption) (by assumption) (.inl (by assumption)) (by omega)] <;> first | rfl | exact ⟨rfl, rfl⟩ | exact ⟨rfl, rfl, rfl⟩) | (rw [e4 (by assumption) (by assumption) (.inr (by assumption)) (by omega)] <;> first | rfl | exact ⟨rfl, rfl⟩ | exact ⟨rfl, rfl, rfl⟩)) ?_ | refine jv ?_)) <;> (try (conv => whnf))
end Go.Sx

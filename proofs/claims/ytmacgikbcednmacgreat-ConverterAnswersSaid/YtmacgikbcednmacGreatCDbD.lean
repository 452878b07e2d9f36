/-
  Contracts of the laws' data about databases, and of the small functions of the laws.
-/
import Derived.Test.YtmacgikbcednmacGreatPX2
import Derived.Test.YtmacgikbcednmacGreatCDbC
import Derived.Test.YtmacgikbcednmacGreatCSrvA
set_option linter.all false
namespace Go.Sx
open Go.Proofs Go.RowKit
noncomputable def g26 : Par := par 53 (nthLL [[0, 2], [0, 2, 3], [0, 2, 3, 10], [0, 2, 3], [0, 2, 4], [0, 2, 4, 36], [0, 2, 4], [0, 2, 4, 43], [0, 2, 4], [0, 2, 4, 47], [2, 4], [2]]) [2] (nthLL [[], [], [], [], [0, 1, 0, 4, 0, 16, 48, 0, 240, 0, 1008, 0, 4080, 8176, 0, 24560, 65520, 0, 188400, 524287, 0, 2097151]])
set_option maxRecDepth 10000
set_option maxHeartbeats 4000000
theorem c_Entry (l : List UInt8) (hl : l.length ≤ 900000) (k : Nat) : ∃ (e : DE) (k' : Nat), k < k' ∧ deV e ∧ Fn Tryz.prog 26 [.o (.p 1000 0)] [(1000, .st [.sl (l.map u8) l.length, .i .i64 (atS l k)])] (.one (.c (.a [.s e.x, .s e.y, .i .u64 e.k, .i .i64 e.kv, .i .i64 e.ex, .i .i64 e.ml, .i .i64 e.atr, .i .i64 e.fl, .i .i64 e.un]))) [(1000, .st [.sl (l.map u8) l.length, .i .i64 (atS l k')])] := by
  by_cases h0 : nx l (k + 1) 2 = 1
  · by_cases h1 : nx l (k + 9) 5 = 4
    · by_cases h2 : nx l (k + 11) 9 = 8
      · by_cases h3 : nx l (k + 12) 9 = 8
        · have b0 := nx_bounds l k (n := 3) (by omega)
          have b1 := nx_bounds l (k + 1) (n := 2) (by omega)
          have b2 := nx_bounds l (k + 2) (n := 3) (by omega)
          have b3 := nx_bounds l (k + 3) (n := 40) (by omega)
          have b4 := nx_bounds l (k + 4) (n := 256) (by omega)
          have b5 := nx_bounds l (k + 5) (n := 256) (by omega)
          have b6 := nx_bounds l (k + 6) (n := 5) (by omega)
          have b7 := nx_bounds l (k + 7) (n := 4) (by omega)
          have b8 := nx_bounds l (k + 8) (n := 21) (by omega)
          have b9 := nx_bounds l (k + 9) (n := 5) (by omega)
          have b10 := nx_bounds l (k + 10) (n := 256) (by omega)
          have b11 := nx_bounds l (k + 11) (n := 9) (by omega)
          have b12 := nx_bounds l (k + 12) (n := 9) (by omega)
          have b13 := nx_bounds l (k + 13) (n := 256) (by omega)
          have hat := attr_range b6 b7
          refine ⟨⟨serviceN (nx l (k + 2) 3), serviceI (nx l (k + 2) 3), 0, nx l (k + 4) 256, (nx l (k + 10) 256) * 200, nx l (k + 5) 256, (nx l (k + 6) 5) / 4 * (nx l (k + 7) 4), nx l (k + 8) 21, (nx l (k + 13) 256) * 100⟩, k + 14, by omega, ent_ok (service_valid _).1 (service_valid _).2 (.inl rfl) (by omega) (by omega) (by omega) (by omega) hat (by omega), ?_⟩
          refine Fn_intro (G := g26) (goodA rfl) (fn := Tryz.f26) rfl rfl rfl rfl rfl ?_
          (repeat' ((conv => whnf) <;> first | exact rfl | with_reducible refine boolK_dec (fun _ => ?_) (fun _ => ?_) <;> try (exfalso; omega) | refine boolK_beq (fun _ => ?_) (fun _ => ?_) <;> try (exfalso; first | omega | with_reducible contradiction) | refine boolK_bne (fun _ => ?_) (fun _ => ?_) <;> try (exfalso; first | omega | with_reducible contradiction) | (with_reducible first | refine boolK_not ?_ | refine boolK_and ?_ | refine boolK_or ?_ | refine boolK_true ?_ | refine boolK_false ?_) | refine boolK_intro (fun _ => ?_) (fun _ => ?_) <;> try (exfalso; simp_all; done) | refine jA ?_ | refine jB ?_ | refine jH ?_ | refine jI ?_ | refine jJ ?_ | refine jK ?_ | with_reducible refine natK_lit ?_ | refine natK_of rfl ?_ | refine natK_any ?_ | refine jL ?_ | refine jM ?_ | refine jN ?_ | refine callK_intro (c_nx l rfl k (k + 1) rfl _ (by omega) hl) ?_ | refine callK_intro (c_nx l rfl (k + 1) (k + 2) rfl _ (by omega) hl) ?_ | refine callK_intro (c_nx l rfl (k + 2) (k + 3) rfl _ (by omega) hl) ?_ | refine callK_intro (c_nx l rfl (k + 3) (k + 4) rfl _ (by omega) hl) ?_ | refine callK_intro (c_nx l rfl (k + 4) (k + 5) rfl _ (by omega) hl) ?_ | refine callK_intro (c_nx l rfl (k + 5) (k + 6) rfl _ (by omega) hl) ?_ | refine callK_intro (c_nx l rfl (k + 6) (k + 7) rfl _ (by omega) hl) ?_ | refine callK_intro (c_nx l rfl (k + 7) (k + 8) rfl _ (by omega) hl) ?_ | refine callK_intro (c_nx l rfl (k + 8) (k + 9) rfl _ (by omega) hl) ?_ | refine callK_intro (c_nx l rfl (k + 9) (k + 10) rfl _ (by omega) hl) ?_ | refine callK_intro (c_nx l rfl (k + 10) (k + 11) rfl _ (by omega) hl) ?_ | refine callK_intro (c_nx l rfl (k + 11) (k + 12) rfl _ (by omega) hl) ?_ | refine callK_intro (c_nx l rfl (k + 12) (k + 13) rfl _ (by omega) hl) ?_ | refine callK_intro (c_nx l rfl (k + 13) (k + 14) rfl _ (by omega) hl) ?_ | refine callK_intro (c_User _ (by omega)) ?_ | refine callK_intro (c_Service _ (by omega)) ?_ | refine callK_intro (c_Long _ (by omega)) ?_ | refine jA ?_ (by omega) | refine jy ?_ | refine ju ?_ | refine jv ?_)) <;> (try (conv => whnf))
        · have b0 := nx_bounds l k (n := 3) (by omega)
          have b1 := nx_bounds l (k + 1) (n := 2) (by omega)
          have b2 := nx_bounds l (k + 2) (n := 3) (by omega)
          have b3 := nx_bounds l (k + 3) (n := 40) (by omega)
          have b4 := nx_bounds l (k + 4) (n := 256) (by omega)
          have b5 := nx_bounds l (k + 5) (n := 256) (by omega)
          have b6 := nx_bounds l (k + 6) (n := 5) (by omega)
          have b7 := nx_bounds l (k + 7) (n := 4) (by omega)
          have b8 := nx_bounds l (k + 8) (n := 21) (by omega)
          have b9 := nx_bounds l (k + 9) (n := 5) (by omega)
          have b10 := nx_bounds l (k + 10) (n := 256) (by omega)
          have b11 := nx_bounds l (k + 11) (n := 9) (by omega)
          have b12 := nx_bounds l (k + 12) (n := 9) (by omega)
          have hat := attr_range b6 b7
          refine ⟨⟨serviceN (nx l (k + 2) 3), serviceI (nx l (k + 2) 3), 0, nx l (k + 4) 256, (nx l (k + 10) 256) * 200, nx l (k + 5) 256, (nx l (k + 6) 5) / 4 * (nx l (k + 7) 4), nx l (k + 8) 21, 0⟩, k + 13, by omega, ent_ok (service_valid _).1 (service_valid _).2 (.inl rfl) (by omega) (by omega) (by omega) (by omega) hat (by omega), ?_⟩
          refine Fn_intro (G := g26) (goodA rfl) (fn := Tryz.f26) rfl rfl rfl rfl rfl ?_
          (repeat' ((conv => whnf) <;> first | exact rfl | with_reducible refine boolK_dec (fun _ => ?_) (fun _ => ?_) <;> try (exfalso; omega) | refine boolK_beq (fun _ => ?_) (fun _ => ?_) <;> try (exfalso; first | omega | with_reducible contradiction) | refine boolK_bne (fun _ => ?_) (fun _ => ?_) <;> try (exfalso; first | omega | with_reducible contradiction) | (with_reducible first | refine boolK_not ?_ | refine boolK_and ?_ | refine boolK_or ?_ | refine boolK_true ?_ | refine boolK_false ?_) | refine boolK_intro (fun _ => ?_) (fun _ => ?_) <;> try (exfalso; simp_all; done) | refine jA ?_ | refine jB ?_ | refine jH ?_ | refine jI ?_ | refine jJ ?_ | refine jK ?_ | with_reducible refine natK_lit ?_ | refine natK_of rfl ?_ | refine natK_any ?_ | refine jL ?_ | refine jM ?_ | refine jN ?_ | refine callK_intro (c_nx l rfl k (k + 1) rfl _ (by omega) hl) ?_ | refine callK_intro (c_nx l rfl (k + 1) (k + 2) rfl _ (by omega) hl) ?_ | refine callK_intro (c_nx l rfl (k + 2) (k + 3) rfl _ (by omega) hl) ?_ | refine callK_intro (c_nx l rfl (k + 3) (k + 4) rfl _ (by omega) hl) ?_ | refine callK_intro (c_nx l rfl (k + 4) (k + 5) rfl _ (by omega) hl) ?_ | refine callK_intro (c_nx l rfl (k + 5) (k + 6) rfl _ (by omega) hl) ?_ | refine callK_intro (c_nx l rfl (k + 6) (k + 7) rfl _ (by omega) hl) ?_ | refine callK_intro (c_nx l rfl (k + 7) (k + 8) rfl _ (by omega) hl) ?_ | refine callK_intro (c_nx l rfl (k + 8) (k + 9) rfl _ (by omega) hl) ?_ | refine callK_intro (c_nx l rfl (k + 9) (k + 10) rfl _ (by omega) hl) ?_ | refine callK_intro (c_nx l rfl (k + 10) (k + 11) rfl _ (by omega) hl) ?_ | refine callK_intro (c_nx l rfl (k + 11) (k + 12) rfl _ (by omega) hl) ?_ | refine callK_intro (c_nx l rfl (k + 12) (k + 13) rfl _ (by omega) hl) ?_ | refine callK_intro (c_User _ (by omega)) ?_ | refine callK_intro (c_Service _ (by omega)) ?_ | refine callK_intro (c_Long _ (by omega)) ?_ | refine jA ?_ (by omega) | refine jy ?_ | refine ju ?_ | refine jv ?_)) <;> (try (conv => whnf))
      · by_cases h3 : nx l (k + 12) 9 = 8
        · have b0 := nx_bounds l k (n := 3) (by omega)
          have b1 := nx_bounds l (k + 1) (n := 2) (by omega)
          have b2 := nx_bounds l (k + 2) (n := 3) (by omega)
          have b3 := nx_bounds l (k + 3) (n := 40) (by omega)
          have b4 := nx_bounds l (k + 4) (n := 256) (by omega)
          have b5 := nx_bounds l (k + 5) (n := 256) (by omega)
          have b6 := nx_bounds l (k + 6) (n := 5) (by omega)
          have b7 := nx_bounds l (k + 7) (n := 4) (by omega)
          have b8 := nx_bounds l (k + 8) (n := 21) (by omega)
          have b9 := nx_bounds l (k + 9) (n := 5) (by omega)
          have b10 := nx_bounds l (k + 10) (n := 256) (by omega)
          have b11 := nx_bounds l (k + 11) (n := 9) (by omega)
          have b12 := nx_bounds l (k + 12) (n := 9) (by omega)
          have b13 := nx_bounds l (k + 13) (n := 256) (by omega)
          have hat := attr_range b6 b7
          refine ⟨⟨serviceN (nx l (k + 2) 3), serviceI (nx l (k + 2) 3), longK (nx l (k + 3) 40), nx l (k + 4) 256, (nx l (k + 10) 256) * 200, nx l (k + 5) 256, (nx l (k + 6) 5) / 4 * (nx l (k + 7) 4), nx l (k + 8) 21, (nx l (k + 13) 256) * 100⟩, k + 14, by omega, ent_ok (service_valid _).1 (service_valid _).2 (.inr (long_ok (by omega)).1) (by omega) (by omega) (by omega) (by omega) hat (by omega), ?_⟩
          refine Fn_intro (G := g26) (goodA rfl) (fn := Tryz.f26) rfl rfl rfl rfl rfl ?_
          (repeat' ((conv => whnf) <;> first | exact rfl | with_reducible refine boolK_dec (fun _ => ?_) (fun _ => ?_) <;> try (exfalso; omega) | refine boolK_beq (fun _ => ?_) (fun _ => ?_) <;> try (exfalso; first | omega | with_reducible contradiction) | refine boolK_bne (fun _ => ?_) (fun _ => ?_) <;> try (exfalso; first | omega | with_reducible contradiction) | (with_reducible first | refine boolK_not ?_ | refine boolK_and ?_ | refine boolK_or ?_ | refine boolK_true ?_ | refine boolK_false ?_) | refine boolK_intro (fun _ => ?_) (fun _ => ?_) <;> try (exfalso; simp_all; done) | refine jA ?_ | refine jB ?_ | refine jH ?_ | refine jI ?_ | refine jJ ?_ | refine jK ?_ | with_reducible refine natK_lit ?_ | refine natK_of rfl ?_ | refine natK_any ?_ | refine jL ?_ | refine jM ?_ | refine jN ?_ | refine callK_intro (c_nx l rfl k (k + 1) rfl _ (by omega) hl) ?_ | refine callK_intro (c_nx l rfl (k + 1) (k + 2) rfl _ (by omega) hl) ?_ | refine callK_intro (c_nx l rfl (k + 2) (k + 3) rfl _ (by omega) hl) ?_ | refine callK_intro (c_nx l rfl (k + 3) (k + 4) rfl _ (by omega) hl) ?_ | refine callK_intro (c_nx l rfl (k + 4) (k + 5) rfl _ (by omega) hl) ?_ | refine callK_intro (c_nx l rfl (k + 5) (k + 6) rfl _ (by omega) hl) ?_ | refine callK_intro (c_nx l rfl (k + 6) (k + 7) rfl _ (by omega) hl) ?_ | refine callK_intro (c_nx l rfl (k + 7) (k + 8) rfl _ (by omega) hl) ?_ | refine callK_intro (c_nx l rfl (k + 8) (k + 9) rfl _ (by omega) hl) ?_ | refine callK_intro (c_nx l rfl (k + 9) (k + 10) rfl _ (by omega) hl) ?_ | refine callK_intro (c_nx l rfl (k + 10) (k + 11) rfl _ (by omega) hl) ?_ | refine callK_intro (c_nx l rfl (k + 11) (k + 12) rfl _ (by omega) hl) ?_ | refine callK_intro (c_nx l rfl (k + 12) (k + 13) rfl _ (by omega) hl) ?_ | refine callK_intro (c_nx l rfl (k + 13) (k + 14) rfl _ (by omega) hl) ?_ | refine callK_intro (c_User _ (by omega)) ?_ | refine callK_intro (c_Service _ (by omega)) ?_ | refine callK_intro (c_Long _ (by omega)) ?_ | refine jA ?_ (by omega) | refine jy ?_ | refine ju ?_ | refine jv ?_)) <;> (try (conv => whnf))
        · have b0 := nx_bounds l k (n := 3) (by omega)
          have b1 := nx_bounds l (k + 1) (n := 2) (by omega)
          have b2 := nx_bounds l (k + 2) (n := 3) (by omega)
          have b3 := nx_bounds l (k + 3) (n := 40) (by omega)
          have b4 := nx_bounds l (k + 4) (n := 256) (by omega)
          have b5 := nx_bounds l (k + 5) (n := 256) (by omega)
          have b6 := nx_bounds l (k + 6) (n := 5) (by omega)
          have b7 := nx_bounds l (k + 7) (n := 4) (by omega)
          have b8 := nx_bounds l (k + 8) (n := 21) (by omega)
          have b9 := nx_bounds l (k + 9) (n := 5) (by omega)
          have b10 := nx_bounds l (k + 10) (n := 256) (by omega)
          have b11 := nx_bounds l (k + 11) (n := 9) (by omega)
          have b12 := nx_bounds l (k + 12) (n := 9) (by omega)
          have hat := attr_range b6 b7
          refine ⟨⟨serviceN (nx l (k + 2) 3), serviceI (nx l (k + 2) 3), longK (nx l (k + 3) 40), nx l (k + 4) 256, (nx l (k + 10) 256) * 200, nx l (k + 5) 256, (nx l (k + 6) 5) / 4 * (nx l (k + 7) 4), nx l (k + 8) 21, 0⟩, k + 13, by omega, ent_ok (service_valid _).1 (service_valid _).2 (.inr (long_ok (by omega)).1) (by omega) (by omega) (by omega) (by omega) hat (by omega), ?_⟩
          refine Fn_intro (G := g26) (goodA rfl) (fn := Tryz.f26) rfl rfl rfl rfl rfl ?_
          (repeat' ((conv => whnf) <;> first | exact rfl | with_reducible refine boolK_dec (fun _ => ?_) (fun _ => ?_) <;> try (exfalso; omega) | refine boolK_beq (fun _ => ?_) (fun _ => ?_) <;> try (exfalso; first | omega | with_reducible contradiction) | refine boolK_bne (fun _ => ?_) (fun _ => ?_) <;> try (exfalso; first | omega | with_reducible contradiction) | (with_reducible first | refine boolK_not ?_ | refine boolK_and ?_ | refine boolK_or ?_ | refine boolK_true ?_ | refine boolK_false ?_) | refine boolK_intro (fun _ => ?_) (fun _ => ?_) <;> try (exfalso; simp_all; done) | refine jA ?_ | refine jB ?_ | refine jH ?_ | refine jI ?_ | refine jJ ?_ | refine jK ?_ | with_reducible refine natK_lit ?_ | refine natK_of rfl ?_ | refine natK_any ?_ | refine jL ?_ | refine jM ?_ | refine jN ?_ | refine callK_intro (c_nx l rfl k (k + 1) rfl _ (by omega) hl) ?_ | refine callK_intro (c_nx l rfl (k + 1) (k + 2) rfl _ (by omega) hl) ?_ | refine callK_intro (c_nx l rfl (k + 2) (k + 3) rfl _ (by omega) hl) ?_ | refine callK_intro (c_nx l rfl (k + 3) (k + 4) rfl _ (by omega) hl) ?_ | refine callK_intro (c_nx l rfl (k + 4) (k + 5) rfl _ (by omega) hl) ?_ | refine callK_intro (c_nx l rfl (k + 5) (k + 6) rfl _ (by omega) hl) ?_ | refine callK_intro (c_nx l rfl (k + 6) (k + 7) rfl _ (by omega) hl) ?_ | refine callK_intro (c_nx l rfl (k + 7) (k + 8) rfl _ (by omega) hl) ?_ | refine callK_intro (c_nx l rfl (k + 8) (k + 9) rfl _ (by omega) hl) ?_ | refine callK_intro (c_nx l rfl (k + 9) (k + 10) rfl _ (by omega) hl) ?_ | refine callK_intro (c_nx l rfl (k + 10) (k + 11) rfl _ (by omega) hl) ?_ | refine callK_intro (c_nx l rfl (k + 11) (k + 12) rfl _ (by omega) hl) ?_ | refine callK_intro (c_nx l rfl (k + 12) (k + 13) rfl _ (by omega) hl) ?_ | refine callK_intro (c_User _ (by omega)) ?_ | refine callK_intro (c_Service _ (by omega)) ?_ | refine callK_intro (c_Long _ (by omega)) ?_ | refine jA ?_ (by omega) | refine jy ?_ | refine ju ?_ | refine jv ?_)) <;> (try (conv => whnf))
    · by_cases h2 : nx l (k + 10) 9 = 8
      · by_cases h3 : nx l (k + 11) 9 = 8
        · have b0 := nx_bounds l k (n := 3) (by omega)
          have b1 := nx_bounds l (k + 1) (n := 2) (by omega)
          have b2 := nx_bounds l (k + 2) (n := 3) (by omega)
          have b3 := nx_bounds l (k + 3) (n := 40) (by omega)
          have b4 := nx_bounds l (k + 4) (n := 256) (by omega)
          have b5 := nx_bounds l (k + 5) (n := 256) (by omega)
          have b6 := nx_bounds l (k + 6) (n := 5) (by omega)
          have b7 := nx_bounds l (k + 7) (n := 4) (by omega)
          have b8 := nx_bounds l (k + 8) (n := 21) (by omega)
          have b9 := nx_bounds l (k + 9) (n := 5) (by omega)
          have b10 := nx_bounds l (k + 10) (n := 9) (by omega)
          have b11 := nx_bounds l (k + 11) (n := 9) (by omega)
          have b12 := nx_bounds l (k + 12) (n := 256) (by omega)
          have hat := attr_range b6 b7
          refine ⟨⟨serviceN (nx l (k + 2) 3), serviceI (nx l (k + 2) 3), 0, nx l (k + 4) 256, 0, nx l (k + 5) 256, (nx l (k + 6) 5) / 4 * (nx l (k + 7) 4), nx l (k + 8) 21, (nx l (k + 12) 256) * 100⟩, k + 13, by omega, ent_ok (service_valid _).1 (service_valid _).2 (.inl rfl) (by omega) (by omega) (by omega) (by omega) hat (by omega), ?_⟩
          refine Fn_intro (G := g26) (goodA rfl) (fn := Tryz.f26) rfl rfl rfl rfl rfl ?_
          (repeat' ((conv => whnf) <;> first | exact rfl | with_reducible refine boolK_dec (fun _ => ?_) (fun _ => ?_) <;> try (exfalso; omega) | refine boolK_beq (fun _ => ?_) (fun _ => ?_) <;> try (exfalso; first | omega | with_reducible contradiction) | refine boolK_bne (fun _ => ?_) (fun _ => ?_) <;> try (exfalso; first | omega | with_reducible contradiction) | (with_reducible first | refine boolK_not ?_ | refine boolK_and ?_ | refine boolK_or ?_ | refine boolK_true ?_ | refine boolK_false ?_) | refine boolK_intro (fun _ => ?_) (fun _ => ?_) <;> try (exfalso; simp_all; done) | refine jA ?_ | refine jB ?_ | refine jH ?_ | refine jI ?_ | refine jJ ?_ | refine jK ?_ | with_reducible refine natK_lit ?_ | refine natK_of rfl ?_ | refine natK_any ?_ | refine jL ?_ | refine jM ?_ | refine jN ?_ | refine callK_intro (c_nx l rfl k (k + 1) rfl _ (by omega) hl) ?_ | refine callK_intro (c_nx l rfl (k + 1) (k + 2) rfl _ (by omega) hl) ?_ | refine callK_intro (c_nx l rfl (k + 2) (k + 3) rfl _ (by omega) hl) ?_ | refine callK_intro (c_nx l rfl (k + 3) (k + 4) rfl _ (by omega) hl) ?_ | refine callK_intro (c_nx l rfl (k + 4) (k + 5) rfl _ (by omega) hl) ?_ | refine callK_intro (c_nx l rfl (k + 5) (k + 6) rfl _ (by omega) hl) ?_ | refine callK_intro (c_nx l rfl (k + 6) (k + 7) rfl _ (by omega) hl) ?_ | refine callK_intro (c_nx l rfl (k + 7) (k + 8) rfl _ (by omega) hl) ?_ | refine callK_intro (c_nx l rfl (k + 8) (k + 9) rfl _ (by omega) hl) ?_ | refine callK_intro (c_nx l rfl (k + 9) (k + 10) rfl _ (by omega) hl) ?_ | refine callK_intro (c_nx l rfl (k + 10) (k + 11) rfl _ (by omega) hl) ?_ | refine callK_intro (c_nx l rfl (k + 11) (k + 12) rfl _ (by omega) hl) ?_ | refine callK_intro (c_nx l rfl (k + 12) (k + 13) rfl _ (by omega) hl) ?_ | refine callK_intro (c_User _ (by omega)) ?_ | refine callK_intro (c_Service _ (by omega)) ?_ | refine callK_intro (c_Long _ (by omega)) ?_ | refine jA ?_ (by omega) | refine jy ?_ | refine ju ?_ | refine jv ?_)) <;> (try (conv => whnf))
        · have b0 := nx_bounds l k (n := 3) (by omega)
          have b1 := nx_bounds l (k + 1) (n := 2) (by omega)
          have b2 := nx_bounds l (k + 2) (n := 3) (by omega)
          have b3 := nx_bounds l (k + 3) (n := 40) (by omega)
          have b4 := nx_bounds l (k + 4) (n := 256) (by omega)
          have b5 := nx_bounds l (k + 5) (n := 256) (by omega)
          have b6 := nx_bounds l (k + 6) (n := 5) (by omega)
          have b7 := nx_bounds l (k + 7) (n := 4) (by omega)
          have b8 := nx_bounds l (k + 8) (n := 21) (by omega)
          have b9 := nx_bounds l (k + 9) (n := 5) (by omega)
          have b10 := nx_bounds l (k + 10) (n := 9) (by omega)
          have b11 := nx_bounds l (k + 11) (n := 9) (by omega)
          have hat := attr_range b6 b7
          refine ⟨⟨serviceN (nx l (k + 2) 3), serviceI (nx l (k + 2) 3), 0, nx l (k + 4) 256, 0, nx l (k + 5) 256, (nx l (k + 6) 5) / 4 * (nx l (k + 7) 4), nx l (k + 8) 21, 0⟩, k + 12, by omega, ent_ok (service_valid _).1 (service_valid _).2 (.inl rfl) (by omega) (by omega) (by omega) (by omega) hat (by omega), ?_⟩
          refine Fn_intro (G := g26) (goodA rfl) (fn := Tryz.f26) rfl rfl rfl rfl rfl ?_
          (repeat' ((conv => whnf) <;> first | exact rfl | with_reducible refine boolK_dec (fun _ => ?_) (fun _ => ?_) <;> try (exfalso; omega) | refine boolK_beq (fun _ => ?_) (fun _ => ?_) <;> try (exfalso; first | omega | with_reducible contradiction) | refine boolK_bne (fun _ => ?_) (fun _ => ?_) <;> try (exfalso; first | omega | with_reducible contradiction) | (with_reducible first | refine boolK_not ?_ | refine boolK_and ?_ | refine boolK_or ?_ | refine boolK_true ?_ | refine boolK_false ?_) | refine boolK_intro (fun _ => ?_) (fun _ => ?_) <;> try (exfalso; simp_all; done) | refine jA ?_ | refine jB ?_ | refine jH ?_ | refine jI ?_ | refine jJ ?_ | refine jK ?_ | with_reducible refine natK_lit ?_ | refine natK_of rfl ?_ | refine natK_any ?_ | refine jL ?_ | refine jM ?_ | refine jN ?_ | refine callK_intro (c_nx l rfl k (k + 1) rfl _ (by omega) hl) ?_ | refine callK_intro (c_nx l rfl (k + 1) (k + 2) rfl _ (by omega) hl) ?_ | refine callK_intro (c_nx l rfl (k + 2) (k + 3) rfl _ (by omega) hl) ?_ | refine callK_intro (c_nx l rfl (k + 3) (k + 4) rfl _ (by omega) hl) ?_ | refine callK_intro (c_nx l rfl (k + 4) (k + 5) rfl _ (by omega) hl) ?_ | refine callK_intro (c_nx l rfl (k + 5) (k + 6) rfl _ (by omega) hl) ?_ | refine callK_intro (c_nx l rfl (k + 6) (k + 7) rfl _ (by omega) hl) ?_ | refine callK_intro (c_nx l rfl (k + 7) (k + 8) rfl _ (by omega) hl) ?_ | refine callK_intro (c_nx l rfl (k + 8) (k + 9) rfl _ (by omega) hl) ?_ | refine callK_intro (c_nx l rfl (k + 9) (k + 10) rfl _ (by omega) hl) ?_ | refine callK_intro (c_nx l rfl (k + 10) (k + 11) rfl _ (by omega) hl) ?_ | refine callK_intro (c_nx l rfl (k + 11) (k + 12) rfl _ (by omega) hl) ?_ | refine callK_intro (c_User _ (by omega)) ?_ | refine callK_intro (c_Service _ (by omega)) ?_ | refine callK_intro (c_Long _ (by omega)) ?_ | refine jA ?_ (by omega) | refine jy ?_ | refine ju ?_ | refine jv ?_)) <;> (try (conv => whnf))
      · by_cases h3 : nx l (k + 11) 9 = 8
        · have b0 := nx_bounds l k (n := 3) (by omega)
          have b1 := nx_bounds l (k + 1) (n := 2) (by omega)
          have b2 := nx_bounds l (k + 2) (n := 3) (by omega)
          have b3 := nx_bounds l (k + 3) (n := 40) (by omega)
          have b4 := nx_bounds l (k + 4) (n := 256) (by omega)
          have b5 := nx_bounds l (k + 5) (n := 256) (by omega)
          have b6 := nx_bounds l (k + 6) (n := 5) (by omega)
          have b7 := nx_bounds l (k + 7) (n := 4) (by omega)
          have b8 := nx_bounds l (k + 8) (n := 21) (by omega)
          have b9 := nx_bounds l (k + 9) (n := 5) (by omega)
          have b10 := nx_bounds l (k + 10) (n := 9) (by omega)
          have b11 := nx_bounds l (k + 11) (n := 9) (by omega)
          have b12 := nx_bounds l (k + 12) (n := 256) (by omega)
          have hat := attr_range b6 b7
          refine ⟨⟨serviceN (nx l (k + 2) 3), serviceI (nx l (k + 2) 3), longK (nx l (k + 3) 40), nx l (k + 4) 256, 0, nx l (k + 5) 256, (nx l (k + 6) 5) / 4 * (nx l (k + 7) 4), nx l (k + 8) 21, (nx l (k + 12) 256) * 100⟩, k + 13, by omega, ent_ok (service_valid _).1 (service_valid _).2 (.inr (long_ok (by omega)).1) (by omega) (by omega) (by omega) (by omega) hat (by omega), ?_⟩
          refine Fn_intro (G := g26) (goodA rfl) (fn := Tryz.f26) rfl rfl rfl rfl rfl ?_
          (repeat' ((conv => whnf) <;> first | exact rfl | with_reducible refine boolK_dec (fun _ => ?_) (fun _ => ?_) <;> try (exfalso; omega) | refine boolK_beq (fun _ => ?_) (fun _ => ?_) <;> try (exfalso; first | omega | with_reducible contradiction) | refine boolK_bne (fun _ => ?_) (fun _ => ?_) <;> try (exfalso; first | omega | with_reducible contradiction) | (with_reducible first | refine boolK_not ?_ | refine boolK_and ?_ | refine boolK_or ?_ | refine boolK_true ?_ | refine boolK_false ?_) | refine boolK_intro (fun _ => ?_) (fun _ => ?_) <;> try (exfalso; simp_all; done) | refine jA ?_ | refine jB ?_ | refine jH ?_ | refine jI ?_ | refine jJ ?_ | refine jK ?_ | with_reducible refine natK_lit ?_ | refine natK_of rfl ?_ | refine natK_any ?_ | refine jL ?_ | refine jM ?_ | refine jN ?_ | refine callK_intro (c_nx l rfl k (k + 1) rfl _ (by omega) hl) ?_ | refine callK_intro (c_nx l rfl (k + 1) (k + 2) rfl _ (by omega) hl) ?_ | refine callK_intro (c_nx l rfl (k + 2) (k + 3) rfl _ (by omega) hl) ?_ | refine callK_intro (c_nx l rfl (k + 3) (k + 4) rfl _ (by omega) hl) ?_ | refine callK_intro (c_nx l rfl (k + 4) (k + 5) rfl _ (by omega) hl) ?_ | refine callK_intro (c_nx l rfl (k + 5) (k + 6) rfl _ (by omega) hl) ?_ | refine callK_intro (c_nx l rfl (k + 6) (k + 7) rfl _ (by omega) hl) ?_ | refine callK_intro (c_nx l rfl (k + 7) (k + 8) rfl _ (by omega) hl) ?_ | refine callK_intro (c_nx l rfl (k + 8) (k + 9) rfl _ (by omega) hl) ?_ | refine callK_intro (c_nx l rfl (k + 9) (k + 10) rfl _ (by omega) hl) ?_ | refine callK_intro (c_nx l rfl (k + 10) (k + 11) rfl _ (by omega) hl) ?_ | refine callK_intro (c_nx l rfl (k + 11) (k + 12) rfl _ (by omega) hl) ?_ | refine callK_intro (c_nx l rfl (k + 12) (k + 13) rfl _ (by omega) hl) ?_ | refine callK_intro (c_User _ (by omega)) ?_ | refine callK_intro (c_Service _ (by omega)) ?_ | refine callK_intro (c_Long _ (by omega)) ?_ | refine jA ?_ (by omega) | refine jy ?_ | refine ju ?_ | refine jv ?_)) <;> (try (conv => whnf))
        · have b0 := nx_bounds l k (n := 3) (by omega)
          have b1 := nx_bounds l (k + 1) (n := 2) (by omega)
          have b2 := nx_bounds l (k + 2) (n := 3) (by omega)
          have b3 := nx_bounds l (k + 3) (n := 40) (by omega)
          have b4 := nx_bounds l (k + 4) (n := 256) (by omega)
          have b5 := nx_bounds l (k + 5) (n := 256) (by omega)
          have b6 := nx_bounds l (k + 6) (n := 5) (by omega)
          have b7 := nx_bounds l (k + 7) (n := 4) (by omega)
          have b8 := nx_bounds l (k + 8) (n := 21) (by omega)
          have b9 := nx_bounds l (k + 9) (n := 5) (by omega)
          have b10 := nx_bounds l (k + 10) (n := 9) (by omega)
          have b11 := nx_bounds l (k + 11) (n := 9) (by omega)
          have hat := attr_range b6 b7
          refine ⟨⟨serviceN (nx l (k + 2) 3), serviceI (nx l (k + 2) 3), longK (nx l (k + 3) 40), nx l (k + 4) 256, 0, nx l (k + 5) 256, (nx l (k + 6) 5) / 4 * (nx l (k + 7) 4), nx l (k + 8) 21, 0⟩, k + 12, by omega, ent_ok (service_valid _).1 (service_valid _).2 (.inr (long_ok (by omega)).1) (by omega) (by omega) (by omega) (by omega) hat (by omega), ?_⟩
          refine Fn_intro (G := g26) (goodA rfl) (fn := Tryz.f26) rfl rfl rfl rfl rfl ?_
          (repeat' ((conv => whnf) <;> first | exact rfl | with_reducible refine boolK_dec (fun _ => ?_) (fun _ => ?_) <;> try (exfalso; omega) | refine boolK_beq (fun _ => ?_) (fun _ => ?_) <;> try (exfalso; first | omega | with_reducible contradiction) | refine boolK_bne (fun _ => ?_) (fun _ => ?_) <;> try (exfalso; first | omega | with_reducible contradiction) | (with_reducible first | refine boolK_not ?_ | refine boolK_and ?_ | refine boolK_or ?_ | refine boolK_true ?_ | refine boolK_false ?_) | refine boolK_intro (fun _ => ?_) (fun _ => ?_) <;> try (exfalso; simp_all; done) | refine jA ?_ | refine jB ?_ | refine jH ?_ | refine jI ?_ | refine jJ ?_ | refine jK ?_ | with_reducible refine natK_lit ?_ | refine natK_of rfl ?_ | refine natK_any ?_ | refine jL ?_ | refine jM ?_ | refine jN ?_ | refine callK_intro (c_nx l rfl k (k + 1) rfl _ (by omega) hl) ?_ | refine callK_intro (c_nx l rfl (k + 1) (k + 2) rfl _ (by omega) hl) ?_ | refine callK_intro (c_nx l rfl (k + 2) (k + 3) rfl _ (by omega) hl) ?_ | refine callK_intro (c_nx l rfl (k + 3) (k + 4) rfl _ (by omega) hl) ?_ | refine callK_intro (c_nx l rfl (k + 4) (k + 5) rfl _ (by omega) hl) ?_ | refine callK_intro (c_nx l rfl (k + 5) (k + 6) rfl _ (by omega) hl) ?_ | refine callK_intro (c_nx l rfl (k + 6) (k + 7) rfl _ (by omega) hl) ?_ | refine callK_intro (c_nx l rfl (k + 7) (k + 8) rfl _ (by omega) hl) ?_ | refine callK_intro (c_nx l rfl (k + 8) (k + 9) rfl _ (by omega) hl) ?_ | refine callK_intro (c_nx l rfl (k + 9) (k + 10) rfl _ (by omega) hl) ?_ | refine callK_intro (c_nx l rfl (k + 10) (k + 11) rfl _ (by omega) hl) ?_ | refine callK_intro (c_nx l rfl (k + 11) (k + 12) rfl _ (by omega) hl) ?_ | refine callK_intro (c_User _ (by omega)) ?_ | refine callK_intro (c_Service _ (by omega)) ?_ | refine callK_intro (c_Long _ (by omega)) ?_ | refine jA ?_ (by omega) | refine jy ?_ | refine ju ?_ | refine jv ?_)) <;> (try (conv => whnf))
  · by_cases h1 : nx l (k + 8) 5 = 4
    · by_cases h2 : nx l (k + 10) 9 = 8
      · by_cases h3 : nx l (k + 11) 9 = 8
        · have b0 := nx_bounds l k (n := 3) (by omega)
          have b1 := nx_bounds l (k + 1) (n := 2) (by omega)
          have b2 := nx_bounds l (k + 2) (n := 40) (by omega)
          have b3 := nx_bounds l (k + 3) (n := 256) (by omega)
          have b4 := nx_bounds l (k + 4) (n := 256) (by omega)
          have b5 := nx_bounds l (k + 5) (n := 5) (by omega)
          have b6 := nx_bounds l (k + 6) (n := 4) (by omega)
          have b7 := nx_bounds l (k + 7) (n := 21) (by omega)
          have b8 := nx_bounds l (k + 8) (n := 5) (by omega)
          have b9 := nx_bounds l (k + 9) (n := 256) (by omega)
          have b10 := nx_bounds l (k + 10) (n := 9) (by omega)
          have b11 := nx_bounds l (k + 11) (n := 9) (by omega)
          have b12 := nx_bounds l (k + 12) (n := 256) (by omega)
          have hat := attr_range b5 b6
          refine ⟨⟨userN (nx l k 3), [], 0, nx l (k + 3) 256, (nx l (k + 9) 256) * 200, nx l (k + 4) 256, (nx l (k + 5) 5) / 4 * (nx l (k + 6) 4), nx l (k + 7) 21, (nx l (k + 12) 256) * 100⟩, k + 13, by omega, ent_ok (user_parts _) inst_nil (.inl rfl) (by omega) (by omega) (by omega) (by omega) hat (by omega), ?_⟩
          refine Fn_intro (G := g26) (goodA rfl) (fn := Tryz.f26) rfl rfl rfl rfl rfl ?_
          (repeat' ((conv => whnf) <;> first | exact rfl | with_reducible refine boolK_dec (fun _ => ?_) (fun _ => ?_) <;> try (exfalso; omega) | refine boolK_beq (fun _ => ?_) (fun _ => ?_) <;> try (exfalso; first | omega | with_reducible contradiction) | refine boolK_bne (fun _ => ?_) (fun _ => ?_) <;> try (exfalso; first | omega | with_reducible contradiction) | (with_reducible first | refine boolK_not ?_ | refine boolK_and ?_ | refine boolK_or ?_ | refine boolK_true ?_ | refine boolK_false ?_) | refine boolK_intro (fun _ => ?_) (fun _ => ?_) <;> try (exfalso; simp_all; done) | refine jA ?_ | refine jB ?_ | refine jH ?_ | refine jI ?_ | refine jJ ?_ | refine jK ?_ | with_reducible refine natK_lit ?_ | refine natK_of rfl ?_ | refine natK_any ?_ | refine jL ?_ | refine jM ?_ | refine jN ?_ | refine callK_intro (c_nx l rfl k (k + 1) rfl _ (by omega) hl) ?_ | refine callK_intro (c_nx l rfl (k + 1) (k + 2) rfl _ (by omega) hl) ?_ | refine callK_intro (c_nx l rfl (k + 2) (k + 3) rfl _ (by omega) hl) ?_ | refine callK_intro (c_nx l rfl (k + 3) (k + 4) rfl _ (by omega) hl) ?_ | refine callK_intro (c_nx l rfl (k + 4) (k + 5) rfl _ (by omega) hl) ?_ | refine callK_intro (c_nx l rfl (k + 5) (k + 6) rfl _ (by omega) hl) ?_ | refine callK_intro (c_nx l rfl (k + 6) (k + 7) rfl _ (by omega) hl) ?_ | refine callK_intro (c_nx l rfl (k + 7) (k + 8) rfl _ (by omega) hl) ?_ | refine callK_intro (c_nx l rfl (k + 8) (k + 9) rfl _ (by omega) hl) ?_ | refine callK_intro (c_nx l rfl (k + 9) (k + 10) rfl _ (by omega) hl) ?_ | refine callK_intro (c_nx l rfl (k + 10) (k + 11) rfl _ (by omega) hl) ?_ | refine callK_intro (c_nx l rfl (k + 11) (k + 12) rfl _ (by omega) hl) ?_ | refine callK_intro (c_nx l rfl (k + 12) (k + 13) rfl _ (by omega) hl) ?_ | refine callK_intro (c_User _ (by omega)) ?_ | refine callK_intro (c_Service _ (by omega)) ?_ | refine callK_intro (c_Long _ (by omega)) ?_ | refine jA ?_ (by omega) | refine jy ?_ | refine ju ?_ | refine jv ?_)) <;> (try (conv => whnf))
        · have b0 := nx_bounds l k (n := 3) (by omega)
          have b1 := nx_bounds l (k + 1) (n := 2) (by omega)
          have b2 := nx_bounds l (k + 2) (n := 40) (by omega)
          have b3 := nx_bounds l (k + 3) (n := 256) (by omega)
          have b4 := nx_bounds l (k + 4) (n := 256) (by omega)
          have b5 := nx_bounds l (k + 5) (n := 5) (by omega)
          have b6 := nx_bounds l (k + 6) (n := 4) (by omega)
          have b7 := nx_bounds l (k + 7) (n := 21) (by omega)
          have b8 := nx_bounds l (k + 8) (n := 5) (by omega)
          have b9 := nx_bounds l (k + 9) (n := 256) (by omega)
          have b10 := nx_bounds l (k + 10) (n := 9) (by omega)
          have b11 := nx_bounds l (k + 11) (n := 9) (by omega)
          have hat := attr_range b5 b6
          refine ⟨⟨userN (nx l k 3), [], 0, nx l (k + 3) 256, (nx l (k + 9) 256) * 200, nx l (k + 4) 256, (nx l (k + 5) 5) / 4 * (nx l (k + 6) 4), nx l (k + 7) 21, 0⟩, k + 12, by omega, ent_ok (user_parts _) inst_nil (.inl rfl) (by omega) (by omega) (by omega) (by omega) hat (by omega), ?_⟩
          refine Fn_intro (G := g26) (goodA rfl) (fn := Tryz.f26) rfl rfl rfl rfl rfl ?_
          (repeat' ((conv => whnf) <;> first | exact rfl | with_reducible refine boolK_dec (fun _ => ?_) (fun _ => ?_) <;> try (exfalso; omega) | refine boolK_beq (fun _ => ?_) (fun _ => ?_) <;> try (exfalso; first | omega | with_reducible contradiction) | refine boolK_bne (fun _ => ?_) (fun _ => ?_) <;> try (exfalso; first | omega | with_reducible contradiction) | (with_reducible first | refine boolK_not ?_ | refine boolK_and ?_ | refine boolK_or ?_ | refine boolK_true ?_ | refine boolK_false ?_) | refine boolK_intro (fun _ => ?_) (fun _ => ?_) <;> try (exfalso; simp_all; done) | refine jA ?_ | refine jB ?_ | refine jH ?_ | refine jI ?_ | refine jJ ?_ | refine jK ?_ | with_reducible refine natK_lit ?_ | refine natK_of rfl ?_ | refine natK_any ?_ | refine jL ?_ | refine jM ?_ | refine jN ?_ | refine callK_intro (c_nx l rfl k (k + 1) rfl _ (by omega) hl) ?_ | refine callK_intro (c_nx l rfl (k + 1) (k + 2) rfl _ (by omega) hl) ?_ | refine callK_intro (c_nx l rfl (k + 2) (k + 3) rfl _ (by omega) hl) ?_ | refine callK_intro (c_nx l rfl (k + 3) (k + 4) rfl _ (by omega) hl) ?_ | refine callK_intro (c_nx l rfl (k + 4) (k + 5) rfl _ (by omega) hl) ?_ | refine callK_intro (c_nx l rfl (k + 5) (k + 6) rfl _ (by omega) hl) ?_ | refine callK_intro (c_nx l rfl (k + 6) (k + 7) rfl _ (by omega) hl) ?_ | refine callK_intro (c_nx l rfl (k + 7) (k + 8) rfl _ (by omega) hl) ?_ | refine callK_intro (c_nx l rfl (k + 8) (k + 9) rfl _ (by omega) hl) ?_ | refine callK_intro (c_nx l rfl (k + 9) (k + 10) rfl _ (by omega) hl) ?_ | refine callK_intro (c_nx l rfl (k + 10) (k + 11) rfl _ (by omega) hl) ?_ | refine callK_intro (c_nx l rfl (k + 11) (k + 12) rfl _ (by omega) hl) ?_ | refine callK_intro (c_User _ (by omega)) ?_ | refine callK_intro (c_Service _ (by omega)) ?_ | refine callK_intro (c_Long _ (by omega)) ?_ | refine jA ?_ (by omega) | refine jy ?_ | refine ju ?_ | refine jv ?_)) <;> (try (conv => whnf))
      · by_cases h3 : nx l (k + 11) 9 = 8
        · have b0 := nx_bounds l k (n := 3) (by omega)
          have b1 := nx_bounds l (k + 1) (n := 2) (by omega)
          have b2 := nx_bounds l (k + 2) (n := 40) (by omega)
          have b3 := nx_bounds l (k + 3) (n := 256) (by omega)
          have b4 := nx_bounds l (k + 4) (n := 256) (by omega)
          have b5 := nx_bounds l (k + 5) (n := 5) (by omega)
          have b6 := nx_bounds l (k + 6) (n := 4) (by omega)
          have b7 := nx_bounds l (k + 7) (n := 21) (by omega)
          have b8 := nx_bounds l (k + 8) (n := 5) (by omega)
          have b9 := nx_bounds l (k + 9) (n := 256) (by omega)
          have b10 := nx_bounds l (k + 10) (n := 9) (by omega)
          have b11 := nx_bounds l (k + 11) (n := 9) (by omega)
          have b12 := nx_bounds l (k + 12) (n := 256) (by omega)
          have hat := attr_range b5 b6
          refine ⟨⟨userN (nx l k 3), [], longK (nx l (k + 2) 40), nx l (k + 3) 256, (nx l (k + 9) 256) * 200, nx l (k + 4) 256, (nx l (k + 5) 5) / 4 * (nx l (k + 6) 4), nx l (k + 7) 21, (nx l (k + 12) 256) * 100⟩, k + 13, by omega, ent_ok (user_parts _) inst_nil (.inr (long_ok (by omega)).1) (by omega) (by omega) (by omega) (by omega) hat (by omega), ?_⟩
          refine Fn_intro (G := g26) (goodA rfl) (fn := Tryz.f26) rfl rfl rfl rfl rfl ?_
          (repeat' ((conv => whnf) <;> first | exact rfl | with_reducible refine boolK_dec (fun _ => ?_) (fun _ => ?_) <;> try (exfalso; omega) | refine boolK_beq (fun _ => ?_) (fun _ => ?_) <;> try (exfalso; first | omega | with_reducible contradiction) | refine boolK_bne (fun _ => ?_) (fun _ => ?_) <;> try (exfalso; first | omega | with_reducible contradiction) | (with_reducible first | refine boolK_not ?_ | refine boolK_and ?_ | refine boolK_or ?_ | refine boolK_true ?_ | refine boolK_false ?_) | refine boolK_intro (fun _ => ?_) (fun _ => ?_) <;> try (exfalso; simp_all; done) | refine jA ?_ | refine jB ?_ | refine jH ?_ | refine jI ?_ | refine jJ ?_ | refine jK ?_ | with_reducible refine natK_lit ?_ | refine natK_of rfl ?_ | refine natK_any ?_ | refine jL ?_ | refine jM ?_ | refine jN ?_ | refine callK_intro (c_nx l rfl k (k + 1) rfl _ (by omega) hl) ?_ | refine callK_intro (c_nx l rfl (k + 1) (k + 2) rfl _ (by omega) hl) ?_ | refine callK_intro (c_nx l rfl (k + 2) (k + 3) rfl _ (by omega) hl) ?_ | refine callK_intro (c_nx l rfl (k + 3) (k + 4) rfl _ (by omega) hl) ?_ | refine callK_intro (c_nx l rfl (k + 4) (k + 5) rfl _ (by omega) hl) ?_ | refine callK_intro (c_nx l rfl (k + 5) (k + 6) rfl _ (by omega) hl) ?_ | refine callK_intro (c_nx l rfl (k + 6) (k + 7) rfl _ (by omega) hl) ?_ | refine callK_intro (c_nx l rfl (k + 7) (k + 8) rfl _ (by omega) hl) ?_ | refine callK_intro (c_nx l rfl (k + 8) (k + 9) rfl _ (by omega) hl) ?_ | refine callK_intro (c_nx l rfl (k + 9) (k + 10) rfl _ (by omega) hl) ?_ | refine callK_intro (c_nx l rfl (k + 10) (k + 11) rfl _ (by omega) hl) ?_ | refine callK_intro (c_nx l rfl (k + 11) (k + 12) rfl _ (by omega) hl) ?_ | refine callK_intro (c_nx l rfl (k + 12) (k + 13) rfl _ (by omega) hl) ?_ | refine callK_intro (c_User _ (by omega)) ?_ | refine callK_intro (c_Service _ (by omega)) ?_ | refine callK_intro (c_Long _ (by omega)) ?_ | refine jA ?_ (by omega) | refine jy ?_ | refine ju ?_ | refine jv ?_)) <;> (try (conv => whnf))
        · have b0 := nx_bounds l k (n := 3) (by omega)
          have b1 := nx_bounds l (k + 1) (n := 2) (by omega)
          have b2 := nx_bounds l (k + 2) (n := 40) (by omega)
          have b3 := nx_bounds l (k + 3) (n := 256) (by omega)
          have b4 := nx_bounds l (k + 4) (n := 256) (by omega)
          have b5 := nx_bounds l (k + 5) (n := 5) (by omega)
          have b6 := nx_bounds l (k + 6) (n := 4) (by omega)
          have b7 := nx_bounds l (k + 7) (n := 21) (by omega)
          have b8 := nx_bounds l (k + 8) (n := 5) (by omega)
          have b9 := nx_bounds l (k + 9) (n := 256) (by omega)
          have b10 := nx_bounds l (k + 10) (n := 9) (by omega)
          have b11 := nx_bounds l (k + 11) (n := 9) (by omega)
          have hat := attr_range b5 b6
          refine ⟨⟨userN (nx l k 3), [], longK (nx l (k + 2) 40), nx l (k + 3) 256, (nx l (k + 9) 256) * 200, nx l (k + 4) 256, (nx l (k + 5) 5) / 4 * (nx l (k + 6) 4), nx l (k + 7) 21, 0⟩, k + 12, by omega, ent_ok (user_parts _) inst_nil (.inr (long_ok (by omega)).1) (by omega) (by omega) (by omega) (by omega) hat (by omega), ?_⟩
          refine Fn_intro (G := g26) (goodA rfl) (fn := Tryz.f26) rfl rfl rfl rfl rfl ?_
          (repeat' ((conv => whnf) <;> first | exact rfl | with_reducible refine boolK_dec (fun _ => ?_) (fun _ => ?_) <;> try (exfalso; omega) | refine boolK_beq (fun _ => ?_) (fun _ => ?_) <;> try (exfalso; first | omega | with_reducible contradiction) | refine boolK_bne (fun _ => ?_) (fun _ => ?_) <;> try (exfalso; first | omega | with_reducible contradiction) | (with_reducible first | refine boolK_not ?_ | refine boolK_and ?_ | refine boolK_or ?_ | refine boolK_true ?_ | refine boolK_false ?_) | refine boolK_intro (fun _ => ?_) (fun _ => ?_) <;> try (exfalso; simp_all; done) | refine jA ?_ | refine jB ?_ | refine jH ?_ | refine jI ?_ | refine jJ ?_ | refine jK ?_ | with_reducible refine natK_lit ?_ | refine natK_of rfl ?_ | refine natK_any ?_ | refine jL ?_ | refine jM ?_ | refine jN ?_ | refine callK_intro (c_nx l rfl k (k + 1) rfl _ (by omega) hl) ?_ | refine callK_intro (c_nx l rfl (k + 1) (k + 2) rfl _ (by omega) hl) ?_ | refine callK_intro (c_nx l rfl (k + 2) (k + 3) rfl _ (by omega) hl) ?_ | refine callK_intro (c_nx l rfl (k + 3) (k + 4) rfl _ (by omega) hl) ?_ | refine callK_intro (c_nx l rfl (k + 4) (k + 5) rfl _ (by omega) hl) ?_ | refine callK_intro (c_nx l rfl (k + 5) (k + 6) rfl _ (by omega) hl) ?_ | refine callK_intro (c_nx l rfl (k + 6) (k + 7) rfl _ (by omega) hl) ?_ | refine callK_intro (c_nx l rfl (k + 7) (k + 8) rfl _ (by omega) hl) ?_ | refine callK_intro (c_nx l rfl (k + 8) (k + 9) rfl _ (by omega) hl) ?_ | refine callK_intro (c_nx l rfl (k + 9) (k + 10) rfl _ (by omega) hl) ?_ | refine callK_intro (c_nx l rfl (k + 10) (k + 11) rfl _ (by omega) hl) ?_ | refine callK_intro (c_nx l rfl (k + 11) (k + 12) rfl _ (by omega) hl) ?_ | refine callK_intro (c_User _ (by omega)) ?_ | refine callK_intro (c_Service _ (by omega)) ?_ | refine callK_intro (c_Long _ (by omega)) ?_ | refine jA ?_ (by omega) | refine jy ?_ | refine ju ?_ | refine jv ?_)) <;> (try (conv => whnf))
    · by_cases h2 : nx l (k + 9) 9 = 8
      · by_cases h3 : nx l (k + 10) 9 = 8
        · have b0 := nx_bounds l k (n := 3) (by omega)
          have b1 := nx_bounds l (k + 1) (n := 2) (by omega)
          have b2 := nx_bounds l (k + 2) (n := 40) (by omega)
          have b3 := nx_bounds l (k + 3) (n := 256) (by omega)
          have b4 := nx_bounds l (k + 4) (n := 256) (by omega)
          have b5 := nx_bounds l (k + 5) (n := 5) (by omega)
          have b6 := nx_bounds l (k + 6) (n := 4) (by omega)
          have b7 := nx_bounds l (k + 7) (n := 21) (by omega)
          have b8 := nx_bounds l (k + 8) (n := 5) (by omega)
          have b9 := nx_bounds l (k + 9) (n := 9) (by omega)
          have b10 := nx_bounds l (k + 10) (n := 9) (by omega)
          have b11 := nx_bounds l (k + 11) (n := 256) (by omega)
          have hat := attr_range b5 b6
          refine ⟨⟨userN (nx l k 3), [], 0, nx l (k + 3) 256, 0, nx l (k + 4) 256, (nx l (k + 5) 5) / 4 * (nx l (k + 6) 4), nx l (k + 7) 21, (nx l (k + 11) 256) * 100⟩, k + 12, by omega, ent_ok (user_parts _) inst_nil (.inl rfl) (by omega) (by omega) (by omega) (by omega) hat (by omega), ?_⟩
          refine Fn_intro (G := g26) (goodA rfl) (fn := Tryz.f26) rfl rfl rfl rfl rfl ?_
          (repeat' ((conv => whnf) <;> first | exact rfl | with_reducible refine boolK_dec (fun _ => ?_) (fun _ => ?_) <;> try (exfalso; omega) | refine boolK_beq (fun _ => ?_) (fun _ => ?_) <;> try (exfalso; first | omega | with_reducible contradiction) | refine boolK_bne (fun _ => ?_) (fun _ => ?_) <;> try (exfalso; first | omega | with_reducible contradiction) | (with_reducible first | refine boolK_not ?_ | refine boolK_and ?_ | refine boolK_or ?_ | refine boolK_true ?_ | refine boolK_false ?_) | refine boolK_intro (fun _ => ?_) (fun _ => ?_) <;> try (exfalso; simp_all; done) | refine jA ?_ | refine jB ?_ | refine jH ?_ | refine jI ?_ | refine jJ ?_ | refine jK ?_ | with_reducible refine natK_lit ?_ | refine natK_of rfl ?_ | refine natK_any ?_ | refine jL ?_ | refine jM ?_ | refine jN ?_ | refine callK_intro (c_nx l rfl k (k + 1) rfl _ (by omega) hl) ?_ | refine callK_intro (c_nx l rfl (k + 1) (k + 2) rfl _ (by omega) hl) ?_ | refine callK_intro (c_nx l rfl (k + 2) (k + 3) rfl _ (by omega) hl) ?_ | refine callK_intro (c_nx l rfl (k + 3) (k + 4) rfl _ (by omega) hl) ?_ | refine callK_intro (c_nx l rfl (k + 4) (k + 5) rfl _ (by omega) hl) ?_ | refine callK_intro (c_nx l rfl (k + 5) (k + 6) rfl _ (by omega) hl) ?_ | refine callK_intro (c_nx l rfl (k + 6) (k + 7) rfl _ (by omega) hl) ?_ | refine callK_intro (c_nx l rfl (k + 7) (k + 8) rfl _ (by omega) hl) ?_ | refine callK_intro (c_nx l rfl (k + 8) (k + 9) rfl _ (by omega) hl) ?_ | refine callK_intro (c_nx l rfl (k + 9) (k + 10) rfl _ (by omega) hl) ?_ | refine callK_intro (c_nx l rfl (k + 10) (k + 11) rfl _ (by omega) hl) ?_ | refine callK_intro (c_nx l rfl (k + 11) (k + 12) rfl _ (by omega) hl) ?_ | refine callK_intro (c_User _ (by omega)) ?_ | refine callK_intro (c_Service _ (by omega)) ?_ | refine callK_intro (c_Long _ (by omega)) ?_ | refine jA ?_ (by omega) | refine jy ?_ | refine ju ?_ | refine jv ?_)) <;> (try (conv => whnf))
        · have b0 := nx_bounds l k (n := 3) (by omega)
          have b1 := nx_bounds l (k + 1) (n := 2) (by omega)
          have b2 := nx_bounds l (k + 2) (n := 40) (by omega)
          have b3 := nx_bounds l (k + 3) (n := 256) (by omega)
          have b4 := nx_bounds l (k + 4) (n := 256) (by omega)
          have b5 := nx_bounds l (k + 5) (n := 5) (by omega)
          have b6 := nx_bounds l (k + 6) (n := 4) (by omega)
          have b7 := nx_bounds l (k + 7) (n := 21) (by omega)
          have b8 := nx_bounds l (k + 8) (n := 5) (by omega)
          have b9 := nx_bounds l (k + 9) (n := 9) (by omega)
          have b10 := nx_bounds l (k + 10) (n := 9) (by omega)
          have hat := attr_range b5 b6
          refine ⟨⟨userN (nx l k 3), [], 0, nx l (k + 3) 256, 0, nx l (k + 4) 256, (nx l (k + 5) 5) / 4 * (nx l (k + 6) 4), nx l (k + 7) 21, 0⟩, k + 11, by omega, ent_ok (user_parts _) inst_nil (.inl rfl) (by omega) (by omega) (by omega) (by omega) hat (by omega), ?_⟩
          refine Fn_intro (G := g26) (goodA rfl) (fn := Tryz.f26) rfl rfl rfl rfl rfl ?_
          (repeat' ((conv => whnf) <;> first | exact rfl | with_reducible refine boolK_dec (fun _ => ?_) (fun _ => ?_) <;> try (exfalso; omega) | refine boolK_beq (fun _ => ?_) (fun _ => ?_) <;> try (exfalso; first | omega | with_reducible contradiction) | refine boolK_bne (fun _ => ?_) (fun _ => ?_) <;> try (exfalso; first | omega | with_reducible contradiction) | (with_reducible first | refine boolK_not ?_ | refine boolK_and ?_ | refine boolK_or ?_ | refine boolK_true ?_ | refine boolK_false ?_) | refine boolK_intro (fun _ => ?_) (fun _ => ?_) <;> try (exfalso; simp_all; done) | refine jA ?_ | refine jB ?_ | refine jH ?_ | refine jI ?_ | refine jJ ?_ | refine jK ?_ | with_reducible refine natK_lit ?_ | refine natK_of rfl ?_ | refine natK_any ?_ | refine jL ?_ | refine jM ?_ | refine jN ?_ | refine callK_intro (c_nx l rfl k (k + 1) rfl _ (by omega) hl) ?_ | refine callK_intro (c_nx l rfl (k + 1) (k + 2) rfl _ (by omega) hl) ?_ | refine callK_intro (c_nx l rfl (k + 2) (k + 3) rfl _ (by omega) hl) ?_ | refine callK_intro (c_nx l rfl (k + 3) (k + 4) rfl _ (by omega) hl) ?_ | refine callK_intro (c_nx l rfl (k + 4) (k + 5) rfl _ (by omega) hl) ?_ | refine callK_intro (c_nx l rfl (k + 5) (k + 6) rfl _ (by omega) hl) ?_ | refine callK_intro (c_nx l rfl (k + 6) (k + 7) rfl _ (by omega) hl) ?_ | refine callK_intro (c_nx l rfl (k + 7) (k + 8) rfl _ (by omega) hl) ?_ | refine callK_intro (c_nx l rfl (k + 8) (k + 9) rfl _ (by omega) hl) ?_ | refine callK_intro (c_nx l rfl (k + 9) (k + 10) rfl _ (by omega) hl) ?_ | refine callK_intro (c_nx l rfl (k + 10) (k + 11) rfl _ (by omega) hl) ?_ | refine callK_intro (c_User _ (by omega)) ?_ | refine callK_intro (c_Service _ (by omega)) ?_ | refine callK_intro (c_Long _ (by omega)) ?_ | refine jA ?_ (by omega) | refine jy ?_ | refine ju ?_ | refine jv ?_)) <;> (try (conv => whnf))
      · by_cases h3 : nx l (k + 10) 9 = 8
        · have b0 := nx_bounds l k (n := 3) (by omega)
          have b1 := nx_bounds l (k + 1) (n := 2) (by omega)
          have b2 := nx_bounds l (k + 2) (n := 40) (by omega)
          have b3 := nx_bounds l (k + 3) (n := 256) (by omega)
          have b4 := nx_bounds l (k + 4) (n := 256) (by omega)
          have b5 := nx_bounds l (k + 5) (n := 5) (by omega)
          have b6 := nx_bounds l (k + 6) (n := 4) (by omega)
          have b7 := nx_bounds l (k + 7) (n := 21) (by omega)
          have b8 := nx_bounds l (k + 8) (n := 5) (by omega)
          have b9 := nx_bounds l (k + 9) (n := 9) (by omega)
          have b10 := nx_bounds l (k + 10) (n := 9) (by omega)
          have b11 := nx_bounds l (k + 11) (n := 256) (by omega)
          have hat := attr_range b5 b6
          refine ⟨⟨userN (nx l k 3), [], longK (nx l (k + 2) 40), nx l (k + 3) 256, 0, nx l (k + 4) 256, (nx l (k + 5) 5) / 4 * (nx l (k + 6) 4), nx l (k + 7) 21, (nx l (k + 11) 256) * 100⟩, k + 12, by omega, ent_ok (user_parts _) inst_nil (.inr (long_ok (by omega)).1) (by omega) (by omega) (by omega) (by omega) hat (by omega), ?_⟩
          refine Fn_intro (G := g26) (goodA rfl) (fn := Tryz.f26) rfl rfl rfl rfl rfl ?_
          (repeat' ((conv => whnf) <;> first | exact rfl | with_reducible refine boolK_dec (fun _ => ?_) (fun _ => ?_) <;> try (exfalso; omega) | refine boolK_beq (fun _ => ?_) (fun _ => ?_) <;> try (exfalso; first | omega | with_reducible contradiction) | refine boolK_bne (fun _ => ?_) (fun _ => ?_) <;> try (exfalso; first | omega | with_reducible contradiction) | (with_reducible first | refine boolK_not ?_ | refine boolK_and ?_ | refine boolK_or ?_ | refine boolK_true ?_ | refine boolK_false ?_) | refine boolK_intro (fun _ => ?_) (fun _ => ?_) <;> try (exfalso; simp_all; done) | refine jA ?_ | refine jB ?_ | refine jH ?_ | refine jI ?_ | refine jJ ?_ | refine jK ?_ | with_reducible refine natK_lit ?_ | refine natK_of rfl ?_ | refine natK_any ?_ | refine jL ?_ | refine jM ?_ | refine jN ?_ | refine callK_intro (c_nx l rfl k (k + 1) rfl _ (by omega) hl) ?_ | refine callK_intro (c_nx l rfl (k + 1) (k + 2) rfl _ (by omega) hl) ?_ | refine callK_intro (c_nx l rfl (k + 2) (k + 3) rfl _ (by omega) hl) ?_ | refine callK_intro (c_nx l rfl (k + 3) (k + 4) rfl _ (by omega) hl) ?_ | refine callK_intro (c_nx l rfl (k + 4) (k + 5) rfl _ (by omega) hl) ?_ | refine callK_intro (c_nx l rfl (k + 5) (k + 6) rfl _ (by omega) hl) ?_ | refine callK_intro (c_nx l rfl (k + 6) (k + 7) rfl _ (by omega) hl) ?_ | refine callK_intro (c_nx l rfl (k + 7) (k + 8) rfl _ (by omega) hl) ?_ | refine callK_intro (c_nx l rfl (k + 8) (k + 9) rfl _ (by omega) hl) ?_ | refine callK_intro (c_nx l rfl (k + 9) (k + 10) rfl _ (by omega) hl) ?_ | refine callK_intro (c_nx l rfl (k + 10) (k + 11) rfl _ (by omega) hl) ?_ | refine callK_intro (c_nx l rfl (k + 11) (k + 12) rfl _ (by omega) hl) ?_ | refine callK_intro (c_User _ (by omega)) ?_ | refine callK_intro (c_Service _ (by omega)) ?_ | refine callK_intro (c_Long _ (by omega)) ?_ | refine jA ?_ (by omega) | refine jy ?_ | refine ju ?_ | refine jv ?_)) <;> (try (conv => whnf))
        · have b0 := nx_bounds l k (n := 3) (by omega)
          have b1 := nx_bounds l (k + 1) (n := 2) (by omega)
          have b2 := nx_bounds l (k + 2) (n := 40) (by omega)
          have b3 := nx_bounds l (k + 3) (n := 256) (by omega)
          have b4 := nx_bounds l (k + 4) (n := 256) (by omega)
          have b5 := nx_bounds l (k + 5) (n := 5) (by omega)
          have b6 := nx_bounds l (k + 6) (n := 4) (by omega)
          have b7 := nx_bounds l (k + 7) (n := 21) (by omega)
          have b8 := nx_bounds l (k + 8) (n := 5) (by omega)
          have b9 := nx_bounds l (k + 9) (n := 9) (by omega)
          have b10 := nx_bounds l (k + 10) (n := 9) (by omega)
          have hat := attr_range b5 b6
          refine ⟨⟨userN (nx l k 3), [], longK (nx l (k + 2) 40), nx l (k + 3) 256, 0, nx l (k + 4) 256, (nx l (k + 5) 5) / 4 * (nx l (k + 6) 4), nx l (k + 7) 21, 0⟩, k + 11, by omega, ent_ok (user_parts _) inst_nil (.inr (long_ok (by omega)).1) (by omega) (by omega) (by omega) (by omega) hat (by omega), ?_⟩
          refine Fn_intro (G := g26) (goodA rfl) (fn := Tryz.f26) rfl rfl rfl rfl rfl ?_
          (repeat' ((conv => whnf) <;> first | exact rfl | with_reducible refine boolK_dec (fun _ => ?_) (fun _ => ?_) <;> try (exfalso; omega) | refine boolK_beq (fun _ => ?_) (fun _ => ?_) <;> try (exfalso; first | omega | with_reducible contradiction) | refine boolK_bne (fun _ => ?_) (fun _ => ?_) <;> try (exfalso; first | omega | with_reducible contradiction) | (with_reducible first | refine boolK_not ?_ | refine boolK_and ?_ | refine boolK_or ?_ | refine boolK_true ?_ | refine boolK_false ?_) | refine boolK_intro (fun _ => ?_) (fun _ => ?_) <;> try (exfalso; simp_all; done) | refine jA ?_ | refine jB ?_ | refine jH ?_ | refine jI ?_ | refine jJ ?_ | refine jK ?_ | with_reducible refine natK_lit ?_ | refine natK_of rfl ?_ | refine natK_any ?_ | refine jL ?_ | refine jM ?_ | refine jN ?_ | refine callK_intro (c_nx l rfl k (k + 1) rfl _ (by omega) hl) ?_ | refine callK_intro (c_nx l rfl (k + 1) (k + 2) rfl _ (by omega) hl) ?_ | refine callK_intro (c_nx l rfl (k + 2) (k + 3) rfl _ (by omega) hl) ?_ | refine callK_intro (c_nx l rfl (k + 3) (k + 4) rfl _ (by omega) hl) ?_ | refine callK_intro (c_nx l rfl (k + 4) (k + 5) rfl _ (by omega) hl) ?_ | refine callK_intro (c_nx l rfl (k + 5) (k + 6) rfl _ (by omega) hl) ?_ | refine callK_intro (c_nx l rfl (k + 6) (k + 7) rfl _ (by omega) hl) ?_ | refine callK_intro (c_nx l rfl (k + 7) (k + 8) rfl _ (by omega) hl) ?_ | refine callK_intro (c_nx l rfl (k + 8) (k + 9) rfl _ (by omega) hl) ?_ | refine callK_intro (c_nx l rfl (k + 9) (k + 10) rfl _ (by omega) hl) ?_ | refine callK_intro (c_nx l rfl (k + 10) (k + 11) rfl _ (by omega) hl) ?_ | refine callK_intro (c_User _ (by omega)) ?_ | refine callK_intro (c_Service _ (by omega)) ?_ | refine callK_intro (c_Long _ (by omega)) ?_ | refine jA ?_ (by omega) | refine jy ?_ | refine ju ?_ | refine jv ?_)) <;> (try (conv => whnf))
end Go.Sx

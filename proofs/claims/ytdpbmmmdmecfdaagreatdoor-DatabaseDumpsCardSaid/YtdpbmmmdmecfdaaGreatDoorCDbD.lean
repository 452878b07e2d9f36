/-
  Contracts of the laws' data about databases, and of the small functions of the laws.
-/
import Derived.Test.YtdpbmmmdmecfdaaGreatDoorPX2
import Derived.Test.YtdpbmmmdmecfdaaGreatDoorCDbC
import Derived.Test.YtdpbmmmdmecfdaaGreatDoorCSrvA
set_option linter.all false
namespace Go.Sx
open Go.Proofs Go.RowKit
noncomputable def g10 : Par := par 38 (nthLL [[2, 3], [2, 3, 19], [4], [2, 3, 5], [2, 3, 5, 24], [2, 3, 5], [2, 3, 5, 37], [4], [4]]) [4] (nthLL [[], [], [], [], [], [], [0, 1, 0, 7, 15, 0, 32, 0, 224, 480, 1023]])
noncomputable def g5 : Par := par 39 (nthLL [[1], [1, 13], [2], [1, 3], [1, 3, 18], [1, 3], [1, 3, 38], [2], [2]]) [2] (nthLL [])
noncomputable def g18 : Par := par 53 (nthLL [[0, 2], [0, 2, 3], [0, 2, 3, 10], [0, 2, 3], [0, 2, 4], [0, 2, 4, 36], [0, 2, 4], [0, 2, 4, 43], [0, 2, 4], [0, 2, 4, 47], [2, 4], [2]]) [2] (nthLL [[], [], [], [], [0, 1, 0, 4, 0, 16, 48, 0, 240, 0, 1008, 0, 4080, 8176, 0, 24560, 65520, 0, 188400, 524287, 0, 2097151]])
set_option maxRecDepth 10000
set_option maxHeartbeats 4000000
theorem de_typ {ls : List L} (t : Typ (tabF tab) 45 ls) : ∃ s : DE, ls = deR s ∧ (0 ≤ s.k ∧ s.k ≤ 18446744073709551615) := by
  obtain ⟨partsa, rfl, hla, hpa⟩ := typ_struct t rfl
  obtain ⟨qa_0, qa_1, qa_2, qa_3, qa_4, qa_5, qa_6, qa_7, qa_8, rfl⟩ : ∃ qa_0 qa_1 qa_2 qa_3 qa_4 qa_5 qa_6 qa_7 qa_8, partsa = [qa_0, qa_1, qa_2, qa_3, qa_4, qa_5, qa_6, qa_7, qa_8] := by
    match partsa, hla with
    | [qa_0, qa_1, qa_2, qa_3, qa_4, qa_5, qa_6, qa_7, qa_8], _ => exact ⟨qa_0, qa_1, qa_2, qa_3, qa_4, qa_5, qa_6, qa_7, qa_8, rfl⟩
  have ta_0 := hpa 0 _ qa_0 rfl rfl
  obtain ⟨a_0, rfl, wa_0⟩ := typ_strB ta_0 rfl
  have ta_1 := hpa 1 _ qa_1 rfl rfl
  obtain ⟨a_1, rfl, wa_1⟩ := typ_strB ta_1 rfl
  have ta_2 := hpa 2 _ qa_2 rfl rfl
  obtain ⟨a_2, rfl, wa_2⟩ := typ_int ta_2 rfl
  have ta_3 := hpa 3 _ qa_3 rfl rfl
  obtain ⟨a_3, rfl, wa_3⟩ := typ_int ta_3 rfl
  have ta_4 := hpa 4 _ qa_4 rfl rfl
  obtain ⟨a_4, rfl, wa_4⟩ := typ_int ta_4 rfl
  have ta_5 := hpa 5 _ qa_5 rfl rfl
  obtain ⟨a_5, rfl, wa_5⟩ := typ_int ta_5 rfl
  have ta_6 := hpa 6 _ qa_6 rfl rfl
  obtain ⟨a_6, rfl, wa_6⟩ := typ_int ta_6 rfl
  have ta_7 := hpa 7 _ qa_7 rfl rfl
  obtain ⟨a_7, rfl, wa_7⟩ := typ_int ta_7 rfl
  have ta_8 := hpa 8 _ qa_8 rfl rfl
  obtain ⟨a_8, rfl, wa_8⟩ := typ_int ta_8 rfl
  exact ⟨⟨a_0, a_1, a_2, a_3, a_4, a_5, a_6, a_7, a_8⟩, rfl, wf_u64 wa_2⟩
theorem de_rows {rows : List (List L)} (h : ∀ r ∈ rows, Typ (tabF tab) 45 r) : ∃ l : List DE, rows = l.map deR ∧ ∀ s ∈ l, 0 ≤ s.k ∧ s.k ≤ 18446744073709551615 := rows_of fun r hr => de_typ (h r hr)
theorem c_sameDb (r : List UInt8) (l : List DE) {m n : Nat} (hm : m = l.length) (hn : n = l.length) (hl : l.length ≤ 1000000) : Fn Tryz.prog 10 [.a [.s r, .sl (flat deR l) m], .a [.s r, .sl (flat deR l) n]] [] (.one (.c (.o (.b true)))) [] := by
  subst hm; subst hn
  refine Fn_intro (G := g10) (goodA rfl) (fn := Tryz.f10) rfl rfl rfl rfl rfl ?_
  (repeat' ((conv => whnf) <;> first | with_reducible refine boolK_refl ?_ | exact rfl | with_reducible refine boolK_dec (fun _ => ?_) (fun _ => ?_) <;> try (exfalso; omega) | refine boolK_beq (fun _ => ?_) (fun _ => ?_) <;> try (exfalso; first | omega | with_reducible contradiction) | refine boolK_bne (fun _ => ?_) (fun _ => ?_) <;> try (exfalso; first | omega | with_reducible contradiction) | (with_reducible first | refine boolK_not ?_ | refine boolK_and ?_ | refine boolK_or ?_ | refine boolK_true ?_ | refine boolK_false ?_) | refine boolK_intro (fun _ => ?_) (fun _ => ?_) <;> try (exfalso; simp_all; done) | refine jA ?_ | refine jB ?_ | refine jH ?_ | refine jI ?_ | refine jJ ?_ | refine jK ?_ | with_reducible refine natK_lit ?_ | refine natK_of rfl ?_ | refine natK_any ?_ | refine jP ?_ | refine jQ ?_ | refine jR ?_ | refine jS ?_ | refine jT ?_ | refine jU (fun _ => ?_) | refine jV ?_ | refine jy ?_ | refine ju ?_ | refine jv ?_)) <;> (try (conv => whnf))
  refine loopK_inv (G := g10) (fun k st => ∃ (j : Nat), k + j = l.length ∧
    st = ⟨[(2, .c (.o (.p 2 0))), (3, .c (.o (.p 3 0))), (5, .c (.o (.i .i64 (j : Int))))], [(2, .st [.s r, .sl (flat deR l) l.length]), (3, .st [.s r, .sl (flat deR l) l.length])]⟩) (n := l.length) ⟨0, by omega, rfl⟩ ?_
  rintro k st ⟨j, hj, rfl⟩
  (repeat' ((conv => whnf) <;> first | with_reducible refine boolK_refl ?_ | exact rfl | with_reducible refine boolK_dec (fun _ => ?_) (fun _ => ?_) <;> try (exfalso; omega) | refine boolK_beq (fun _ => ?_) (fun _ => ?_) <;> try (exfalso; first | omega | with_reducible contradiction) | refine boolK_bne (fun _ => ?_) (fun _ => ?_) <;> try (exfalso; first | omega | with_reducible contradiction) | (with_reducible first | refine boolK_not ?_ | refine boolK_and ?_ | refine boolK_or ?_ | refine boolK_true ?_ | refine boolK_false ?_) | refine boolK_intro (fun _ => ?_) (fun _ => ?_) <;> try (exfalso; simp_all; done) | refine jA ?_ | refine jB ?_ | refine jH ?_ | refine jI ?_ | refine jJ ?_ | refine jK ?_ | with_reducible refine natK_lit ?_ | refine natK_of rfl ?_ | refine natK_any ?_ | refine jP ?_ | refine jQ ?_ | refine jR ?_ | refine jS ?_ | refine jT ?_ | refine jU (fun _ => ?_) | refine jV ?_ | refine headS_de (by omega) ?_ | exact ⟨k - 1, by omega, j + 1, by omega, rfl⟩ | refine jy ?_ | refine ju ?_ | refine jv ?_)) <;> (try (conv => whnf))
theorem c_long12 (r : List UInt8) (l : List DE) {m : Nat} (hm : m = l.length) : Fn Tryz.prog 5 [.a [.s r, .sl (flat deR l) m]] [] (.one (.c (.o (.b (dbLg r l))))) [] := by
  subst hm
  refine Fn_intro (G := g5) (goodA rfl) (fn := Tryz.f5) rfl rfl rfl rfl rfl ?_
  by_cases h30 : 70 < l.length ∨ 100 < r.length
  · rw [dbLg_long h30]
    (repeat' ((conv => whnf) <;> first | exact rfl | with_reducible refine boolK_dec (fun _ => ?_) (fun _ => ?_) <;> try (exfalso; omega) | refine boolK_beq (fun _ => ?_) (fun _ => ?_) <;> try (exfalso; first | omega | with_reducible contradiction) | refine boolK_bne (fun _ => ?_) (fun _ => ?_) <;> try (exfalso; first | omega | with_reducible contradiction) | (with_reducible first | refine boolK_not ?_ | refine boolK_and ?_ | refine boolK_or ?_ | refine boolK_true ?_ | refine boolK_false ?_) | refine boolK_intro (fun _ => ?_) (fun _ => ?_) <;> try (exfalso; simp_all; done) | refine jA ?_ | refine jB ?_ | refine jH ?_ | refine jI ?_ | refine jJ ?_ | refine jK ?_ | with_reducible refine natK_lit ?_ | refine natK_of rfl ?_ | refine natK_any ?_ | refine jP ?_ | refine jQ ?_ | refine jR ?_ | refine jS ?_ | refine jT ?_ | refine jU (fun _ => ?_) | refine jV ?_ | refine jy ?_ | refine ju ?_ | refine jv ?_)) <;> (try (conv => whnf))
  · (repeat' ((conv => whnf) <;> first | exact rfl | with_reducible refine boolK_dec (fun _ => ?_) (fun _ => ?_) <;> try (exfalso; omega) | refine boolK_beq (fun _ => ?_) (fun _ => ?_) <;> try (exfalso; first | omega | with_reducible contradiction) | refine boolK_bne (fun _ => ?_) (fun _ => ?_) <;> try (exfalso; first | omega | with_reducible contradiction) | (with_reducible first | refine boolK_not ?_ | refine boolK_and ?_ | refine boolK_or ?_ | refine boolK_true ?_ | refine boolK_false ?_) | refine boolK_intro (fun _ => ?_) (fun _ => ?_) <;> try (exfalso; simp_all; done) | refine jA ?_ | refine jB ?_ | refine jH ?_ | refine jI ?_ | refine jJ ?_ | refine jK ?_ | with_reducible refine natK_lit ?_ | refine natK_of rfl ?_ | refine natK_any ?_ | refine jP ?_ | refine jQ ?_ | refine jR ?_ | refine jS ?_ | refine jT ?_ | refine jU (fun _ => ?_) | refine jV ?_ | refine jy ?_ | refine ju ?_ | refine jv ?_)) <;> (try (conv => whnf))
    refine loopK_inv (G := g5) (fun k st => ∃ j : Nat, k + j = l.length ∧ (∀ i, i < j → ¬ dbLgE (l.getD i de0)) ∧
      st = ⟨[(1, .c (.o (.p 1 0))), (3, .c (.o (.i .i64 (j : Int))))], [(1, .st [.s r, .sl (flat deR l) l.length])]⟩) (n := l.length) ⟨0, by omega, by simp, rfl⟩ ?_
    rintro k st ⟨j, hj, hz, rfl⟩
    by_cases hjl : j < l.length
    · have e1 := dbLg_at (r := r) hjl
      have e2 : ¬ dbLgE (l.getD j de0) → ∀ i, i < j + 1 → ¬ dbLgE (l.getD i de0) := fun h i hi => by
        by_cases e : i = j
        · subst e; exact h
        · exact hz i (by omega)
      unfold dbLgE at e1
      rw [show dbLgE (l.getD j de0) = (100 < (l.getD j de0).x.length ∨ 100 < (l.getD j de0).y.length) from rfl] at e2
      (repeat' ((conv => whnf) <;> first | exact rfl | with_reducible refine boolK_dec (fun _ => ?_) (fun _ => ?_) <;> try (exfalso; omega) | refine boolK_beq (fun _ => ?_) (fun _ => ?_) <;> try (exfalso; first | omega | with_reducible contradiction) | refine boolK_bne (fun _ => ?_) (fun _ => ?_) <;> try (exfalso; first | omega | with_reducible contradiction) | (with_reducible first | refine boolK_not ?_ | refine boolK_and ?_ | refine boolK_or ?_ | refine boolK_true ?_ | refine boolK_false ?_) | refine boolK_intro (fun _ => ?_) (fun _ => ?_) <;> try (exfalso; simp_all; done) | refine jA ?_ | refine jB ?_ | refine jH ?_ | refine jI ?_ | refine jJ ?_ | refine jK ?_ | with_reducible refine natK_lit ?_ | refine natK_of rfl ?_ | refine natK_any ?_ | refine jP ?_ | refine jQ ?_ | refine jR ?_ | refine jS ?_ | refine jT ?_ | refine jU (fun _ => ?_) | refine jV ?_ | refine headS_deJ (j := j) (by omega) hjl ?_ | refine headS_deY (j := j) (by omega) hjl ?_ | refine headS_de0 hjl ?_ | refine headS_de1 hjl ?_ | exact ⟨k - 1, by omega, j + 1, by omega, e2 (by omega), rfl⟩ | refine jy ?_ | refine ju ?_ | refine sideK_intro (by first | (rw [e1 (by omega)] <;> first | rfl | exact ⟨rfl, rfl⟩ | exact ⟨rfl, rfl, rfl⟩)) ?_ | refine jv ?_)) <;> (try (conv => whnf))
    · rw [dbLg_no h30 (fun i hi => hz i (by omega))]
      (repeat' ((conv => whnf) <;> first | exact rfl | with_reducible refine boolK_dec (fun _ => ?_) (fun _ => ?_) <;> try (exfalso; omega) | refine boolK_beq (fun _ => ?_) (fun _ => ?_) <;> try (exfalso; first | omega | with_reducible contradiction) | refine boolK_bne (fun _ => ?_) (fun _ => ?_) <;> try (exfalso; first | omega | with_reducible contradiction) | (with_reducible first | refine boolK_not ?_ | refine boolK_and ?_ | refine boolK_or ?_ | refine boolK_true ?_ | refine boolK_false ?_) | refine boolK_intro (fun _ => ?_) (fun _ => ?_) <;> try (exfalso; simp_all; done) | refine jA ?_ | refine jB ?_ | refine jH ?_ | refine jI ?_ | refine jJ ?_ | refine jK ?_ | with_reducible refine natK_lit ?_ | refine natK_of rfl ?_ | refine natK_any ?_ | refine jP ?_ | refine jQ ?_ | refine jR ?_ | refine jS ?_ | refine jT ?_ | refine jU (fun _ => ?_) | refine jV ?_ | refine jy ?_ | refine ju ?_ | refine jv ?_)) <;> (try (conv => whnf))
theorem c_Entry (l : List UInt8) (hl : l.length ≤ 900000) (k : Nat) : ∃ (e : DE) (k' : Nat), k < k' ∧ deV e ∧ Fn Tryz.prog 18 [.o (.p 1000 0)] [(1000, .st [.sl (l.map u8) l.length, .i .i64 (atS l k)])] (.one (.c (.a [.s e.x, .s e.y, .i .u64 e.k, .i .i64 e.kv, .i .i64 e.ex, .i .i64 e.ml, .i .i64 e.atr, .i .i64 e.fl, .i .i64 e.un]))) [(1000, .st [.sl (l.map u8) l.length, .i .i64 (atS l k')])] := by
  by_cases h0 : nx l (k + 1) 2 = 1
  · by_cases h1 : nx l (k + 9) 5 = 4
    · by_cases h2 : nx l (k + 11) 9 = 8
      · by_cases h3 : nx l (k + 12) 9 = 8
        · have b0 := nx_bounds l k (n := 3) (by omega)
          have b1 := nx_bounds l (k + 1) (n := 2) (by omega)
          have b2 := nx_bounds l (k + 2) (n := 3) (by omega)
          have b3 := nx_bounds l (k + 3) (n := 40) (by omega)
          have b4 := nx_bounds l (k + 4) (n := 256) (by omega)
          have b5 := nx_bounds l (k + 5) (n := 256) (by omega)
          have b6 := nx_bounds l (k + 6) (n := 5) (by omega)
          have b7 := nx_bounds l (k + 7) (n := 4) (by omega)
          have b8 := nx_bounds l (k + 8) (n := 21) (by omega)
          have b9 := nx_bounds l (k + 9) (n := 5) (by omega)
          have b10 := nx_bounds l (k + 10) (n := 256) (by omega)
          have b11 := nx_bounds l (k + 11) (n := 9) (by omega)
          have b12 := nx_bounds l (k + 12) (n := 9) (by omega)
          have b13 := nx_bounds l (k + 13) (n := 256) (by omega)
          have hat := attr_range b6 b7
          refine ⟨⟨serviceN (nx l (k + 2) 3), serviceI (nx l (k + 2) 3), 0, nx l (k + 4) 256, (nx l (k + 10) 256) * 200, nx l (k + 5) 256, (nx l (k + 6) 5) / 4 * (nx l (k + 7) 4), nx l (k + 8) 21, (nx l (k + 13) 256) * 100⟩, k + 14, by omega, ent_ok (service_valid _).1 (service_valid _).2 (.inl rfl) (by omega) (by omega) (by omega) (by omega) hat (by omega), ?_⟩
          refine Fn_intro (G := g18) (goodA rfl) (fn := Tryz.f18) rfl rfl rfl rfl rfl ?_
          (repeat' ((conv => whnf) <;> first | exact rfl | with_reducible refine boolK_dec (fun _ => ?_) (fun _ => ?_) <;> try (exfalso; omega) | refine boolK_beq (fun _ => ?_) (fun _ => ?_) <;> try (exfalso; first | omega | with_reducible contradiction) | refine boolK_bne (fun _ => ?_) (fun _ => ?_) <;> try (exfalso; first | omega | with_reducible contradiction) | (with_reducible first | refine boolK_not ?_ | refine boolK_and ?_ | refine boolK_or ?_ | refine boolK_true ?_ | refine boolK_false ?_) | refine boolK_intro (fun _ => ?_) (fun _ => ?_) <;> try (exfalso; simp_all; done) | refine jA ?_ | refine jB ?_ | refine jH ?_ | refine jI ?_ | refine jJ ?_ | refine jK ?_ | with_reducible refine natK_lit ?_ | refine natK_of rfl ?_ | refine natK_any ?_ | refine jL ?_ | refine jM ?_ | refine jN ?_ | refine callK_intro (c_nx l rfl k (k + 1) rfl _ (by omega) hl) ?_ | refine callK_intro (c_nx l rfl (k + 1) (k + 2) rfl _ (by omega) hl) ?_ | refine callK_intro (c_nx l rfl (k + 2) (k + 3) rfl _ (by omega) hl) ?_ | refine callK_intro (c_nx l rfl (k + 3) (k + 4) rfl _ (by omega) hl) ?_ | refine callK_intro (c_nx l rfl (k + 4) (k + 5) rfl _ (by omega) hl) ?_ | refine callK_intro (c_nx l rfl (k + 5) (k + 6) rfl _ (by omega) hl) ?_ | refine callK_intro (c_nx l rfl (k + 6) (k + 7) rfl _ (by omega) hl) ?_ | refine callK_intro (c_nx l rfl (k + 7) (k + 8) rfl _ (by omega) hl) ?_ | refine callK_intro (c_nx l rfl (k + 8) (k + 9) rfl _ (by omega) hl) ?_ | refine callK_intro (c_nx l rfl (k + 9) (k + 10) rfl _ (by omega) hl) ?_ | refine callK_intro (c_nx l rfl (k + 10) (k + 11) rfl _ (by omega) hl) ?_ | refine callK_intro (c_nx l rfl (k + 11) (k + 12) rfl _ (by omega) hl) ?_ | refine callK_intro (c_nx l rfl (k + 12) (k + 13) rfl _ (by omega) hl) ?_ | refine callK_intro (c_nx l rfl (k + 13) (k + 14) rfl _ (by omega) hl) ?_ | refine callK_intro (c_User _ (by omega)) ?_ | refine callK_intro (c_Service _ (by omega)) ?_ | refine callK_intro (c_Long _ (by omega)) ?_ | refine jA ?_ (by omega) | refine jy ?_ | refine ju ?_ | refine jv ?_)) <;> (try (conv => whnf))
        · have b0 := nx_bounds l k (n := 3) (by omega)
          have b1 := nx_bounds l (k + 1) (n := 2) (by omega)
          have b2 := nx_bounds l (k + 2) (n := 3) (by omega)
          have b3 := nx_bounds l (k + 3) (n := 40) (by omega)
          have b4 := nx_bounds l (k + 4) (n := 256) (by omega)
          have b5 := nx_bounds l (k + 5) (n := 256) (by omega)
          have b6 := nx_bounds l (k + 6) (n := 5) (by omega)
          have b7 := nx_bounds l (k + 7) (n := 4) (by omega)
          have b8 := nx_bounds l (k + 8) (n := 21) (by omega)
          have b9 := nx_bounds l (k + 9) (n := 5) (by omega)
          have b10 := nx_bounds l (k + 10) (n := 256) (by omega)
          have b11 := nx_bounds l (k + 11) (n := 9) (by omega)
          have b12 := nx_bounds l (k + 12) (n := 9) (by omega)
          have hat := attr_range b6 b7
          refine ⟨⟨serviceN (nx l (k + 2) 3), serviceI (nx l (k + 2) 3), 0, nx l (k + 4) 256, (nx l (k + 10) 256) * 200, nx l (k + 5) 256, (nx l (k + 6) 5) / 4 * (nx l (k + 7) 4), nx l (k + 8) 21, 0⟩, k + 13, by omega, ent_ok (service_valid _).1 (service_valid _).2 (.inl rfl) (by omega) (by omega) (by omega) (by omega) hat (by omega), ?_⟩
          refine Fn_intro (G := g18) (goodA rfl) (fn := Tryz.f18) rfl rfl rfl rfl rfl ?_
          (repeat' ((conv => whnf) <;> first | exact rfl | with_reducible refine boolK_dec (fun _ => ?_) (fun _ => ?_) <;> try (exfalso; omega) | refine boolK_beq (fun _ => ?_) (fun _ => ?_) <;> try (exfalso; first | omega | with_reducible contradiction) | refine boolK_bne (fun _ => ?_) (fun _ => ?_) <;> try (exfalso; first | omega | with_reducible contradiction) | (with_reducible first | refine boolK_not ?_ | refine boolK_and ?_ | refine boolK_or ?_ | refine boolK_true ?_ | refine boolK_false ?_) | refine boolK_intro (fun _ => ?_) (fun _ => ?_) <;> try (exfalso; simp_all; done) | refine jA ?_ | refine jB ?_ | refine jH ?_ | refine jI ?_ | refine jJ ?_ | refine jK ?_ | with_reducible refine natK_lit ?_ | refine natK_of rfl ?_ | refine natK_any ?_ | refine jL ?_ | refine jM ?_ | refine jN ?_ | refine callK_intro (c_nx l rfl k (k + 1) rfl _ (by omega) hl) ?_ | refine callK_intro (c_nx l rfl (k + 1) (k + 2) rfl _ (by omega) hl) ?_ | refine callK_intro (c_nx l rfl (k + 2) (k + 3) rfl _ (by omega) hl) ?_ | refine callK_intro (c_nx l rfl (k + 3) (k + 4) rfl _ (by omega) hl) ?_ | refine callK_intro (c_nx l rfl (k + 4) (k + 5) rfl _ (by omega) hl) ?_ | refine callK_intro (c_nx l rfl (k + 5) (k + 6) rfl _ (by omega) hl) ?_ | refine callK_intro (c_nx l rfl (k + 6) (k + 7) rfl _ (by omega) hl) ?_ | refine callK_intro (c_nx l rfl (k + 7) (k + 8) rfl _ (by omega) hl) ?_ | refine callK_intro (c_nx l rfl (k + 8) (k + 9) rfl _ (by omega) hl) ?_ | refine callK_intro (c_nx l rfl (k + 9) (k + 10) rfl _ (by omega) hl) ?_ | refine callK_intro (c_nx l rfl (k + 10) (k + 11) rfl _ (by omega) hl) ?_ | refine callK_intro (c_nx l rfl (k + 11) (k + 12) rfl _ (by omega) hl) ?_ | refine callK_intro (c_nx l rfl (k + 12) (k + 13) rfl _ (by omega) hl) ?_ | refine callK_intro (c_User _ (by omega)) ?_ | refine callK_intro (c_Service _ (by omega)) ?_ | refine callK_intro (c_Long _ (by omega)) ?_ | refine jA ?_ (by omega) | refine jy ?_ | refine ju ?_ | refine jv ?_)) <;> (try (conv => whnf))
      · by_cases h3 : nx l (k + 12) 9 = 8
        · have b0 := nx_bounds l k (n := 3) (by omega)
          have b1 := nx_bounds l (k + 1) (n := 2) (by omega)
          have b2 := nx_bounds l (k + 2) (n := 3) (by omega)
          have b3 := nx_bounds l (k + 3) (n := 40) (by omega)
          have b4 := nx_bounds l (k + 4) (n := 256) (by omega)
          have b5 := nx_bounds l (k + 5) (n := 256) (by omega)
          have b6 := nx_bounds l (k + 6) (n := 5) (by omega)
          have b7 := nx_bounds l (k + 7) (n := 4) (by omega)
          have b8 := nx_bounds l (k + 8) (n := 21) (by omega)
          have b9 := nx_bounds l (k + 9) (n := 5) (by omega)
          have b10 := nx_bounds l (k + 10) (n := 256) (by omega)
          have b11 := nx_bounds l (k + 11) (n := 9) (by omega)
          have b12 := nx_bounds l (k + 12) (n := 9) (by omega)
          have b13 := nx_bounds l (k + 13) (n := 256) (by omega)
          have hat := attr_range b6 b7
          refine ⟨⟨serviceN (nx l (k + 2) 3), serviceI (nx l (k + 2) 3), longK (nx l (k + 3) 40), nx l (k + 4) 256, (nx l (k + 10) 256) * 200, nx l (k + 5) 256, (nx l (k + 6) 5) / 4 * (nx l (k + 7) 4), nx l (k + 8) 21, (nx l (k + 13) 256) * 100⟩, k + 14, by omega, ent_ok (service_valid _).1 (service_valid _).2 (.inr (long_ok (by omega)).1) (by omega) (by omega) (by omega) (by omega) hat (by omega), ?_⟩
          refine Fn_intro (G := g18) (goodA rfl) (fn := Tryz.f18) rfl rfl rfl rfl rfl ?_
          (repeat' ((conv => whnf) <;> first | exact rfl | with_reducible refine boolK_dec (fun _ => ?_) (fun _ => ?_) <;> try (exfalso; omega) | refine boolK_beq (fun _ => ?_) (fun _ => ?_) <;> try (exfalso; first | omega | with_reducible contradiction) | refine boolK_bne (fun _ => ?_) (fun _ => ?_) <;> try (exfalso; first | omega | with_reducible contradiction) | (with_reducible first | refine boolK_not ?_ | refine boolK_and ?_ | refine boolK_or ?_ | refine boolK_true ?_ | refine boolK_false ?_) | refine boolK_intro (fun _ => ?_) (fun _ => ?_) <;> try (exfalso; simp_all; done) | refine jA ?_ | refine jB ?_ | refine jH ?_ | refine jI ?_ | refine jJ ?_ | refine jK ?_ | with_reducible refine natK_lit ?_ | refine natK_of rfl ?_ | refine natK_any ?_ | refine jL ?_ | refine jM ?_ | refine jN ?_ | refine callK_intro (c_nx l rfl k (k + 1) rfl _ (by omega) hl) ?_ | refine callK_intro (c_nx l rfl (k + 1) (k + 2) rfl _ (by omega) hl) ?_ | refine callK_intro (c_nx l rfl (k + 2) (k + 3) rfl _ (by omega) hl) ?_ | refine callK_intro (c_nx l rfl (k + 3) (k + 4) rfl _ (by omega) hl) ?_ | refine callK_intro (c_nx l rfl (k + 4) (k + 5) rfl _ (by omega) hl) ?_ | refine callK_intro (c_nx l rfl (k + 5) (k + 6) rfl _ (by omega) hl) ?_ | refine callK_intro (c_nx l rfl (k + 6) (k + 7) rfl _ (by omega) hl) ?_ | refine callK_intro (c_nx l rfl (k + 7) (k + 8) rfl _ (by omega) hl) ?_ | refine callK_intro (c_nx l rfl (k + 8) (k + 9) rfl _ (by omega) hl) ?_ | refine callK_intro (c_nx l rfl (k + 9) (k + 10) rfl _ (by omega) hl) ?_ | refine callK_intro (c_nx l rfl (k + 10) (k + 11) rfl _ (by omega) hl) ?_ | refine callK_intro (c_nx l rfl (k + 11) (k + 12) rfl _ (by omega) hl) ?_ | refine callK_intro (c_nx l rfl (k + 12) (k + 13) rfl _ (by omega) hl) ?_ | refine callK_intro (c_nx l rfl (k + 13) (k + 14) rfl _ (by omega) hl) ?_ | refine callK_intro (c_User _ (by omega)) ?_ | refine callK_intro (c_Service _ (by omega)) ?_ | refine callK_intro (c_Long _ (by omega)) ?_ | refine jA ?_ (by omega) | refine jy ?_ | refine ju ?_ | refine jv ?_)) <;> (try (conv => whnf))
        · have b0 := nx_bounds l k (n := 3) (by omega)
          have b1 := nx_bounds l (k + 1) (n := 2) (by omega)
          have b2 := nx_bounds l (k + 2) (n := 3) (by omega)
          have b3 := nx_bounds l (k + 3) (n := 40) (by omega)
          have b4 := nx_bounds l (k + 4) (n := 256) (by omega)
          have b5 := nx_bounds l (k + 5) (n := 256) (by omega)
          have b6 := nx_bounds l (k + 6) (n := 5) (by omega)
          have b7 := nx_bounds l (k + 7) (n := 4) (by omega)
          have b8 := nx_bounds l (k + 8) (n := 21) (by omega)
          have b9 := nx_bounds l (k + 9) (n := 5) (by omega)
          have b10 := nx_bounds l (k + 10) (n := 256) (by omega)
          have b11 := nx_bounds l (k + 11) (n := 9) (by omega)
          have b12 := nx_bounds l (k + 12) (n := 9) (by omega)
          have hat := attr_range b6 b7
          refine ⟨⟨serviceN (nx l (k + 2) 3), serviceI (nx l (k + 2) 3), longK (nx l (k + 3) 40), nx l (k + 4) 256, (nx l (k + 10) 256) * 200, nx l (k + 5) 256, (nx l (k + 6) 5) / 4 * (nx l (k + 7) 4), nx l (k + 8) 21, 0⟩, k + 13, by omega, ent_ok (service_valid _).1 (service_valid _).2 (.inr (long_ok (by omega)).1) (by omega) (by omega) (by omega) (by omega) hat (by omega), ?_⟩
          refine Fn_intro (G := g18) (goodA rfl) (fn := Tryz.f18) rfl rfl rfl rfl rfl ?_
          (repeat' ((conv => whnf) <;> first | exact rfl | with_reducible refine boolK_dec (fun _ => ?_) (fun _ => ?_) <;> try (exfalso; omega) | refine boolK_beq (fun _ => ?_) (fun _ => ?_) <;> try (exfalso; first | omega | with_reducible contradiction) | refine boolK_bne (fun _ => ?_) (fun _ => ?_) <;> try (exfalso; first | omega | with_reducible contradiction) | (with_reducible first | refine boolK_not ?_ | refine boolK_and ?_ | refine boolK_or ?_ | refine boolK_true ?_ | refine boolK_false ?_) | refine boolK_intro (fun _ => ?_) (fun _ => ?_) <;> try (exfalso; simp_all; done) | refine jA ?_ | refine jB ?_ | refine jH ?_ | refine jI ?_ | refine jJ ?_ | refine jK ?_ | with_reducible refine natK_lit ?_ | refine natK_of rfl ?_ | refine natK_any ?_ | refine jL ?_ | refine jM ?_ | refine jN ?_ | refine callK_intro (c_nx l rfl k (k + 1) rfl _ (by omega) hl) ?_ | refine callK_intro (c_nx l rfl (k + 1) (k + 2) rfl _ (by omega) hl) ?_ | refine callK_intro (c_nx l rfl (k + 2) (k + 3) rfl _ (by omega) hl) ?_ | refine callK_intro (c_nx l rfl (k + 3) (k + 4) rfl _ (by omega) hl) ?_ | refine callK_intro (c_nx l rfl (k + 4) (k + 5) rfl _ (by omega) hl) ?_ | refine callK_intro (c_nx l rfl (k + 5) (k + 6) rfl _ (by omega) hl) ?_ | refine callK_intro (c_nx l rfl (k + 6) (k + 7) rfl _ (by omega) hl) ?_ | refine callK_intro (c_nx l rfl (k + 7) (k + 8) rfl _ (by omega) hl) ?_ | refine callK_intro (c_nx l rfl (k + 8) (k + 9) rfl _ (by omega) hl) ?_ | refine callK_intro (c_nx l rfl (k + 9) (k + 10) rfl _ (by omega) hl) ?_ | refine callK_intro (c_nx l rfl (k + 10) (k + 11) rfl _ (by omega) hl) ?_ | refine callK_intro (c_nx l rfl (k + 11) (k + 12) rfl _ (by omega) hl) ?_ | refine callK_intro (c_nx l rfl (k + 12) (k + 13) rfl _ (by omega) hl) ?_ | refine callK_intro (c_User _ (by omega)) ?_ | refine callK_intro (c_Service _ (by omega)) ?_ | refine callK_intro (c_Long _ (by omega)) ?_ | refine jA ?_ (by omega) | refine jy ?_ | refine ju ?_ | refine jv ?_)) <;> (try (conv => whnf))
    · by_cases h2 : nx l (k + 10) 9 = 8
      · by_cases h3 : nx l (k + 11) 9 = 8
        · have b0 := nx_bounds l k (n := 3) (by omega)
          have b1 := nx_bounds l (k + 1) (n := 2) (by omega)
          have b2 := nx_bounds l (k + 2) (n := 3) (by omega)
          have b3 := nx_bounds l (k + 3) (n := 40) (by omega)
          have b4 := nx_bounds l (k + 4) (n := 256) (by omega)
          have b5 := nx_bounds l (k + 5) (n := 256) (by omega)
          have b6 := nx_bounds l (k + 6) (n := 5) (by omega)
          have b7 := nx_bounds l (k + 7) (n := 4) (by omega)
          have b8 := nx_bounds l (k + 8) (n := 21) (by omega)
          have b9 := nx_bounds l (k + 9) (n := 5) (by omega)
          have b10 := nx_bounds l (k + 10) (n := 9) (by omega)
          have b11 := nx_bounds l (k + 11) (n := 9) (by omega)
          have b12 := nx_bounds l (k + 12) (n := 256) (by omega)
          have hat := attr_range b6 b7
          refine ⟨⟨serviceN (nx l (k + 2) 3), serviceI (nx l (k + 2) 3), 0, nx l (k + 4) 256, 0, nx l (k + 5) 256, (nx l (k + 6) 5) / 4 * (nx l (k + 7) 4), nx l (k + 8) 21, (nx l (k + 12) 256) * 100⟩, k + 13, by omega, ent_ok (service_valid _).1 (service_valid _).2 (.inl rfl) (by omega) (by omega) (by omega) (by omega) hat (by omega), ?_⟩
          refine Fn_intro (G := g18) (goodA rfl) (fn := Tryz.f18) rfl rfl rfl rfl rfl ?_
          (repeat' ((conv => whnf) <;> first | exact rfl | with_reducible refine boolK_dec (fun _ => ?_) (fun _ => ?_) <;> try (exfalso; omega) | refine boolK_beq (fun _ => ?_) (fun _ => ?_) <;> try (exfalso; first | omega | with_reducible contradiction) | refine boolK_bne (fun _ => ?_) (fun _ => ?_) <;> try (exfalso; first | omega | with_reducible contradiction) | (with_reducible first | refine boolK_not ?_ | refine boolK_and ?_ | refine boolK_or ?_ | refine boolK_true ?_ | refine boolK_false ?_) | refine boolK_intro (fun _ => ?_) (fun _ => ?_) <;> try (exfalso; simp_all; done) | refine jA ?_ | refine jB ?_ | refine jH ?_ | refine jI ?_ | refine jJ ?_ | refine jK ?_ | with_reducible refine natK_lit ?_ | refine natK_of rfl ?_ | refine natK_any ?_ | refine jL ?_ | refine jM ?_ | refine jN ?_ | refine callK_intro (c_nx l rfl k (k + 1) rfl _ (by omega) hl) ?_ | refine callK_intro (c_nx l rfl (k + 1) (k + 2) rfl _ (by omega) hl) ?_ | refine callK_intro (c_nx l rfl (k + 2) (k + 3) rfl _ (by omega) hl) ?_ | refine callK_intro (c_nx l rfl (k + 3) (k + 4) rfl _ (by omega) hl) ?_ | refine callK_intro (c_nx l rfl (k + 4) (k + 5) rfl _ (by omega) hl) ?_ | refine callK_intro (c_nx l rfl (k + 5) (k + 6) rfl _ (by omega) hl) ?_ | refine callK_intro (c_nx l rfl (k + 6) (k + 7) rfl _ (by omega) hl) ?_ | refine callK_intro (c_nx l rfl (k + 7) (k + 8) rfl _ (by omega) hl) ?_ | refine callK_intro (c_nx l rfl (k + 8) (k + 9) rfl _ (by omega) hl) ?_ | refine callK_intro (c_nx l rfl (k + 9) (k + 10) rfl _ (by omega) hl) ?_ | refine callK_intro (c_nx l rfl (k + 10) (k + 11) rfl _ (by omega) hl) ?_ | refine callK_intro (c_nx l rfl (k + 11) (k + 12) rfl _ (by omega) hl) ?_ | refine callK_intro (c_nx l rfl (k + 12) (k + 13) rfl _ (by omega) hl) ?_ | refine callK_intro (c_User _ (by omega)) ?_ | refine callK_intro (c_Service _ (by omega)) ?_ | refine callK_intro (c_Long _ (by omega)) ?_ | refine jA ?_ (by omega) | refine jy ?_ | refine ju ?_ | refine jv ?_)) <;> (try (conv => whnf))
        · have b0 := nx_bounds l k (n := 3) (by omega)
          have b1 := nx_bounds l (k + 1) (n := 2) (by omega)
          have b2 := nx_bounds l (k + 2) (n := 3) (by omega)
          have b3 := nx_bounds l (k + 3) (n := 40) (by omega)
          have b4 := nx_bounds l (k + 4) (n := 256) (by omega)
          have b5 := nx_bounds l (k + 5) (n := 256) (by omega)
          have b6 := nx_bounds l (k + 6) (n := 5) (by omega)
          have b7 := nx_bounds l (k + 7) (n := 4) (by omega)
          have b8 := nx_bounds l (k + 8) (n := 21) (by omega)
          have b9 := nx_bounds l (k + 9) (n := 5) (by omega)
          have b10 := nx_bounds l (k + 10) (n := 9) (by omega)
          have b11 := nx_bounds l (k + 11) (n := 9) (by omega)
          have hat := attr_range b6 b7
          refine ⟨⟨serviceN (nx l (k + 2) 3), serviceI (nx l (k + 2) 3), 0, nx l (k + 4) 256, 0, nx l (k + 5) 256, (nx l (k + 6) 5) / 4 * (nx l (k + 7) 4), nx l (k + 8) 21, 0⟩, k + 12, by omega, ent_ok (service_valid _).1 (service_valid _).2 (.inl rfl) (by omega) (by omega) (by omega) (by omega) hat (by omega), ?_⟩
          refine Fn_intro (G := g18) (goodA rfl) (fn := Tryz.f18) rfl rfl rfl rfl rfl ?_
          (repeat' ((conv => whnf) <;> first | exact rfl | with_reducible refine boolK_dec (fun _ => ?_) (fun _ => ?_) <;> try (exfalso; omega) | refine boolK_beq (fun _ => ?_) (fun _ => ?_) <;> try (exfalso; first | omega | with_reducible contradiction) | refine boolK_bne (fun _ => ?_) (fun _ => ?_) <;> try (exfalso; first | omega | with_reducible contradiction) | (with_reducible first | refine boolK_not ?_ | refine boolK_and ?_ | refine boolK_or ?_ | refine boolK_true ?_ | refine boolK_false ?_) | refine boolK_intro (fun _ => ?_) (fun _ => ?_) <;> try (exfalso; simp_all; done) | refine jA ?_ | refine jB ?_ | refine jH ?_ | refine jI ?_ | refine jJ ?_ | refine jK ?_ | with_reducible refine natK_lit ?_ | refine natK_of rfl ?_ | refine natK_any ?_ | refine jL ?_ | refine jM ?_ | refine jN ?_ | refine callK_intro (c_nx l rfl k (k + 1) rfl _ (by omega) hl) ?_ | refine callK_intro (c_nx l rfl (k + 1) (k + 2) rfl _ (by omega) hl) ?_ | refine callK_intro (c_nx l rfl (k + 2) (k + 3) rfl _ (by omega) hl) ?_ | refine callK_intro (c_nx l rfl (k + 3) (k + 4) rfl _ (by omega) hl) ?_ | refine callK_intro (c_nx l rfl (k + 4) (k + 5) rfl _ (by omega) hl) ?_ | refine callK_intro (c_nx l rfl (k + 5) (k + 6) rfl _ (by omega) hl) ?_ | refine callK_intro (c_nx l rfl (k + 6) (k + 7) rfl _ (by omega) hl) ?_ | refine callK_intro (c_nx l rfl (k + 7) (k + 8) rfl _ (by omega) hl) ?_ | refine callK_intro (c_nx l rfl (k + 8) (k + 9) rfl _ (by omega) hl) ?_ | refine callK_intro (c_nx l rfl (k + 9) (k + 10) rfl _ (by omega) hl) ?_ | refine callK_intro (c_nx l rfl (k + 10) (k + 11) rfl _ (by omega) hl) ?_ | refine callK_intro (c_nx l rfl (k + 11) (k + 12) rfl _ (by omega) hl) ?_ | refine callK_intro (c_User _ (by omega)) ?_ | refine callK_intro (c_Service _ (by omega)) ?_ | refine callK_intro (c_Long _ (by omega)) ?_ | refine jA ?_ (by omega) | refine jy ?_ | refine ju ?_ | refine jv ?_)) <;> (try (conv => whnf))
      · by_cases h3 : nx l (k + 11) 9 = 8
        · have b0 := nx_bounds l k (n := 3) (by omega)
          have b1 := nx_bounds l (k + 1) (n := 2) (by omega)
          have b2 := nx_bounds l (k + 2) (n := 3) (by omega)
          have b3 := nx_bounds l (k + 3) (n := 40) (by omega)
          have b4 := nx_bounds l (k + 4) (n := 256) (by omega)
          have b5 := nx_bounds l (k + 5) (n := 256) (by omega)
          have b6 := nx_bounds l (k + 6) (n := 5) (by omega)
          have b7 := nx_bounds l (k + 7) (n := 4) (by omega)
          have b8 := nx_bounds l (k + 8) (n := 21) (by omega)
          have b9 := nx_bounds l (k + 9) (n := 5) (by omega)
          have b10 := nx_bounds l (k + 10) (n := 9) (by omega)
          have b11 := nx_bounds l (k + 11) (n := 9) (by omega)
          have b12 := nx_bounds l (k + 12) (n := 256) (by omega)
          have hat := attr_range b6 b7
          refine ⟨⟨serviceN (nx l (k + 2) 3), serviceI (nx l (k + 2) 3), longK (nx l (k + 3) 40), nx l (k + 4) 256, 0, nx l (k + 5) 256, (nx l (k + 6) 5) / 4 * (nx l (k + 7) 4), nx l (k + 8) 21, (nx l (k + 12) 256) * 100⟩, k + 13, by omega, ent_ok (service_valid _).1 (service_valid _).2 (.inr (long_ok (by omega)).1) (by omega) (by omega) (by omega) (by omega) hat (by omega), ?_⟩
          refine Fn_intro (G := g18) (goodA rfl) (fn := Tryz.f18) rfl rfl rfl rfl rfl ?_
          (repeat' ((conv => whnf) <;> first | exact rfl | with_reducible refine boolK_dec (fun _ => ?_) (fun _ => ?_) <;> try (exfalso; omega) | refine boolK_beq (fun _ => ?_) (fun _ => ?_) <;> try (exfalso; first | omega | with_reducible contradiction) | refine boolK_bne (fun _ => ?_) (fun _ => ?_) <;> try (exfalso; first | omega | with_reducible contradiction) | (with_reducible first | refine boolK_not ?_ | refine boolK_and ?_ | refine boolK_or ?_ | refine boolK_true ?_ | refine boolK_false ?_) | refine boolK_intro (fun _ => ?_) (fun _ => ?_) <;> try (exfalso; simp_all; done) | refine jA ?_ | refine jB ?_ | refine jH ?_ | refine jI ?_ | refine jJ ?_ | refine jK ?_ | with_reducible refine natK_lit ?_ | refine natK_of rfl ?_ | refine natK_any ?_ | refine jL ?_ | refine jM ?_ | refine jN ?_ | refine callK_intro (c_nx l rfl k (k + 1) rfl _ (by omega) hl) ?_ | refine callK_intro (c_nx l rfl (k + 1) (k + 2) rfl _ (by omega) hl) ?_ | refine callK_intro (c_nx l rfl (k + 2) (k + 3) rfl _ (by omega) hl) ?_ | refine callK_intro (c_nx l rfl (k + 3) (k + 4) rfl _ (by omega) hl) ?_ | refine callK_intro (c_nx l rfl (k + 4) (k + 5) rfl _ (by omega) hl) ?_ | refine callK_intro (c_nx l rfl (k + 5) (k + 6) rfl _ (by omega) hl) ?_ | refine callK_intro (c_nx l rfl (k + 6) (k + 7) rfl _ (by omega) hl) ?_ | refine callK_intro (c_nx l rfl (k + 7) (k + 8) rfl _ (by omega) hl) ?_ | refine callK_intro (c_nx l rfl (k + 8) (k + 9) rfl _ (by omega) hl) ?_ | refine callK_intro (c_nx l rfl (k + 9) (k + 10) rfl _ (by omega) hl) ?_ | refine callK_intro (c_nx l rfl (k + 10) (k + 11) rfl _ (by omega) hl) ?_ | refine callK_intro (c_nx l rfl (k + 11) (k + 12) rfl _ (by omega) hl) ?_ | refine callK_intro (c_nx l rfl (k + 12) (k + 13) rfl _ (by omega) hl) ?_ | refine callK_intro (c_User _ (by omega)) ?_ | refine callK_intro (c_Service _ (by omega)) ?_ | refine callK_intro (c_Long _ (by omega)) ?_ | refine jA ?_ (by omega) | refine jy ?_ | refine ju ?_ | refine jv ?_)) <;> (try (conv => whnf))
        · have b0 := nx_bounds l k (n := 3) (by omega)
          have b1 := nx_bounds l (k + 1) (n := 2) (by omega)
          have b2 := nx_bounds l (k + 2) (n := 3) (by omega)
          have b3 := nx_bounds l (k + 3) (n := 40) (by omega)
          have b4 := nx_bounds l (k + 4) (n := 256) (by omega)
          have b5 := nx_bounds l (k + 5) (n := 256) (by omega)
          have b6 := nx_bounds l (k + 6) (n := 5) (by omega)
          have b7 := nx_bounds l (k + 7) (n := 4) (by omega)
          have b8 := nx_bounds l (k + 8) (n := 21) (by omega)
          have b9 := nx_bounds l (k + 9) (n := 5) (by omega)
          have b10 := nx_bounds l (k + 10) (n := 9) (by omega)
          have b11 := nx_bounds l (k + 11) (n := 9) (by omega)
          have hat := attr_range b6 b7
          refine ⟨⟨serviceN (nx l (k + 2) 3), serviceI (nx l (k + 2) 3), longK (nx l (k + 3) 40), nx l (k + 4) 256, 0, nx l (k + 5) 256, (nx l (k + 6) 5) / 4 * (nx l (k + 7) 4), nx l (k + 8) 21, 0⟩, k + 12, by omega, ent_ok (service_valid _).1 (service_valid _).2 (.inr (long_ok (by omega)).1) (by omega) (by omega) (by omega) (by omega) hat (by omega), ?_⟩
          refine Fn_intro (G := g18) (goodA rfl) (fn := Tryz.f18) rfl rfl rfl rfl rfl ?_
          (repeat' ((conv => whnf) <;> first | exact rfl | with_reducible refine boolK_dec (fun _ => ?_) (fun _ => ?_) <;> try (exfalso; omega) | refine boolK_beq (fun _ => ?_) (fun _ => ?_) <;> try (exfalso; first | omega | with_reducible contradiction) | refine boolK_bne (fun _ => ?_) (fun _ => ?_) <;> try (exfalso; first | omega | with_reducible contradiction) | (with_reducible first | refine boolK_not ?_ | refine boolK_and ?_ | refine boolK_or ?_ | refine boolK_true ?_ | refine boolK_false ?_) | refine boolK_intro (fun _ => ?_) (fun _ => ?_) <;> try (exfalso; simp_all; done) | refine jA ?_ | refine jB ?_ | refine jH ?_ | refine jI ?_ | refine jJ ?_ | refine jK ?_ | with_reducible refine natK_lit ?_ | refine natK_of rfl ?_ | refine natK_any ?_ | refine jL ?_ | refine jM ?_ | refine jN ?_ | refine callK_intro (c_nx l rfl k (k + 1) rfl _ (by omega) hl) ?_ | refine callK_intro (c_nx l rfl (k + 1) (k + 2) rfl _ (by omega) hl) ?_ | refine callK_intro (c_nx l rfl (k + 2) (k + 3) rfl _ (by omega) hl) ?_ | refine callK_intro (c_nx l rfl (k + 3) (k + 4) rfl _ (by omega) hl) ?_ | refine callK_intro (c_nx l rfl (k + 4) (k + 5) rfl _ (by omega) hl) ?_ | refine callK_intro (c_nx l rfl (k + 5) (k + 6) rfl _ (by omega) hl) ?_ | refine callK_intro (c_nx l rfl (k + 6) (k + 7) rfl _ (by omega) hl) ?_ | refine callK_intro (c_nx l rfl (k + 7) (k + 8) rfl _ (by omega) hl) ?_ | refine callK_intro (c_nx l rfl (k + 8) (k + 9) rfl _ (by omega) hl) ?_ | refine callK_intro (c_nx l rfl (k + 9) (k + 10) rfl _ (by omega) hl) ?_ | refine callK_intro (c_nx l rfl (k + 10) (k + 11) rfl _ (by omega) hl) ?_ | refine callK_intro (c_nx l rfl (k + 11) (k + 12) rfl _ (by omega) hl) ?_ | refine callK_intro (c_User _ (by omega)) ?_ | refine callK_intro (c_Service _ (by omega)) ?_ | refine callK_intro (c_Long _ (by omega)) ?_ | refine jA ?_ (by omega) | refine jy ?_ | refine ju ?_ | refine jv ?_)) <;> (try (conv => whnf))
  · by_cases h1 : nx l (k + 8) 5 = 4
    · by_cases h2 : nx l (k + 10) 9 = 8
      · by_cases h3 : nx l (k + 11) 9 = 8
        · have b0 := nx_bounds l k (n := 3) (by omega)
          have b1 := nx_bounds l (k + 1) (n := 2) (by omega)
          have b2 := nx_bounds l (k + 2) (n := 40) (by omega)
          have b3 := nx_bounds l (k + 3) (n := 256) (by omega)
          have b4 := nx_bounds l (k + 4) (n := 256) (by omega)
          have b5 := nx_bounds l (k + 5) (n := 5) (by omega)
          have b6 := nx_bounds l (k + 6) (n := 4) (by omega)
          have b7 := nx_bounds l (k + 7) (n := 21) (by omega)
          have b8 := nx_bounds l (k + 8) (n := 5) (by omega)
          have b9 := nx_bounds l (k + 9) (n := 256) (by omega)
          have b10 := nx_bounds l (k + 10) (n := 9) (by omega)
          have b11 := nx_bounds l (k + 11) (n := 9) (by omega)
          have b12 := nx_bounds l (k + 12) (n := 256) (by omega)
          have hat := attr_range b5 b6
          refine ⟨⟨userN (nx l k 3), [], 0, nx l (k + 3) 256, (nx l (k + 9) 256) * 200, nx l (k + 4) 256, (nx l (k + 5) 5) / 4 * (nx l (k + 6) 4), nx l (k + 7) 21, (nx l (k + 12) 256) * 100⟩, k + 13, by omega, ent_ok (user_parts _) inst_nil (.inl rfl) (by omega) (by omega) (by omega) (by omega) hat (by omega), ?_⟩
          refine Fn_intro (G := g18) (goodA rfl) (fn := Tryz.f18) rfl rfl rfl rfl rfl ?_
          (repeat' ((conv => whnf) <;> first | exact rfl | with_reducible refine boolK_dec (fun _ => ?_) (fun _ => ?_) <;> try (exfalso; omega) | refine boolK_beq (fun _ => ?_) (fun _ => ?_) <;> try (exfalso; first | omega | with_reducible contradiction) | refine boolK_bne (fun _ => ?_) (fun _ => ?_) <;> try (exfalso; first | omega | with_reducible contradiction) | (with_reducible first | refine boolK_not ?_ | refine boolK_and ?_ | refine boolK_or ?_ | refine boolK_true ?_ | refine boolK_false ?_) | refine boolK_intro (fun _ => ?_) (fun _ => ?_) <;> try (exfalso; simp_all; done) | refine jA ?_ | refine jB ?_ | refine jH ?_ | refine jI ?_ | refine jJ ?_ | refine jK ?_ | with_reducible refine natK_lit ?_ | refine natK_of rfl ?_ | refine natK_any ?_ | refine jL ?_ | refine jM ?_ | refine jN ?_ | refine callK_intro (c_nx l rfl k (k + 1) rfl _ (by omega) hl) ?_ | refine callK_intro (c_nx l rfl (k + 1) (k + 2) rfl _ (by omega) hl) ?_ | refine callK_intro (c_nx l rfl (k + 2) (k + 3) rfl _ (by omega) hl) ?_ | refine callK_intro (c_nx l rfl (k + 3) (k + 4) rfl _ (by omega) hl) ?_ | refine callK_intro (c_nx l rfl (k + 4) (k + 5) rfl _ (by omega) hl) ?_ | refine callK_intro (c_nx l rfl (k + 5) (k + 6) rfl _ (by omega) hl) ?_ | refine callK_intro (c_nx l rfl (k + 6) (k + 7) rfl _ (by omega) hl) ?_ | refine callK_intro (c_nx l rfl (k + 7) (k + 8) rfl _ (by omega) hl) ?_ | refine callK_intro (c_nx l rfl (k + 8) (k + 9) rfl _ (by omega) hl) ?_ | refine callK_intro (c_nx l rfl (k + 9) (k + 10) rfl _ (by omega) hl) ?_ | refine callK_intro (c_nx l rfl (k + 10) (k + 11) rfl _ (by omega) hl) ?_ | refine callK_intro (c_nx l rfl (k + 11) (k + 12) rfl _ (by omega) hl) ?_ | refine callK_intro (c_nx l rfl (k + 12) (k + 13) rfl _ (by omega) hl) ?_ | refine callK_intro (c_User _ (by omega)) ?_ | refine callK_intro (c_Service _ (by omega)) ?_ | refine callK_intro (c_Long _ (by omega)) ?_ | refine jA ?_ (by omega) | refine jy ?_ | refine ju ?_ | refine jv ?_)) <;> (try (conv => whnf))
        · have b0 := nx_bounds l k (n := 3) (by omega)
          have b1 := nx_bounds l (k + 1) (n := 2) (by omega)
          have b2 := nx_bounds l (k + 2) (n := 40) (by omega)
          have b3 := nx_bounds l (k + 3) (n := 256) (by omega)
          have b4 := nx_bounds l (k + 4) (n := 256) (by omega)
          have b5 := nx_bounds l (k + 5) (n := 5) (by omega)
          have b6 := nx_bounds l (k + 6) (n := 4) (by omega)
          have b7 := nx_bounds l (k + 7) (n := 21) (by omega)
          have b8 := nx_bounds l (k + 8) (n := 5) (by omega)
          have b9 := nx_bounds l (k + 9) (n := 256) (by omega)
          have b10 := nx_bounds l (k + 10) (n := 9) (by omega)
          have b11 := nx_bounds l (k + 11) (n := 9) (by omega)
          have hat := attr_range b5 b6
          refine ⟨⟨userN (nx l k 3), [], 0, nx l (k + 3) 256, (nx l (k + 9) 256) * 200, nx l (k + 4) 256, (nx l (k + 5) 5) / 4 * (nx l (k + 6) 4), nx l (k + 7) 21, 0⟩, k + 12, by omega, ent_ok (user_parts _) inst_nil (.inl rfl) (by omega) (by omega) (by omega) (by omega) hat (by omega), ?_⟩
          refine Fn_intro (G := g18) (goodA rfl) (fn := Tryz.f18) rfl rfl rfl rfl rfl ?_
          (repeat' ((conv => whnf) <;> first | exact rfl | with_reducible refine boolK_dec (fun _ => ?_) (fun _ => ?_) <;> try (exfalso; omega) | refine boolK_beq (fun _ => ?_) (fun _ => ?_) <;> try (exfalso; first | omega | with_reducible contradiction) | refine boolK_bne (fun _ => ?_) (fun _ => ?_) <;> try (exfalso; first | omega | with_reducible contradiction) | (with_reducible first | refine boolK_not ?_ | refine boolK_and ?_ | refine boolK_or ?_ | refine boolK_true ?_ | refine boolK_false ?_) | refine boolK_intro (fun _ => ?_) (fun _ => ?_) <;> try (exfalso; simp_all; done) | refine jA ?_ | refine jB ?_ | refine jH ?_ | refine jI ?_ | refine jJ ?_ | refine jK ?_ | with_reducible refine natK_lit ?_ | refine natK_of rfl ?_ | refine natK_any ?_ | refine jL ?_ | refine jM ?_ | refine jN ?_ | refine callK_intro (c_nx l rfl k (k + 1) rfl _ (by omega) hl) ?_ | refine callK_intro (c_nx l rfl (k + 1) (k + 2) rfl _ (by omega) hl) ?_ | refine callK_intro (c_nx l rfl (k + 2) (k + 3) rfl _ (by omega) hl) ?_ | refine callK_intro (c_nx l rfl (k + 3) (k + 4) rfl _ (by omega) hl) ?_ | refine callK_intro (c_nx l rfl (k + 4) (k + 5) rfl _ (by omega) hl) ?_ | refine callK_intro (c_nx l rfl (k + 5) (k + 6) rfl _ (by omega) hl) ?_ | refine callK_intro (c_nx l rfl (k + 6) (k + 7) rfl _ (by omega) hl) ?_ | refine callK_intro (c_nx l rfl (k + 7) (k + 8) rfl _ (by omega) hl) ?_ | refine callK_intro (c_nx l rfl (k + 8) (k + 9) rfl _ (by omega) hl) ?_ | refine callK_intro (c_nx l rfl (k + 9) (k + 10) rfl _ (by omega) hl) ?_ | refine callK_intro (c_nx l rfl (k + 10) (k + 11) rfl _ (by omega) hl) ?_ | refine callK_intro (c_nx l rfl (k + 11) (k + 12) rfl _ (by omega) hl) ?_ | refine callK_intro (c_User _ (by omega)) ?_ | refine callK_intro (c_Service _ (by omega)) ?_ | refine callK_intro (c_Long _ (by omega)) ?_ | refine jA ?_ (by omega) | refine jy ?_ | refine ju ?_ | refine jv ?_)) <;> (try (conv => whnf))
      · by_cases h3 : nx l (k + 11) 9 = 8
        · have b0 := nx_bounds l k (n := 3) (by omega)
          have b1 := nx_bounds l (k + 1) (n := 2) (by omega)
          have b2 := nx_bounds l (k + 2) (n := 40) (by omega)
          have b3 := nx_bounds l (k + 3) (n := 256) (by omega)
          have b4 := nx_bounds l (k + 4) (n := 256) (by omega)
          have b5 := nx_bounds l (k + 5) (n := 5) (by omega)
          have b6 := nx_bounds l (k + 6) (n := 4) (by omega)
          have b7 := nx_bounds l (k + 7) (n := 21) (by omega)
          have b8 := nx_bounds l (k + 8) (n := 5) (by omega)
          have b9 := nx_bounds l (k + 9) (n := 256) (by omega)
          have b10 := nx_bounds l (k + 10) (n := 9) (by omega)
          have b11 := nx_bounds l (k + 11) (n := 9) (by omega)
          have b12 := nx_bounds l (k + 12) (n := 256) (by omega)
          have hat := attr_range b5 b6
          refine ⟨⟨userN (nx l k 3), [], longK (nx l (k + 2) 40), nx l (k + 3) 256, (nx l (k + 9) 256) * 200, nx l (k + 4) 256, (nx l (k + 5) 5) / 4 * (nx l (k + 6) 4), nx l (k + 7) 21, (nx l (k + 12) 256) * 100⟩, k + 13, by omega, ent_ok (user_parts _) inst_nil (.inr (long_ok (by omega)).1) (by omega) (by omega) (by omega) (by omega) hat (by omega), ?_⟩
          refine Fn_intro (G := g18) (goodA rfl) (fn := Tryz.f18) rfl rfl rfl rfl rfl ?_
          (repeat' ((conv => whnf) <;> first | exact rfl | with_reducible refine boolK_dec (fun _ => ?_) (fun _ => ?_) <;> try (exfalso; omega) | refine boolK_beq (fun _ => ?_) (fun _ => ?_) <;> try (exfalso; first | omega | with_reducible contradiction) | refine boolK_bne (fun _ => ?_) (fun _ => ?_) <;> try (exfalso; first | omega | with_reducible contradiction) | (with_reducible first | refine boolK_not ?_ | refine boolK_and ?_ | refine boolK_or ?_ | refine boolK_true ?_ | refine boolK_false ?_) | refine boolK_intro (fun _ => ?_) (fun _ => ?_) <;> try (exfalso; simp_all; done) | refine jA ?_ | refine jB ?_ | refine jH ?_ | refine jI ?_ | refine jJ ?_ | refine jK ?_ | with_reducible refine natK_lit ?_ | refine natK_of rfl ?_ | refine natK_any ?_ | refine jL ?_ | refine jM ?_ | refine jN ?_ | refine callK_intro (c_nx l rfl k (k + 1) rfl _ (by omega) hl) ?_ | refine callK_intro (c_nx l rfl (k + 1) (k + 2) rfl _ (by omega) hl) ?_ | refine callK_intro (c_nx l rfl (k + 2) (k + 3) rfl _ (by omega) hl) ?_ | refine callK_intro (c_nx l rfl (k + 3) (k + 4) rfl _ (by omega) hl) ?_ | refine callK_intro (c_nx l rfl (k + 4) (k + 5) rfl _ (by omega) hl) ?_ | refine callK_intro (c_nx l rfl (k + 5) (k + 6) rfl _ (by omega) hl) ?_ | refine callK_intro (c_nx l rfl (k + 6) (k + 7) rfl _ (by omega) hl) ?_ | refine callK_intro (c_nx l rfl (k + 7) (k + 8) rfl _ (by omega) hl) ?_ | refine callK_intro (c_nx l rfl (k + 8) (k + 9) rfl _ (by omega) hl) ?_ | refine callK_intro (c_nx l rfl (k + 9) (k + 10) rfl _ (by omega) hl) ?_ | refine callK_intro (c_nx l rfl (k + 10) (k + 11) rfl _ (by omega) hl) ?_ | refine callK_intro (c_nx l rfl (k + 11) (k + 12) rfl _ (by omega) hl) ?_ | refine callK_intro (c_nx l rfl (k + 12) (k + 13) rfl _ (by omega) hl) ?_ | refine callK_intro (c_User _ (by omega)) ?_ | refine callK_intro (c_Service _ (by omega)) ?_ | refine callK_intro (c_Long _ (by omega)) ?_ | refine jA ?_ (by omega) | refine jy ?_ | refine ju ?_ | refine jv ?_)) <;> (try (conv => whnf))
        · have b0 := nx_bounds l k (n := 3) (by omega)
          have b1 := nx_bounds l (k + 1) (n := 2) (by omega)
          have b2 := nx_bounds l (k + 2) (n := 40) (by omega)
          have b3 := nx_bounds l (k + 3) (n := 256) (by omega)
          have b4 := nx_bounds l (k + 4) (n := 256) (by omega)
          have b5 := nx_bounds l (k + 5) (n := 5) (by omega)
          have b6 := nx_bounds l (k + 6) (n := 4) (by omega)
          have b7 := nx_bounds l (k + 7) (n := 21) (by omega)
          have b8 := nx_bounds l (k + 8) (n := 5) (by omega)
          have b9 := nx_bounds l (k + 9) (n := 256) (by omega)
          have b10 := nx_bounds l (k + 10) (n := 9) (by omega)
          have b11 := nx_bounds l (k + 11) (n := 9) (by omega)
          have hat := attr_range b5 b6
          refine ⟨⟨userN (nx l k 3), [], longK (nx l (k + 2) 40), nx l (k + 3) 256, (nx l (k + 9) 256) * 200, nx l (k + 4) 256, (nx l (k + 5) 5) / 4 * (nx l (k + 6) 4), nx l (k + 7) 21, 0⟩, k + 12, by omega, ent_ok (user_parts _) inst_nil (.inr (long_ok (by omega)).1) (by omega) (by omega) (by omega) (by omega) hat (by omega), ?_⟩
          refine Fn_intro (G := g18) (goodA rfl) (fn := Tryz.f18) rfl rfl rfl rfl rfl ?_
          (repeat' ((conv => whnf) <;> first | exact rfl | with_reducible refine boolK_dec (fun _ => ?_) (fun _ => ?_) <;> try (exfalso; omega) | refine boolK_beq (fun _ => ?_) (fun _ => ?_) <;> try (exfalso; first | omega | with_reducible contradiction) | refine boolK_bne (fun _ => ?_) (fun _ => ?_) <;> try (exfalso; first | omega | with_reducible contradiction) | (with_reducible first | refine boolK_not ?_ | refine boolK_and ?_ | refine boolK_or ?_ | refine boolK_true ?_ | refine boolK_false ?_) | refine boolK_intro (fun _ => ?_) (fun _ => ?_) <;> try (exfalso; simp_all; done) | refine jA ?_ | refine jB ?_ | refine jH ?_ | refine jI ?_ | refine jJ ?_ | refine jK ?_ | with_reducible refine natK_lit ?_ | refine natK_of rfl ?_ | refine natK_any ?_ | refine jL ?_ | refine jM ?_ | refine jN ?_ | refine callK_intro (c_nx l rfl k (k + 1) rfl _ (by omega) hl) ?_ | refine callK_intro (c_nx l rfl (k + 1) (k + 2) rfl _ (by omega) hl) ?_ | refine callK_intro (c_nx l rfl (k + 2) (k + 3) rfl _ (by omega) hl) ?_ | refine callK_intro (c_nx l rfl (k + 3) (k + 4) rfl _ (by omega) hl) ?_ | refine callK_intro (c_nx l rfl (k + 4) (k + 5) rfl _ (by omega) hl) ?_ | refine callK_intro (c_nx l rfl (k + 5) (k + 6) rfl _ (by omega) hl) ?_ | refine callK_intro (c_nx l rfl (k + 6) (k + 7) rfl _ (by omega) hl) ?_ | refine callK_intro (c_nx l rfl (k + 7) (k + 8) rfl _ (by omega) hl) ?_ | refine callK_intro (c_nx l rfl (k + 8) (k + 9) rfl _ (by omega) hl) ?_ | refine callK_intro (c_nx l rfl (k + 9) (k + 10) rfl _ (by omega) hl) ?_ | refine callK_intro (c_nx l rfl (k + 10) (k + 11) rfl _ (by omega) hl) ?_ | refine callK_intro (c_nx l rfl (k + 11) (k + 12) rfl _ (by omega) hl) ?_ | refine callK_intro (c_User _ (by omega)) ?_ | refine callK_intro (c_Service _ (by omega)) ?_ | refine callK_intro (c_Long _ (by omega)) ?_ | refine jA ?_ (by omega) | refine jy ?_ | refine ju ?_ | refine jv ?_)) <;> (try (conv => whnf))
    · by_cases h2 : nx l (k + 9) 9 = 8
      · by_cases h3 : nx l (k + 10) 9 = 8
        · have b0 := nx_bounds l k (n := 3) (by omega)
          have b1 := nx_bounds l (k + 1) (n := 2) (by omega)
          have b2 := nx_bounds l (k + 2) (n := 40) (by omega)
          have b3 := nx_bounds l (k + 3) (n := 256) (by omega)
          have b4 := nx_bounds l (k + 4) (n := 256) (by omega)
          have b5 := nx_bounds l (k + 5) (n := 5) (by omega)
          have b6 := nx_bounds l (k + 6) (n := 4) (by omega)
          have b7 := nx_bounds l (k + 7) (n := 21) (by omega)
          have b8 := nx_bounds l (k + 8) (n := 5) (by omega)
          have b9 := nx_bounds l (k + 9) (n := 9) (by omega)
          have b10 := nx_bounds l (k + 10) (n := 9) (by omega)
          have b11 := nx_bounds l (k + 11) (n := 256) (by omega)
          have hat := attr_range b5 b6
          refine ⟨⟨userN (nx l k 3), [], 0, nx l (k + 3) 256, 0, nx l (k + 4) 256, (nx l (k + 5) 5) / 4 * (nx l (k + 6) 4), nx l (k + 7) 21, (nx l (k + 11) 256) * 100⟩, k + 12, by omega, ent_ok (user_parts _) inst_nil (.inl rfl) (by omega) (by omega) (by omega) (by omega) hat (by omega), ?_⟩
          refine Fn_intro (G := g18) (goodA rfl) (fn := Tryz.f18) rfl rfl rfl rfl rfl ?_
          (repeat' ((conv => whnf) <;> first | exact rfl | with_reducible refine boolK_dec (fun _ => ?_) (fun _ => ?_) <;> try (exfalso; omega) | refine boolK_beq (fun _ => ?_) (fun _ => ?_) <;> try (exfalso; first | omega | with_reducible contradiction) | refine boolK_bne (fun _ => ?_) (fun _ => ?_) <;> try (exfalso; first | omega | with_reducible contradiction) | (with_reducible first | refine boolK_not ?_ | refine boolK_and ?_ | refine boolK_or ?_ | refine boolK_true ?_ | refine boolK_false ?_) | refine boolK_intro (fun _ => ?_) (fun _ => ?_) <;> try (exfalso; simp_all; done) | refine jA ?_ | refine jB ?_ | refine jH ?_ | refine jI ?_ | refine jJ ?_ | refine jK ?_ | with_reducible refine natK_lit ?_ | refine natK_of rfl ?_ | refine natK_any ?_ | refine jL ?_ | refine jM ?_ | refine jN ?_ | refine callK_intro (c_nx l rfl k (k + 1) rfl _ (by omega) hl) ?_ | refine callK_intro (c_nx l rfl (k + 1) (k + 2) rfl _ (by omega) hl) ?_ | refine callK_intro (c_nx l rfl (k + 2) (k + 3) rfl _ (by omega) hl) ?_ | refine callK_intro (c_nx l rfl (k + 3) (k + 4) rfl _ (by omega) hl) ?_ | refine callK_intro (c_nx l rfl (k + 4) (k + 5) rfl _ (by omega) hl) ?_ | refine callK_intro (c_nx l rfl (k + 5) (k + 6) rfl _ (by omega) hl) ?_ | refine callK_intro (c_nx l rfl (k + 6) (k + 7) rfl _ (by omega) hl) ?_ | refine callK_intro (c_nx l rfl (k + 7) (k + 8) rfl _ (by omega) hl) ?_ | refine callK_intro (c_nx l rfl (k + 8) (k + 9) rfl _ (by omega) hl) ?_ | refine callK_intro (c_nx l rfl (k + 9) (k + 10) rfl _ (by omega) hl) ?_ | refine callK_intro (c_nx l rfl (k + 10) (k + 11) rfl _ (by omega) hl) ?_ | refine callK_intro (c_nx l rfl (k + 11) (k + 12) rfl _ (by omega) hl) ?_ | refine callK_intro (c_User _ (by omega)) ?_ | refine callK_intro (c_Service _ (by omega)) ?_ | refine callK_intro (c_Long _ (by omega)) ?_ | refine jA ?_ (by omega) | refine jy ?_ | refine ju ?_ | refine jv ?_)) <;> (try (conv => whnf))
        · have b0 := nx_bounds l k (n := 3) (by omega)
          have b1 := nx_bounds l (k + 1) (n := 2) (by omega)
          have b2 := nx_bounds l (k + 2) (n := 40) (by omega)
          have b3 := nx_bounds l (k + 3) (n := 256) (by omega)
          have b4 := nx_bounds l (k + 4) (n := 256) (by omega)
          have b5 := nx_bounds l (k + 5) (n := 5) (by omega)
          have b6 := nx_bounds l (k + 6) (n := 4) (by omega)
          have b7 := nx_bounds l (k + 7) (n := 21) (by omega)
          have b8 := nx_bounds l (k + 8) (n := 5) (by omega)
          have b9 := nx_bounds l (k + 9) (n := 9) (by omega)
          have b10 := nx_bounds l (k + 10) (n := 9) (by omega)
          have hat := attr_range b5 b6
          refine ⟨⟨userN (nx l k 3), [], 0, nx l (k + 3) 256, 0, nx l (k + 4) 256, (nx l (k + 5) 5) / 4 * (nx l (k + 6) 4), nx l (k + 7) 21, 0⟩, k + 11, by omega, ent_ok (user_parts _) inst_nil (.inl rfl) (by omega) (by omega) (by omega) (by omega) hat (by omega), ?_⟩
          refine Fn_intro (G := g18) (goodA rfl) (fn := Tryz.f18) rfl rfl rfl rfl rfl ?_
          (repeat' ((conv => whnf) <;> first | exact rfl | with_reducible refine boolK_dec (fun _ => ?_) (fun _ => ?_) <;> try (exfalso; omega) | refine boolK_beq (fun _ => ?_) (fun _ => ?_) <;> try (exfalso; first | omega | with_reducible contradiction) | refine boolK_bne (fun _ => ?_) (fun _ => ?_) <;> try (exfalso; first | omega | with_reducible contradiction) | (with_reducible first | refine boolK_not ?_ | refine boolK_and ?_ | refine boolK_or ?_ | refine boolK_true ?_ | refine boolK_false ?_) | refine boolK_intro (fun _ => ?_) (fun _ => ?_) <;> try (exfalso; simp_all; done) | refine jA ?_ | refine jB ?_ | refine jH ?_ | refine jI ?_ | refine jJ ?_ | refine jK ?_ | with_reducible refine natK_lit ?_ | refine natK_of rfl ?_ | refine natK_any ?_ | refine jL ?_ | refine jM ?_ | refine jN ?_ | refine callK_intro (c_nx l rfl k (k + 1) rfl _ (by omega) hl) ?_ | refine callK_intro (c_nx l rfl (k + 1) (k + 2) rfl _ (by omega) hl) ?_ | refine callK_intro (c_nx l rfl (k + 2) (k + 3) rfl _ (by omega) hl) ?_ | refine callK_intro (c_nx l rfl (k + 3) (k + 4) rfl _ (by omega) hl) ?_ | refine callK_intro (c_nx l rfl (k + 4) (k + 5) rfl _ (by omega) hl) ?_ | refine callK_intro (c_nx l rfl (k + 5) (k + 6) rfl _ (by omega) hl) ?_ | refine callK_intro (c_nx l rfl (k + 6) (k + 7) rfl _ (by omega) hl) ?_ | refine callK_intro (c_nx l rfl (k + 7) (k + 8) rfl _ (by omega) hl) ?_ | refine callK_intro (c_nx l rfl (k + 8) (k + 9) rfl _ (by omega) hl) ?_ | refine callK_intro (c_nx l rfl (k + 9) (k + 10) rfl _ (by omega) hl) ?_ | refine callK_intro (c_nx l rfl (k + 10) (k + 11) rfl _ (by omega) hl) ?_ | refine callK_intro (c_User _ (by omega)) ?_ | refine callK_intro (c_Service _ (by omega)) ?_ | refine callK_intro (c_Long _ (by omega)) ?_ | refine jA ?_ (by omega) | refine jy ?_ | refine ju ?_ | refine jv ?_)) <;> (try (conv => whnf))
      · by_cases h3 : nx l (k + 10) 9 = 8
        · have b0 := nx_bounds l k (n := 3) (by omega)
          have b1 := nx_bounds l (k + 1) (n := 2) (by omega)
          have b2 := nx_bounds l (k + 2) (n := 40) (by omega)
          have b3 := nx_bounds l (k + 3) (n := 256) (by omega)
          have b4 := nx_bounds l (k + 4) (n := 256) (by omega)
          have b5 := nx_bounds l (k + 5) (n := 5) (by omega)
          have b6 := nx_bounds l (k + 6) (n := 4) (by omega)
          have b7 := nx_bounds l (k + 7) (n := 21) (by omega)
          have b8 := nx_bounds l (k + 8) (n := 5) (by omega)
          have b9 := nx_bounds l (k + 9) (n := 9) (by omega)
          have b10 := nx_bounds l (k + 10) (n := 9) (by omega)
          have b11 := nx_bounds l (k + 11) (n := 256) (by omega)
          have hat := attr_range b5 b6
          refine ⟨⟨userN (nx l k 3), [], longK (nx l (k + 2) 40), nx l (k + 3) 256, 0, nx l (k + 4) 256, (nx l (k + 5) 5) / 4 * (nx l (k + 6) 4), nx l (k + 7) 21, (nx l (k + 11) 256) * 100⟩, k + 12, by omega, ent_ok (user_parts _) inst_nil (.inr (long_ok (by omega)).1) (by omega) (by omega) (by omega) (by omega) hat (by omega), ?_⟩
          refine Fn_intro (G := g18) (goodA rfl) (fn := Tryz.f18) rfl rfl rfl rfl rfl ?_
          (repeat' ((conv => whnf) <;> first | exact rfl | with_reducible refine boolK_dec (fun _ => ?_) (fun _ => ?_) <;> try (exfalso; omega) | refine boolK_beq (fun _ => ?_) (fun _ => ?_) <;> try (exfalso; first | omega | with_reducible contradiction) | refine boolK_bne (fun _ => ?_) (fun _ => ?_) <;> try (exfalso; first | omega | with_reducible contradiction) | (with_reducible first | refine boolK_not ?_ | refine boolK_and ?_ | refine boolK_or ?_ | refine boolK_true ?_ | refine boolK_false ?_) | refine boolK_intro (fun _ => ?_) (fun _ => ?_) <;> try (exfalso; simp_all; done) | refine jA ?_ | refine jB ?_ | refine jH ?_ | refine jI ?_ | refine jJ ?_ | refine jK ?_ | with_reducible refine natK_lit ?_ | refine natK_of rfl ?_ | refine natK_any ?_ | refine jL ?_ | refine jM ?_ | refine jN ?_ | refine callK_intro (c_nx l rfl k (k + 1) rfl _ (by omega) hl) ?_ | refine callK_intro (c_nx l rfl (k + 1) (k + 2) rfl _ (by omega) hl) ?_ | refine callK_intro (c_nx l rfl (k + 2) (k + 3) rfl _ (by omega) hl) ?_ | refine callK_intro (c_nx l rfl (k + 3) (k + 4) rfl _ (by omega) hl) ?_ | refine callK_intro (c_nx l rfl (k + 4) (k + 5) rfl _ (by omega) hl) ?_ | refine callK_intro (c_nx l rfl (k + 5) (k + 6) rfl _ (by omega) hl) ?_ | refine callK_intro (c_nx l rfl (k + 6) (k + 7) rfl _ (by omega) hl) ?_ | refine callK_intro (c_nx l rfl (k + 7) (k + 8) rfl _ (by omega) hl) ?_ | refine callK_intro (c_nx l rfl (k + 8) (k + 9) rfl _ (by omega) hl) ?_ | refine callK_intro (c_nx l rfl (k + 9) (k + 10) rfl _ (by omega) hl) ?_ | refine callK_intro (c_nx l rfl (k + 10) (k + 11) rfl _ (by omega) hl) ?_ | refine callK_intro (c_nx l rfl (k + 11) (k + 12) rfl _ (by omega) hl) ?_ | refine callK_intro (c_User _ (by omega)) ?_ | refine callK_intro (c_Service _ (by omega)) ?_ | refine callK_intro (c_Long _ (by omega)) ?_ | refine jA ?_ (by omega) | refine jy ?_ | refine ju ?_ | refine jv ?_)) <;> (try (conv => whnf))
        · have b0 := nx_bounds l k (n := 3) (by omega)
          have b1 := nx_bounds l (k + 1) (n := 2) (by omega)
          have b2 := nx_bounds l (k + 2) (n := 40) (by omega)
          have b3 := nx_bounds l (k + 3) (n := 256) (by omega)
          have b4 := nx_bounds l (k + 4) (n := 256) (by omega)
          have b5 := nx_bounds l (k + 5) (n := 5) (by omega)
          have b6 := nx_bounds l (k + 6) (n := 4) (by omega)
          have b7 := nx_bounds l (k + 7) (n := 21) (by omega)
          have b8 := nx_bounds l (k + 8) (n := 5) (by omega)
          have b9 := nx_bounds l (k + 9) (n := 9) (by omega)
          have b10 := nx_bounds l (k + 10) (n := 9) (by omega)
          have hat := attr_range b5 b6
          refine ⟨⟨userN (nx l k 3), [], longK (nx l (k + 2) 40), nx l (k + 3) 256, 0, nx l (k + 4) 256, (nx l (k + 5) 5) / 4 * (nx l (k + 6) 4), nx l (k + 7) 21, 0⟩, k + 11, by omega, ent_ok (user_parts _) inst_nil (.inr (long_ok (by omega)).1) (by omega) (by omega) (by omega) (by omega) hat (by omega), ?_⟩
          refine Fn_intro (G := g18) (goodA rfl) (fn := Tryz.f18) rfl rfl rfl rfl rfl ?_
          (repeat' ((conv => whnf) <;> first | exact rfl | with_reducible refine boolK_dec (fun _ => ?_) (fun _ => ?_) <;> try (exfalso; omega) | refine boolK_beq (fun _ => ?_) (fun _ => ?_) <;> try (exfalso; first | omega | with_reducible contradiction) | refine boolK_bne (fun _ => ?_) (fun _ => ?_) <;> try (exfalso; first | omega | with_reducible contradiction) | (with_reducible first | refine boolK_not ?_ | refine boolK_and ?_ | refine boolK_or ?_ | refine boolK_true ?_ | refine boolK_false ?_) | refine boolK_intro (fun _ => ?_) (fun _ => ?_) <;> try (exfalso; simp_all; done) | refine jA ?_ | refine jB ?_ | refine jH ?_ | refine jI ?_ | refine jJ ?_ | refine jK ?_ | with_reducible refine natK_lit ?_ | refine natK_of rfl ?_ | refine natK_any ?_ | refine jL ?_ | refine jM ?_ | refine jN ?_ | refine callK_intro (c_nx l rfl k (k + 1) rfl _ (by omega) hl) ?_ | refine callK_intro (c_nx l rfl (k + 1) (k + 2) rfl _ (by omega) hl) ?_ | refine callK_intro (c_nx l rfl (k + 2) (k + 3) rfl _ (by omega) hl) ?_ | refine callK_intro (c_nx l rfl (k + 3) (k + 4) rfl _ (by omega) hl) ?_ | refine callK_intro (c_nx l rfl (k + 4) (k + 5) rfl _ (by omega) hl) ?_ | refine callK_intro (c_nx l rfl (k + 5) (k + 6) rfl _ (by omega) hl) ?_ | refine callK_intro (c_nx l rfl (k + 6) (k + 7) rfl _ (by omega) hl) ?_ | refine callK_intro (c_nx l rfl (k + 7) (k + 8) rfl _ (by omega) hl) ?_ | refine callK_intro (c_nx l rfl (k + 8) (k + 9) rfl _ (by omega) hl) ?_ | refine callK_intro (c_nx l rfl (k + 9) (k + 10) rfl _ (by omega) hl) ?_ | refine callK_intro (c_nx l rfl (k + 10) (k + 11) rfl _ (by omega) hl) ?_ | refine callK_intro (c_User _ (by omega)) ?_ | refine callK_intro (c_Service _ (by omega)) ?_ | refine callK_intro (c_Long _ (by omega)) ?_ | refine jA ?_ (by omega) | refine jy ?_ | refine ju ?_ | refine jv ?_)) <;> (try (conv => whnf))
end Go.Sx

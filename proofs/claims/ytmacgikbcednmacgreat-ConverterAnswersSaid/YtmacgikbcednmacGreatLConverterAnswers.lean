/-
  The statement ConverterAnswers: the law returns true for every input; no conditions.
-/
import Derived.Test.YtmacgikbcednmacGreatCConvP
import Derived.Test.YtmacgikbcednmacGreatCDbM
import Derived.Test.YtmacgikbcednmacGreatLOwn
set_option linter.all false
namespace Go.Sx
open Go.Proofs Go.RowKit
noncomputable def g3 : Par := par 142 (nthLL [[1, 2, 3, 4, 5, 6, 7, 9, 17], [1, 2, 3, 4, 5, 6, 7, 9, 17, 35], [18], [1, 2, 3, 4, 5, 6, 7, 9, 17, 55], [18], [1, 2, 3, 4, 5, 6, 7, 9, 17, 19, 20], [1, 2, 3, 4, 5, 6, 7, 9, 19, 20, 21, 22], [1, 2, 3, 4, 5, 6, 7, 9, 75], [18], [1, 2, 3, 4, 5, 6, 7, 9, 23], [1, 2, 3, 4, 5, 6, 7, 9, 23, 77], [1, 2, 3, 4, 5, 6, 7, 9, 23], [1, 2, 3, 4, 5, 6, 7, 9, 23, 24], [1, 2, 3, 4, 5, 6, 7, 9, 23, 24, 25], [1, 2, 3, 4, 5, 6, 7, 9, 23, 24, 25, 26], [1, 2, 3, 4, 5, 6, 7, 9, 23, 24, 25, 26, 100], [1, 2, 3, 4, 5, 6, 7, 9, 23, 24, 25, 26], [1, 2, 3, 4, 5, 6, 7, 9, 23, 24, 25, 26, 27], [1, 2, 3, 4, 5, 6, 7, 9, 23, 24, 25, 26, 27, 28, 29, 30], [1, 2, 3, 4, 5, 6, 7, 9, 23, 24, 25, 26, 28, 29, 30, 31, 32, 33], [1, 2, 3, 4, 5, 6, 7, 9, 23, 24, 25, 26, 141], [18], [18]]) [18] (nthLL [])
set_option maxRecDepth 10000
set_option maxHeartbeats 32000000
theorem c_ConverterAnswers (cl sv nm ky : UInt8) (st ln : Int) (wr : UInt8) (hw : Int) (d : List UInt8) (now sm : Int) (life ex bad : UInt8) (raw : List UInt8) (x1 x2 x3 : List UInt8) (xk xs xe : Int) (xr : List UInt8) (hst : 0 ≤ st ∧ st ≤ 65535) (hln : 0 ≤ ln ∧ ln ≤ 65535) (hhw : 0 ≤ hw ∧ hw ≤ 65535) (hsm : 0 ≤ sm ∧ sm ≤ 65535) : Fn Tryz.prog 3 [.a [.i .u8 (cl.toNat : Int), .i .u8 (sv.toNat : Int), .i .u8 (nm.toNat : Int), .i .u8 (ky.toNat : Int), .i .u16 st, .i .u16 ln, .i .u8 (wr.toNat : Int), .i .u16 hw], .o (.sl (d.map u8) d.length), .o (.i .i64 now), .o (.i .u16 sm), .o (.i .u8 (life.toNat : Int)), .o (.i .u8 (ex.toNat : Int)), .o (.i .u8 (bad.toNat : Int)), .o (.sl (raw.map u8) raw.length), .a [.s x1, .s x2, .s x3, .i .u64 xk, .i .i64 xs, .i .i64 xe, .sl (xr.map u8) xr.length]] [] (.one (.c (.o (.b true)))) [] := by
  have clg := c_long26_1 x1 x2 x3
  refine Fn_intro (G := g3) (goodA rfl) (fn := Tryz.f3) rfl rfl rfl rfl rfl ?_
  by_cases hlong : (x1.length > 100 ∨ x2.length > 100 ∨ x3.length > 100) ∨ d.length > 200 ∨ raw.length > 500 ∨ xr.length > 1100
  · (repeat' ((conv => whnf) <;> first | exact rfl | with_reducible refine boolK_dec (fun _ => ?_) (fun _ => ?_) <;> try (exfalso; omega) | refine boolK_beq (fun _ => ?_) (fun _ => ?_) <;> try (exfalso; first | omega | with_reducible contradiction) | refine boolK_bne (fun _ => ?_) (fun _ => ?_) <;> try (exfalso; first | omega | with_reducible contradiction) | (with_reducible first | refine boolK_not ?_ | refine boolK_and ?_ | refine boolK_or ?_ | refine boolK_true ?_ | refine boolK_false ?_) | refine boolK_intro (fun _ => ?_) (fun _ => ?_) <;> try (exfalso; simp_all; done) | refine jA ?_ | refine jB ?_ | refine jC ?_ | refine jD ?_ | refine jE ?_ | refine jF ?_ | refine jG ?_ | refine jH ?_ | refine jI ?_ | refine jJ ?_ | refine jK ?_ | with_reducible refine natK_lit ?_ | refine natK_of rfl ?_ | refine natK_any ?_ | refine jL ?_ | refine jM ?_ | refine jN ?_ | refine jO ?_ | refine jP ?_ | refine jQ ?_ | refine jR ?_ | refine jS ?_ | refine jT ?_ | refine jU (fun _ => ?_) | refine jV ?_ | refine jW ?_ | refine je ?_ | refine jf ?_ | refine jg ?_ | refine jh ?_ | refine ji ?_ | refine jj ?_ | refine jk ?_ | refine callK_intro (c_awake26) ?_ | refine callK_intro (clg) ?_ | refine jy ?_ | refine ju ?_ | refine jv ?_)) <;> (try (conv => whnf))
    all_goals (exfalso; omega)
  have f3 : x1.length ≤ 100 ∧ x2.length ≤ 100 ∧ x3.length ≤ 100 ∧ d.length ≤ 200 ∧ raw.length ≤ 500 ∧ xr.length ≤ 1100 := by omega
  rw [decide_eq_false (by omega)] at clg
  clear hlong
  obtain ⟨RB, re, q1, q2⟩ := req26 xk x1 x2 x3 xs xe xr (m := xr.length) rfl (by omega)
  obtain ⟨M, hM, cM⟩ := c_message cl sv nm ky wr st ln hw hst hln hhw
  have cS := c_Simple life ex bad
  have sS := simO_sm life ex bad
  have kS := simO_kv (life.toNat : Int) (ex.toNat : Int) (bad.toNat : Int)
  have hS := simO_len (life.toNat : Int) (ex.toNat : Int) (bad.toNat : Int)
  have fS := flat_len deR_len (simO (life.toNat : Int) (ex.toNat : Int) (bad.toNat : Int))
  generalize simO (life.toNat : Int) (ex.toNat : Int) (bad.toNat : Int) = O at *
  obtain ⟨O2, hO2, cD⟩ := c_Database d (m := d.length) rfl (by omega) 0 (by omega)
  obtain ⟨_, hl2, hV, _⟩ := dbC_un hO2
  have sD : ∀ s ∈ O2, deSm 90000 s := fun s h => de_grow (by decide) (deV_small (hV s h)).1
  have kD : ∀ s ∈ O2, 0 ≤ s.kv ∧ s.kv ≤ 255 := fun s h => (deV_small (hV s h)).2.1.1
  have fD := flat_len deR_len O2
  clear hO2 hV
  generalize realmN 0 = R0 at *
  obtain ⟨_, _, _, _, _, _, _, _, _, _, _, _, _, _, _, _, _, a1, a2⟩ := ans26 [65, 84, 72] O (m := 6) hS.symm (by omega) sS kS sm M (n := M.length) rfl (by omega)
  obtain ⟨_, _, _, _, _, _, _, _, _, _, _, _, _, _, _, _, _, a3, a4⟩ := ans26 [65, 84, 72] O (m := 6) hS.symm (by omega) sS kS now M (n := M.length) rfl (by omega)
  obtain ⟨_, _, _, _, _, _, _, _, _, _, _, _, _, _, _, _, _, b1, b2⟩ := ans26 [65, 84, 72] O (m := 6) hS.symm (by omega) sS kS sm raw (n := raw.length) rfl (by omega)
  obtain ⟨_, _, _, _, _, _, _, _, _, _, _, _, _, _, _, _, _, b3, b4⟩ := ans26 [65, 84, 72] O (m := 6) hS.symm (by omega) sS kS now raw (n := raw.length) rfl (by omega)
  obtain ⟨_, _, _, _, _, _, _, _, _, _, _, _, _, _, _, _, _, d1, d2⟩ := ans26 R0 O2 (m := O2.length) rfl (by omega) sD kD sm M (n := M.length) rfl (by omega)
  obtain ⟨_, _, _, _, _, _, _, _, _, _, _, _, _, _, _, _, _, d3, d4⟩ := ans26 R0 O2 (m := O2.length) rfl (by omega) sD kD now M (n := M.length) rfl (by omega)
  obtain ⟨_, _, _, _, _, _, _, _, _, _, _, _, _, _, _, _, _, e1, e2⟩ := ans26 R0 O2 (m := O2.length) rfl (by omega) sD kD sm raw (n := raw.length) rfl (by omega)
  obtain ⟨_, _, _, _, _, _, _, _, _, _, _, _, _, _, _, _, _, e3, e4⟩ := ans26 R0 O2 (m := O2.length) rfl (by omega) sD kD now raw (n := raw.length) rfl (by omega)
  clear sS kS sD kD
  (repeat' ((conv => whnf) <;> first | with_reducible refine boolK_refl ?_ | exact rfl | with_reducible refine boolK_dec (fun _ => ?_) (fun _ => ?_) <;> try (exfalso; omega) | refine boolK_beq (fun _ => ?_) (fun _ => ?_) <;> try (exfalso; first | omega | with_reducible contradiction) | refine boolK_bne (fun _ => ?_) (fun _ => ?_) <;> try (exfalso; first | omega | with_reducible contradiction) | (with_reducible first | refine boolK_not ?_ | refine boolK_and ?_ | refine boolK_or ?_ | refine boolK_true ?_ | refine boolK_false ?_) | refine boolK_intro (fun _ => ?_) (fun _ => ?_) <;> try (exfalso; simp_all; done) | refine jA ?_ | refine jB ?_ | refine jC ?_ | refine jD ?_ | refine jE ?_ | refine jF ?_ | refine jG ?_ | refine jH ?_ | refine jI ?_ | refine jJ ?_ | refine jK ?_ | with_reducible refine natK_lit ?_ | refine natK_of rfl ?_ | refine natK_any ?_ | refine jL ?_ | refine jM ?_ | refine jN ?_ | refine jO ?_ | refine jP ?_ | refine jQ ?_ | refine jR ?_ | refine jS ?_ | refine jT ?_ | refine jU (fun _ => ?_) | refine jV ?_ | refine jW ?_ | refine je ?_ | refine jf ?_ | refine jg ?_ | refine jh ?_ | refine ji ?_ | refine jj ?_ | refine jk ?_ | refine callK_intro (c_awake26) ?_ | refine callK_intro (clg) ?_ | refine callK_intro (q1) ?_ | refine callK_intro (q2) ?_ | refine jy ?_ | refine ju ?_ | refine jv ?_)) <;> (try (conv => whnf))
  refine loopK_inv (G := g3) (fun n stt => ∃ i : Nat, n + i = 4 ∧ stt = ⟨[(1, .c (.o (.sl (d.map u8) d.length))), (2, .c (.o (.i .i64 now))), (3, .c (.o (.i .u16 sm))), (4, .c (.o (.i .u8 (life.toNat : Int)))), (5, .c (.o (.i .u8 (ex.toNat : Int)))), (6, .c (.o (.i .u8 (bad.toNat : Int)))), (7, .c (.o (.sl (raw.map u8) raw.length))), (9, .c (.o (.p 9 0))), (23, .c (.o (.i .i64 (i : Int))))], [(9, .st [.i .u8 (cl.toNat : Int), .i .u8 (sv.toNat : Int), .i .u8 (nm.toNat : Int), .i .u8 (ky.toNat : Int), .i .u16 st, .i .u16 ln, .i .u8 (wr.toNat : Int), .i .u16 hw])]⟩) (n := 4) ⟨0, by omega, rfl⟩ ?_
  rintro n stt ⟨i, hi, rfl⟩
  by_cases h4 : i = 4
  · subst h4
    (repeat' ((conv => whnf) <;> first | exact rfl | with_reducible refine boolK_dec (fun _ => ?_) (fun _ => ?_) <;> try (exfalso; omega) | refine boolK_beq (fun _ => ?_) (fun _ => ?_) <;> try (exfalso; first | omega | with_reducible contradiction) | refine boolK_bne (fun _ => ?_) (fun _ => ?_) <;> try (exfalso; first | omega | with_reducible contradiction) | (with_reducible first | refine boolK_not ?_ | refine boolK_and ?_ | refine boolK_or ?_ | refine boolK_true ?_ | refine boolK_false ?_) | refine boolK_intro (fun _ => ?_) (fun _ => ?_) <;> try (exfalso; simp_all; done) | refine jA ?_ | refine jB ?_ | refine jC ?_ | refine jD ?_ | refine jE ?_ | refine jF ?_ | refine jG ?_ | refine jH ?_ | refine jI ?_ | refine jJ ?_ | refine jK ?_ | with_reducible refine natK_lit ?_ | refine natK_of rfl ?_ | refine natK_any ?_ | refine jL ?_ | refine jM ?_ | refine jN ?_ | refine jO ?_ | refine jP ?_ | refine jQ ?_ | refine jR ?_ | refine jS ?_ | refine jT ?_ | refine jU (fun _ => ?_) | refine jV ?_ | refine jW ?_ | refine je ?_ | refine jf ?_ | refine jg ?_ | refine jh ?_ | refine ji ?_ | refine jj ?_ | refine jk ?_ | refine jy ?_ | refine ju ?_ | refine jv ?_)) <;> (try (conv => whnf))
  by_cases h0 : i = 0
  · subst h0
    (repeat' ((conv => whnf) <;> first | with_reducible refine boolK_refl ?_ | refine natK_of (j := 0) (by omega) ?_ | refine natK_of (j := 1) (by omega) ?_ | exact rfl | with_reducible refine boolK_dec (fun _ => ?_) (fun _ => ?_) <;> try (exfalso; omega) | refine boolK_beq (fun _ => ?_) (fun _ => ?_) <;> try (exfalso; first | omega | with_reducible contradiction) | refine boolK_bne (fun _ => ?_) (fun _ => ?_) <;> try (exfalso; first | omega | with_reducible contradiction) | (with_reducible first | refine boolK_not ?_ | refine boolK_and ?_ | refine boolK_or ?_ | refine boolK_true ?_ | refine boolK_false ?_) | refine boolK_intro (fun _ => ?_) (fun _ => ?_) <;> try (exfalso; simp_all; done) | refine jA ?_ | refine jB ?_ | refine jC ?_ | refine jD ?_ | refine jE ?_ | refine jF ?_ | refine jG ?_ | refine jH ?_ | refine jI ?_ | refine jJ ?_ | refine jK ?_ | with_reducible refine natK_lit ?_ | refine natK_of rfl ?_ | refine natK_any ?_ | refine jL ?_ | refine jM ?_ | refine jN ?_ | refine jO ?_ | refine jP ?_ | refine jQ ?_ | refine jR ?_ | refine jS ?_ | refine jT ?_ | refine jU (fun _ => ?_) | refine jV ?_ | refine jW ?_ | refine je ?_ | refine jf ?_ | refine jg ?_ | refine jh ?_ | refine ji ?_ | refine jj ?_ | refine jk ?_ | refine callK_intro (cM) ?_ | refine callK_intro (cS) ?_ | refine callK_intro (cD) ?_ | refine callK_intro (a1) ?_ | refine callK_intro (a2) ?_ | refine callK_intro (a3) ?_ | refine callK_intro (a4) ?_ | refine callK_intro (c_same17 _ _ _ _ _ _ _ _ _ _ _ _ _ _ rfl rfl _ _) ?_ | exact ⟨n - 1, by omega, 1, by omega, rfl⟩ | refine loopK_step (G := g3) ?_ | refine jy ?_ | refine ju ?_ | refine jv ?_)) <;> (try (conv => whnf))
  by_cases h1 : i = 1
  · subst h1
    (repeat' ((conv => whnf) <;> first | with_reducible refine boolK_refl ?_ | refine natK_of (j := 0) (by omega) ?_ | refine natK_of (j := 1) (by omega) ?_ | exact rfl | with_reducible refine boolK_dec (fun _ => ?_) (fun _ => ?_) <;> try (exfalso; omega) | refine boolK_beq (fun _ => ?_) (fun _ => ?_) <;> try (exfalso; first | omega | with_reducible contradiction) | refine boolK_bne (fun _ => ?_) (fun _ => ?_) <;> try (exfalso; first | omega | with_reducible contradiction) | (with_reducible first | refine boolK_not ?_ | refine boolK_and ?_ | refine boolK_or ?_ | refine boolK_true ?_ | refine boolK_false ?_) | refine boolK_intro (fun _ => ?_) (fun _ => ?_) <;> try (exfalso; simp_all; done) | refine jA ?_ | refine jB ?_ | refine jC ?_ | refine jD ?_ | refine jE ?_ | refine jF ?_ | refine jG ?_ | refine jH ?_ | refine jI ?_ | refine jJ ?_ | refine jK ?_ | with_reducible refine natK_lit ?_ | refine natK_of rfl ?_ | refine natK_any ?_ | refine jL ?_ | refine jM ?_ | refine jN ?_ | refine jO ?_ | refine jP ?_ | refine jQ ?_ | refine jR ?_ | refine jS ?_ | refine jT ?_ | refine jU (fun _ => ?_) | refine jV ?_ | refine jW ?_ | refine je ?_ | refine jf ?_ | refine jg ?_ | refine jh ?_ | refine ji ?_ | refine jj ?_ | refine jk ?_ | refine callK_intro (cM) ?_ | refine callK_intro (cS) ?_ | refine callK_intro (cD) ?_ | refine callK_intro (b1) ?_ | refine callK_intro (b2) ?_ | refine callK_intro (b3) ?_ | refine callK_intro (b4) ?_ | refine callK_intro (c_same17 _ _ _ _ _ _ _ _ _ _ _ _ _ _ rfl rfl _ _) ?_ | exact ⟨n - 1, by omega, 2, by omega, rfl⟩ | refine loopK_step (G := g3) ?_ | refine jy ?_ | refine ju ?_ | refine jv ?_)) <;> (try (conv => whnf))
  by_cases h2 : i = 2
  · subst h2
    (repeat' ((conv => whnf) <;> first | with_reducible refine boolK_refl ?_ | refine natK_of (j := 0) (by omega) ?_ | refine natK_of (j := 1) (by omega) ?_ | exact rfl | with_reducible refine boolK_dec (fun _ => ?_) (fun _ => ?_) <;> try (exfalso; omega) | refine boolK_beq (fun _ => ?_) (fun _ => ?_) <;> try (exfalso; first | omega | with_reducible contradiction) | refine boolK_bne (fun _ => ?_) (fun _ => ?_) <;> try (exfalso; first | omega | with_reducible contradiction) | (with_reducible first | refine boolK_not ?_ | refine boolK_and ?_ | refine boolK_or ?_ | refine boolK_true ?_ | refine boolK_false ?_) | refine boolK_intro (fun _ => ?_) (fun _ => ?_) <;> try (exfalso; simp_all; done) | refine jA ?_ | refine jB ?_ | refine jC ?_ | refine jD ?_ | refine jE ?_ | refine jF ?_ | refine jG ?_ | refine jH ?_ | refine jI ?_ | refine jJ ?_ | refine jK ?_ | with_reducible refine natK_lit ?_ | refine natK_of rfl ?_ | refine natK_any ?_ | refine jL ?_ | refine jM ?_ | refine jN ?_ | refine jO ?_ | refine jP ?_ | refine jQ ?_ | refine jR ?_ | refine jS ?_ | refine jT ?_ | refine jU (fun _ => ?_) | refine jV ?_ | refine jW ?_ | refine je ?_ | refine jf ?_ | refine jg ?_ | refine jh ?_ | refine ji ?_ | refine jj ?_ | refine jk ?_ | refine callK_intro (cM) ?_ | refine callK_intro (cS) ?_ | refine callK_intro (cD) ?_ | refine callK_intro (d1) ?_ | refine callK_intro (d2) ?_ | refine callK_intro (d3) ?_ | refine callK_intro (d4) ?_ | refine callK_intro (c_same17 _ _ _ _ _ _ _ _ _ _ _ _ _ _ rfl rfl _ _) ?_ | exact ⟨n - 1, by omega, 3, by omega, rfl⟩ | refine loopK_step (G := g3) ?_ | refine jy ?_ | refine ju ?_ | refine jv ?_)) <;> (try (conv => whnf))
  by_cases h3 : i = 3
  · subst h3
    (repeat' ((conv => whnf) <;> first | with_reducible refine boolK_refl ?_ | refine natK_of (j := 0) (by omega) ?_ | refine natK_of (j := 1) (by omega) ?_ | exact rfl | with_reducible refine boolK_dec (fun _ => ?_) (fun _ => ?_) <;> try (exfalso; omega) | refine boolK_beq (fun _ => ?_) (fun _ => ?_) <;> try (exfalso; first | omega | with_reducible contradiction) | refine boolK_bne (fun _ => ?_) (fun _ => ?_) <;> try (exfalso; first | omega | with_reducible contradiction) | (with_reducible first | refine boolK_not ?_ | refine boolK_and ?_ | refine boolK_or ?_ | refine boolK_true ?_ | refine boolK_false ?_) | refine boolK_intro (fun _ => ?_) (fun _ => ?_) <;> try (exfalso; simp_all; done) | refine jA ?_ | refine jB ?_ | refine jC ?_ | refine jD ?_ | refine jE ?_ | refine jF ?_ | refine jG ?_ | refine jH ?_ | refine jI ?_ | refine jJ ?_ | refine jK ?_ | with_reducible refine natK_lit ?_ | refine natK_of rfl ?_ | refine natK_any ?_ | refine jL ?_ | refine jM ?_ | refine jN ?_ | refine jO ?_ | refine jP ?_ | refine jQ ?_ | refine jR ?_ | refine jS ?_ | refine jT ?_ | refine jU (fun _ => ?_) | refine jV ?_ | refine jW ?_ | refine je ?_ | refine jf ?_ | refine jg ?_ | refine jh ?_ | refine ji ?_ | refine jj ?_ | refine jk ?_ | refine callK_intro (cM) ?_ | refine callK_intro (cS) ?_ | refine callK_intro (cD) ?_ | refine callK_intro (e1) ?_ | refine callK_intro (e2) ?_ | refine callK_intro (e3) ?_ | refine callK_intro (e4) ?_ | refine callK_intro (c_same17 _ _ _ _ _ _ _ _ _ _ _ _ _ _ rfl rfl _ _) ?_ | exact ⟨n - 1, by omega, 4, by omega, rfl⟩ | refine loopK_step (G := g3) ?_ | refine jy ?_ | refine ju ?_ | refine jv ?_)) <;> (try (conv => whnf))
  exfalso; omega
end Go.Sx
namespace Go.Proofs.YtmacgikbcednmacGreat
open Go.ChangeShapes Go.WideShapes Go.ChangeAt Go.RowKit Go.Sx
namespace ConverterAnswersProof
set_option maxRecDepth 100000 in
theorem walk (W : World) (v0 v1 v2 v3 v4 v5 v6 v7 v8 : Value) (ls0 ls1 ls2 ls3 ls4 ls5 ls6 ls7 ls8 : List L)
    (t0 : Typ (tabF tab) 24 ls0) (t1 : Typ (tabF tab) 25 ls1) (t2 : Typ (tabF tab) 3 ls2) (t3 : Typ (tabF tab) 22 ls3) (t4 : Typ (tabF tab) 5 ls4) (t5 : Typ (tabF tab) 5 ls5) (t6 : Typ (tabF tab) 5 ls6) (t7 : Typ (tabF tab) 25 ls7) (t8 : Typ (tabF tab) 31 ls8)
    (r0 : RelC (fun _ => False) W noMu (argC (tabF tab 24).agg ls0) v0) (r1 : RelC (fun _ => False) W noMu (argC (tabF tab 25).agg ls1) v1) (r2 : RelC (fun _ => False) W noMu (argC (tabF tab 3).agg ls2) v2) (r3 : RelC (fun _ => False) W noMu (argC (tabF tab 22).agg ls3) v3) (r4 : RelC (fun _ => False) W noMu (argC (tabF tab 5).agg ls4) v4) (r5 : RelC (fun _ => False) W noMu (argC (tabF tab 5).agg ls5) v5) (r6 : RelC (fun _ => False) W noMu (argC (tabF tab 5).agg ls6) v6) (r7 : RelC (fun _ => False) W noMu (argC (tabF tab 25).agg ls7) v7) (r8 : RelC (fun _ => False) W noMu (argC (tabF tab 31).agg ls8) v8) :
    Calls Tryz.prog 3 #[v0, v1, v2, v3, v4, v5, v6, v7, v8] W fun e w' => e = .returned (.bool true) ∧ Below W.heap.size W w' := by
  obtain ⟨partsa0, rfl, hla0, hpa0⟩ := typ_struct t0 rfl
  obtain ⟨qa0_0, qa0_1, qa0_2, qa0_3, qa0_4, qa0_5, qa0_6, qa0_7, rfl⟩ : ∃ qa0_0 qa0_1 qa0_2 qa0_3 qa0_4 qa0_5 qa0_6 qa0_7, partsa0 = [qa0_0, qa0_1, qa0_2, qa0_3, qa0_4, qa0_5, qa0_6, qa0_7] := by
    match partsa0, hla0 with
    | [qa0_0, qa0_1, qa0_2, qa0_3, qa0_4, qa0_5, qa0_6, qa0_7], _ => exact ⟨qa0_0, qa0_1, qa0_2, qa0_3, qa0_4, qa0_5, qa0_6, qa0_7, rfl⟩
  have ta0_0 := hpa0 0 _ qa0_0 rfl rfl
  obtain ⟨a0_0, rfl⟩ := typ_u8 ta0_0 rfl
  have ta0_1 := hpa0 1 _ qa0_1 rfl rfl
  obtain ⟨a0_1, rfl⟩ := typ_u8 ta0_1 rfl
  have ta0_2 := hpa0 2 _ qa0_2 rfl rfl
  obtain ⟨a0_2, rfl⟩ := typ_u8 ta0_2 rfl
  have ta0_3 := hpa0 3 _ qa0_3 rfl rfl
  obtain ⟨a0_3, rfl⟩ := typ_u8 ta0_3 rfl
  have ta0_4 := hpa0 4 _ qa0_4 rfl rfl
  obtain ⟨a0_4, rfl, wa0_4⟩ := typ_int ta0_4 rfl
  have ta0_5 := hpa0 5 _ qa0_5 rfl rfl
  obtain ⟨a0_5, rfl, wa0_5⟩ := typ_int ta0_5 rfl
  have ta0_6 := hpa0 6 _ qa0_6 rfl rfl
  obtain ⟨a0_6, rfl⟩ := typ_u8 ta0_6 rfl
  have ta0_7 := hpa0 7 _ qa0_7 rfl rfl
  obtain ⟨a0_7, rfl, wa0_7⟩ := typ_int ta0_7 rfl
  obtain ⟨a1, rfl, wa1⟩ := typ_bytesB t1 rfl rfl
  obtain ⟨a2, rfl, wa2⟩ := typ_int t2 rfl
  obtain ⟨a3, rfl, wa3⟩ := typ_int t3 rfl
  obtain ⟨a4, rfl⟩ := typ_u8 t4 rfl
  obtain ⟨a5, rfl⟩ := typ_u8 t5 rfl
  obtain ⟨a6, rfl⟩ := typ_u8 t6 rfl
  obtain ⟨a7, rfl, wa7⟩ := typ_bytesB t7 rfl rfl
  obtain ⟨partsa8, rfl, hla8, hpa8⟩ := typ_struct t8 rfl
  obtain ⟨qa8_0, qa8_1, qa8_2, qa8_3, qa8_4, rfl⟩ : ∃ qa8_0 qa8_1 qa8_2 qa8_3 qa8_4, partsa8 = [qa8_0, qa8_1, qa8_2, qa8_3, qa8_4] := by
    match partsa8, hla8 with
    | [qa8_0, qa8_1, qa8_2, qa8_3, qa8_4], _ => exact ⟨qa8_0, qa8_1, qa8_2, qa8_3, qa8_4, rfl⟩
  have ta8_0 := hpa8 0 _ qa8_0 rfl rfl
  obtain ⟨partsa8_0, rfl, hla8_0, hpa8_0⟩ := typ_struct ta8_0 rfl
  obtain ⟨qa8_0_0, qa8_0_1, qa8_0_2, rfl⟩ : ∃ qa8_0_0 qa8_0_1 qa8_0_2, partsa8_0 = [qa8_0_0, qa8_0_1, qa8_0_2] := by
    match partsa8_0, hla8_0 with
    | [qa8_0_0, qa8_0_1, qa8_0_2], _ => exact ⟨qa8_0_0, qa8_0_1, qa8_0_2, rfl⟩
  have ta8_0_0 := hpa8_0 0 _ qa8_0_0 rfl rfl
  obtain ⟨a8_0_0, rfl, wa8_0_0⟩ := typ_strB ta8_0_0 rfl
  have ta8_0_1 := hpa8_0 1 _ qa8_0_1 rfl rfl
  obtain ⟨a8_0_1, rfl, wa8_0_1⟩ := typ_strB ta8_0_1 rfl
  have ta8_0_2 := hpa8_0 2 _ qa8_0_2 rfl rfl
  obtain ⟨a8_0_2, rfl, wa8_0_2⟩ := typ_strB ta8_0_2 rfl
  have ta8_1 := hpa8 1 _ qa8_1 rfl rfl
  obtain ⟨a8_1, rfl, wa8_1⟩ := typ_int ta8_1 rfl
  have ta8_2 := hpa8 2 _ qa8_2 rfl rfl
  obtain ⟨a8_2, rfl, wa8_2⟩ := typ_int ta8_2 rfl
  have ta8_3 := hpa8 3 _ qa8_3 rfl rfl
  obtain ⟨a8_3, rfl, wa8_3⟩ := typ_int ta8_3 rfl
  have ta8_4 := hpa8 4 _ qa8_4 rfl rfl
  obtain ⟨a8_4, rfl, wa8_4⟩ := typ_bytesB ta8_4 rfl rfl
  exact calls_of_fn Tryz.func3 rfl rfl (c_ConverterAnswers a0_0 a0_1 a0_2 a0_3 a0_4 a0_5 a0_6 a0_7 a1 a2 a3 a4 a5 a6 a7 a8_0_0 a8_0_1 a8_0_2 a8_1 a8_2 a8_3 a8_4 (wf_u16 wa0_4) (wf_u16 wa0_5) (wf_u16 wa0_7) (wf_u16 wa3)) (relCs_cons r0 (relCs_cons r1 (relCs_cons r2 (relCs_cons r3 (relCs_cons r4 (relCs_cons r5 (relCs_cons r6 (relCs_cons r7 (relCs_cons r8 relCs_nil)))))))))

set_option maxRecDepth 100000 in
theorem lifted (os : Os) (started : os.Started) (H : Type) (enc : TypeId × Value → H) :
    ReturnsInHanded {} Tryz.checked os 3 .any (Rows.converterAnswersSpec.pre6 enc Tryz.prog Tryz.f3 Rows.converterAnswersRow.domain false) (Rows.converterAnswersSpec.post enc Tryz.prog Tryz.f3 false true false false) := by
  refine returnsInHanded_of_change (C := Tryz.checked) ownA started (by kernel_rfl) Tryz.func3
    (ChangeSpec.witness6 (enc := enc) (C := Tryz.checked) false ⟨#[], #[.agg #[.int .u8 0, .int .u8 0, .int .u8 0, .int .u8 0, .int .u16 0, .int .u16 0, .int .u8 0, .int .u16 0], .slice none 0 0, .int .i64 0, .int .u16 0, .int .u8 0, .int .u8 0, .int .u8 0, .slice none 0 0, .agg #[.string ByteArray.empty, .string ByteArray.empty, .string ByteArray.empty, .int .u64 0, .int .i64 0, .int .i64 0, .slice none 0 0]], []⟩ 8 (by kernel_rfl) (by kernel_rfl) (by kernel_rfl) (by kernel_rfl)) ?_
  intro W base args ds gs before hval0 hW hcnd _
  have hval : ∀ (j : Nat) t v, Tryz.f3.params[j]? = some t → args[j]? = some v → Value.okWide Tryz.prog W .any base t v := hval0
  have hW' := hW
  obtain ⟨p, q, hA0, hV, rfl, hfz, hnd⟩ := hW
  have hA : DataW.TrodAll enc Tryz.prog W 0 (fun _ => true) true Tryz.f3.params.toList args.toList ds p := hA0
  rw [Tryz.params3] at hA hval
  obtain ⟨v0, vs0, d0, ds0, p0, q0, hargs, rfl, rfl, h0, r0⟩ := trodAll_cons hA
  obtain ⟨v1, vs1, d1, ds1, p1, q1, rfl, rfl, rfl, h1, r1⟩ := trodAll_cons r0
  obtain ⟨v2, vs2, d2, ds2, p2, q2, rfl, rfl, rfl, h2, r2⟩ := trodAll_cons r1
  obtain ⟨v3, vs3, d3, ds3, p3, q3, rfl, rfl, rfl, h3, r3⟩ := trodAll_cons r2
  obtain ⟨v4, vs4, d4, ds4, p4, q4, rfl, rfl, rfl, h4, r4⟩ := trodAll_cons r3
  obtain ⟨v5, vs5, d5, ds5, p5, q5, rfl, rfl, rfl, h5, r5⟩ := trodAll_cons r4
  obtain ⟨v6, vs6, d6, ds6, p6, q6, rfl, rfl, rfl, h6, r6⟩ := trodAll_cons r5
  obtain ⟨v7, vs7, d7, ds7, p7, q7, rfl, rfl, rfl, h7, r7⟩ := trodAll_cons r6
  obtain ⟨v8, vs8, d8, ds8, p8, q8, rfl, rfl, rfl, h8, r8⟩ := trodAll_cons r7
  obtain ⟨rfl, rfl, rfl⟩ := trodAll_nil r8
  obtain rfl : args = #[v0, v1, v2, v3, v4, v5, v6, v7, v8] := by cases args; simp_all
  obtain ⟨rfl, rfl⟩ := trodVars_none hV
  obtain ⟨ls0, t0, c0⟩ := rel_arg tokA (n := 9) rfl h0 (hval 0 24 v0 rfl rfl)
  obtain ⟨ls1, t1, c1⟩ := rel_arg tokA (n := 9) rfl h1 (hval 1 25 v1 rfl rfl)
  obtain ⟨ls2, t2, c2⟩ := rel_arg tokA (n := 9) rfl h2 (hval 2 3 v2 rfl rfl)
  obtain ⟨ls3, t3, c3⟩ := rel_arg tokA (n := 9) rfl h3 (hval 3 22 v3 rfl rfl)
  obtain ⟨ls4, t4, c4⟩ := rel_arg tokA (n := 9) rfl h4 (hval 4 5 v4 rfl rfl)
  obtain ⟨ls5, t5, c5⟩ := rel_arg tokA (n := 9) rfl h5 (hval 5 5 v5 rfl rfl)
  obtain ⟨ls6, t6, c6⟩ := rel_arg tokA (n := 9) rfl h6 (hval 6 5 v6 rfl rfl)
  obtain ⟨ls7, t7, c7⟩ := rel_arg tokA (n := 9) rfl h7 (hval 7 25 v7 rfl rfl)
  obtain ⟨ls8, t8, c8⟩ := rel_arg tokA (n := 9) rfl h8 (hval 8 31 v8 rfl rfl)
  have lt0 : ∀ x ∈ p0, x.block < W.heap.size := by obtain ⟨m, hm⟩ := h0; exact DataW.trod_lt m _ _ _ hm
  have lt1 : ∀ x ∈ p1, x.block < W.heap.size := by obtain ⟨m, hm⟩ := h1; exact DataW.trod_lt m _ _ _ hm
  have lt2 : ∀ x ∈ p2, x.block < W.heap.size := by obtain ⟨m, hm⟩ := h2; exact DataW.trod_lt m _ _ _ hm
  have lt3 : ∀ x ∈ p3, x.block < W.heap.size := by obtain ⟨m, hm⟩ := h3; exact DataW.trod_lt m _ _ _ hm
  have lt4 : ∀ x ∈ p4, x.block < W.heap.size := by obtain ⟨m, hm⟩ := h4; exact DataW.trod_lt m _ _ _ hm
  have lt5 : ∀ x ∈ p5, x.block < W.heap.size := by obtain ⟨m, hm⟩ := h5; exact DataW.trod_lt m _ _ _ hm
  have lt6 : ∀ x ∈ p6, x.block < W.heap.size := by obtain ⟨m, hm⟩ := h6; exact DataW.trod_lt m _ _ _ hm
  have lt7 : ∀ x ∈ p7, x.block < W.heap.size := by obtain ⟨m, hm⟩ := h7; exact DataW.trod_lt m _ _ _ hm
  have lt8 : ∀ x ∈ p8, x.block < W.heap.size := by obtain ⟨m, hm⟩ := h8; exact DataW.trod_lt m _ _ _ hm
  clear hA0 hval0
  refine (walk W v0 v1 v2 v3 v4 v5 v6 v7 v8 ls0 ls1 ls2 ls3 ls4 ls5 ls6 ls7 ls8 t0 t1 t2 t3 t4 t5 t6 t7 t8 c0 c1 c2 c3 c4 c5 c6 c7 c8).mono fun e W' ⟨he, bel⟩ => ?_
  subst he
  exact ⟨_, rfl, _, _, _, [], _, [], hW', trodAll_mk1 (shut_bool Tryz.underlying4 _), (trodAll_cons_mk (Below.trod laidOutA (by kernel_rfl) (of_decide_eq_true (by kernel_rfl)) h0 bel lt0) (trodAll_cons_mk (Below.trod laidOutA (by kernel_rfl) (of_decide_eq_true (by kernel_rfl)) h1 bel lt1) (trodAll_cons_mk (Below.trod laidOutA (by kernel_rfl) (of_decide_eq_true (by kernel_rfl)) h2 bel lt2) (trodAll_cons_mk (Below.trod laidOutA (by kernel_rfl) (of_decide_eq_true (by kernel_rfl)) h3 bel lt3) (trodAll_cons_mk (Below.trod laidOutA (by kernel_rfl) (of_decide_eq_true (by kernel_rfl)) h4 bel lt4) (trodAll_cons_mk (Below.trod laidOutA (by kernel_rfl) (of_decide_eq_true (by kernel_rfl)) h5 bel lt5) (trodAll_cons_mk (Below.trod laidOutA (by kernel_rfl) (of_decide_eq_true (by kernel_rfl)) h6 bel lt6) (trodAll_cons_mk (Below.trod laidOutA (by kernel_rfl) (of_decide_eq_true (by kernel_rfl)) h7 bel lt7) (trodAll_cons_mk (Below.trod laidOutA (by kernel_rfl) (of_decide_eq_true (by kernel_rfl)) h8 bel lt8) trodAll_mk0))))))))), rfl, bel.frame _, fun h => by cases h⟩

theorem over : Rows.converterAnswersRow.holds Tryz.pinned (OpenSpec.ofChange Rows.converterAnswersSpec) :=
  OpenClaim.holds_of_wide 3 Tryz.f3 rfl rfl rfl rfl rfl rfl rfl ⟨rfl, rfl, rfl, rfl, rfl⟩ rfl rfl rfl rfl rfl (by kernel_rfl) Tryz.func3 (by kernel_rfl)
    (of_decide_eq_true (by kernel_rfl)) (by unfold Func.isWrapper; first | (rw [if_pos (by decide +kernel)]; kernel_rfl) | (rw [if_neg (by decide +kernel)]; exact ⟨rfl, rfl⟩))
    (fun os started H enc _ => lifted os started H enc)
end ConverterAnswersProof

theorem converterAnswers_proved : Rows.ConverterAnswersSaid := ConverterAnswersProof.over
#print axioms converterAnswers_proved
end Go.Proofs.YtmacgikbcednmacGreat

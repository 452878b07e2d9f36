/-
  The statement ConverterAccepts: the law returns true for every input; no conditions.
-/
import Derived.Test.YtmacgikbcednmaaGreatCConvQ
import Derived.Test.YtmacgikbcednmaaGreatLOwn
set_option linter.all false
namespace Go.Sx
open Go.Proofs Go.RowKit
theorem gen4 {A B C D : Type} {R : D → Prop} {T : A → B → C → D → Prop} {G : Prop} (h : (∀ a b c d, R d → T a b c d) → G) (h2 : ∀ a b c d, R d → T a b c d) : G := h h2
noncomputable def g3 : Par := par 179 (nthLL [[1, 2, 5, 6, 7, 8, 9, 10, 13, 14], [1, 2, 5, 6, 7, 8, 9, 10, 13, 14, 38], [20], [1, 2, 5, 6, 7, 8, 9, 10, 13, 14, 67], [20], [1, 2, 5, 6, 7, 8, 9, 10, 13, 14, 21], [5, 6, 7, 8, 9, 10, 13, 14, 21], [5, 6, 7, 8, 9, 10, 13, 14, 21], [5, 6, 7, 9, 10, 13, 14, 21, 23], [5, 6, 7, 9, 10, 14, 21, 23, 26], [5, 6, 7, 9, 10, 14, 21, 23, 26, 103], [6, 7, 9, 10, 14, 21, 23, 26], [6, 7, 9, 10, 14, 21, 23, 26, 110], [7, 9, 10, 14, 21, 23, 26], [7, 9, 10, 14, 21, 23, 26, 27], [7, 9, 10, 14, 21, 23, 26, 27, 116], [7, 9, 10, 14, 21, 23, 26, 27], [7, 9, 10, 14, 21, 23, 26, 27, 28, 29], [7, 9, 10, 14, 21, 23, 26, 27, 28, 29, 30], [7, 9, 10, 14, 21, 23, 26, 27, 28, 29, 30, 143], [7, 9, 10, 14, 21, 23, 26, 27, 28, 29, 30], [7, 9, 10, 14, 21, 23, 26, 27, 28, 29, 30, 31, 32, 33], [7, 9, 10, 14, 21, 23, 26, 27, 31, 32, 33, 34, 35, 36], [7, 9, 10, 14, 21, 23, 26, 27, 178], [20], [20]]) [20] (nthLL [[], [], [], [], [], [], [], [], [0, 0, 2, 0, 9, 31, 63, 127, 127, 127, 0, 1279, 3583, 8191], [0, 1, 3, 7, 15, 0, 32, 96, 255, 511, 0, 2047], [], [], [], [], [], [], [], [0, 0, 3, 0, 8, 31, 63, 0, 0, 384, 0, 1024, 3072, 8064, 16256, 0, 0, 98431, 262143]])
set_option maxRecDepth 10000
set_option maxHeartbeats 32000000
theorem c_ConverterAccepts (qm1 qm2 qm3 : List UInt8) (qad qsk : Int) (qli : Bool) (qo1 qo2 qo3 : List UInt8) (rows : List (List L)) (hrows : ∀ r ∈ rows, Typ (tabF tab) 59 r) (qwt : Int) (qw1 qw2 qw3 : List UInt8) (qse qtm qlf qck qtk : Int) (hq1 : qm1.length ≤ 9223372036854775807 ∧ qm2.length ≤ 9223372036854775807 ∧ qm3.length ≤ 9223372036854775807) (hq2 : qo1.length ≤ 9223372036854775807 ∧ qo2.length ≤ 9223372036854775807 ∧ qo3.length ≤ 9223372036854775807)
    (who : UInt8) (cb : List UInt8) (cl sv nm ky : UInt8) (st ln : Int) (wr : UInt8) (hw : Int) (x1 x2 x3 : List UInt8) (xk xs xe : Int) (xr : List UInt8) (key svc : UInt8) (msg : List UInt8) (sm how : Int) (hst : 0 ≤ st ∧ st ≤ 65535) (hln : 0 ≤ ln ∧ ln ≤ 65535) (hhw : 0 ≤ hw ∧ hw ≤ 65535) (hsm : 0 ≤ sm ∧ sm ≤ 65535) (hho : 0 ≤ how ∧ how ≤ 65535) : Fn Tryz.prog 3 [.a [.s qm1, .s qm2, .s qm3, .i .i64 qad, .i .i64 qsk, .b qli, .s qo1, .s qo2, .s qo3, .sl rows.flatten rows.length, .i .i64 qwt, .s qw1, .s qw2, .s qw3, .i .u64 qse, .i .i64 qtm, .i .i64 qlf, .i .i64 qck, .i .i64 qtk], .o (.i .u8 (who.toNat : Int)), .o (.sl (cb.map u8) cb.length), .a [.i .u8 (cl.toNat : Int), .i .u8 (sv.toNat : Int), .i .u8 (nm.toNat : Int), .i .u8 (ky.toNat : Int), .i .u16 st, .i .u16 ln, .i .u8 (wr.toNat : Int), .i .u16 hw], .a [.s x1, .s x2, .s x3, .i .u64 xk, .i .i64 xs, .i .i64 xe, .sl (xr.map u8) xr.length], .o (.i .u8 (key.toNat : Int)), .o (.i .u8 (svc.toNat : Int)), .o (.sl (msg.map u8) msg.length), .o (.i .u16 sm), .o (.i .u16 how)] [] (.one (.c (.o (.b true)))) [] := by
  obtain ⟨ql, rfl, hql⟩ := cr_rowsB hrows
  rw [show (ql.map crR).flatten = flat crR ql from rfl, List.length_map]
  have b1 := byte_lt who
  have b2 := byte_lt sv
  have b4 := byte_lt ky
  have b5 := byte_lt key
  have b6 := byte_lt svc
  have clg := c_long26 qm1 qm2 qm3 x1 x2 x3
  refine Fn_intro (G := g3) (goodA rfl) (fn := Tryz.f3) rfl rfl rfl rfl rfl ?_
  by_cases hlong : ql.length > 20 ∨ (qm1.length > 100 ∨ qm2.length > 100 ∨ qm3.length > 100 ∨ x1.length > 100 ∨ x2.length > 100 ∨ x3.length > 100) ∨ cb.length > 300 ∨ xr.length > 400 ∨ msg.length > 500
  · (repeat' ((conv => whnf) <;> first | exact rfl | with_reducible refine boolK_dec (fun _ => ?_) (fun _ => ?_) <;> try (exfalso; omega) | refine boolK_beq (fun _ => ?_) (fun _ => ?_) <;> try (exfalso; first | omega | with_reducible contradiction) | refine boolK_bne (fun _ => ?_) (fun _ => ?_) <;> try (exfalso; first | omega | with_reducible contradiction) | (with_reducible first | refine boolK_not ?_ | refine boolK_and ?_ | refine boolK_or ?_ | refine boolK_true ?_ | refine boolK_false ?_) | refine boolK_intro (fun _ => ?_) (fun _ => ?_) <;> try (exfalso; simp_all; done) | refine jA ?_ | refine jB ?_ | refine jC ?_ | refine jD ?_ | refine jE ?_ | refine jF ?_ | refine jG ?_ | refine jH ?_ | refine jI ?_ | refine jJ ?_ | refine jK ?_ | with_reducible refine natK_lit ?_ | refine natK_of rfl ?_ | refine natK_any ?_ | refine jL ?_ | refine jM ?_ | refine jN ?_ | refine jO ?_ | refine jP ?_ | refine jQ ?_ | refine jR ?_ | refine jS ?_ | refine jT ?_ | refine jU (fun _ => ?_) | refine jV ?_ | refine jW ?_ | refine je ?_ | refine jf ?_ | refine jg ?_ | refine jh ?_ | refine ji ?_ | refine jj ?_ | refine jk ?_ | refine callK_intro (c_awake26) ?_ | refine callK_intro (clg) ?_ | refine jy ?_ | refine ju ?_ | refine jv ?_)) <;> (try (conv => whnf))
    all_goals (exfalso; omega)
  have f3 : ql.length ≤ 20 ∧ x1.length ≤ 100 ∧ x2.length ≤ 100 ∧ x3.length ≤ 100 ∧ cb.length ≤ 300 ∧ xr.length ≤ 400 ∧ msg.length ≤ 500 := by omega
  rw [decide_eq_false (by omega)] at clg
  clear hlong
  have sQ : clSm ⟨qm1, qm2, qm3, qad, qsk, qli, qo1, qo2, qo3, ql, qwt, qw1, qw2, qw3, qse, qtm, qlf, qck, qtk⟩ := ⟨hq1, hq2, by show ql.length ≤ 999999; omega, hql⟩
  have cU := c_User (who.toNat : Int) (by omega)
  have cN := c_rclNew (userN (who.toNat : Int)) [] (realmN ((who.toNat : Int) / 3)) 3 300 false ⟨by rw [show (userN (who.toNat : Int)).length = 3 from by unfold userN; split <;> (try split) <;> rfl]; decide, by decide, by rw [show (realmN ((who.toNat : Int) / 3)).length = 3 from by unfold realmN; split <;> (try split) <;> rfl]; decide⟩
  rw [newS_2 (user_v _ _) (by omega)] at cN
  dsimp only [clR] at cN
  have cC := c_Cache cb (m := cb.length) rfl (by omega) (who.toNat : Int) (by omega)
  have gC := cachS_good cb
  have sC : clSm ⟨userN (who.toNat : Int), [], realmN ((who.toNat : Int) / 3), 3, 300, false, userN (who.toNat : Int), [], realmN ((who.toNat : Int) / 3), cachS cb, 0, [], [], [], 0, 0, 0, 0, 0⟩ := by
    have u3 : (userN (who.toNat : Int)).length = 3 := by unfold userN; split <;> (try split) <;> rfl
    have r3 : (realmN ((who.toNat : Int) / 3)).length = 3 := by unfold realmN; split <;> (try split) <;> rfl
    refine ⟨⟨?_, ?_, ?_⟩, ⟨?_, ?_, ?_⟩, ?_, ?_⟩
    · show (userN (who.toNat : Int)).length ≤ _; rw [u3]; decide
    · exact Nat.zero_le _
    · show (realmN ((who.toNat : Int) / 3)).length ≤ _; rw [r3]; decide
    · show (userN (who.toNat : Int)).length ≤ _; rw [u3]; decide
    · exact Nat.zero_le _
    · show (realmN ((who.toNat : Int) / 3)).length ≤ _; rw [r3]; decide
    · show (cachS cb).length ≤ 999999; have := crGood_len gC; omega
    · intro s hs; exact crSm_up (crV_mem gC s hs)
  obtain ⟨M, hM, cM⟩ := c_message_0 cl sv nm ky 0 st ln hw hst hln hhw rfl
  have cS := c_Simple 100 0 255
  have sS := simO_sm 100 0 255
  have kS := simO_kv ((100 : UInt8).toNat : Int) ((0 : UInt8).toNat : Int) ((255 : UInt8).toNat : Int)
  have hS := simO_len ((100 : UInt8).toNat : Int) ((0 : UInt8).toNat : Int) ((255 : UInt8).toNat : Int)
  have fS := flat_len deR_len (simO ((100 : UInt8).toNat : Int) ((0 : UInt8).toNat : Int) ((255 : UInt8).toNat : Int))
  rw [show (((100 : UInt8).toNat : Nat) : Int) = 100 from rfl, show (((0 : UInt8).toNat : Nat) : Int) = 0 from rfl, show (((255 : UInt8).toNat : Nat) : Int) = 255 from rfl] at cS sS kS hS fS
  rw [show (((0 : UInt8).toNat : Nat) : Int) = 0 from rfl] at cM
  generalize simO 100 0 255 = O at *
  obtain ⟨B, S', v1, v2, v3, c1, c2, c3, s1, s2, s3, kd, k, is, en, ok, hB, a2⟩ := rans26 [65, 84, 72] O (m := 6) hS.symm (by omega) sS kS sm M (n := M.length) rfl (by omega)
  generalize userN (who.toNat : Int) = Uw at *
  generalize realmN ((who.toNat : Int) / 3) = Rw at *
  have lC := crGood_len gC
  generalize cachS cb = CB at *
  clear sS kS gC hrows
  apply gen4 (A := List UInt8) (B := List UInt8) (C := List UInt8) (D := Int) (R := fun d => 0 ≤ d ∧ d ≤ 18446744073709551615)
  · intro hL
    have uS := c_Service ((sv.toNat : Int) % 3) (by omega)
    have uK := c_Session (ky.toNat : Int) (by omega)
    have vS := c_Service (svc.toNat : Int) (by omega)
    have vK := c_Session (key.toNat : Int) (by omega)
    have rK : 0 ≤ sessN (ky.toNat : Int) ∧ sessN (ky.toNat : Int) ≤ 18446744073709551615 := by unfold sessN; omega
    have rK2 : 0 ≤ sessN (key.toNat : Int) ∧ sessN (key.toNat : Int) ≤ 18446744073709551615 := by unfold sessN; omega
    generalize serviceN ((sv.toNat : Int) % 3) = S1 at uS
    generalize serviceI ((sv.toNat : Int) % 3) = S2 at uS
    generalize realmN ((sv.toNat : Int) % 3 / 3) = S3 at uS
    generalize serviceN (svc.toNat : Int) = V1 at vS
    generalize serviceI (svc.toNat : Int) = V2 at vS
    generalize realmN ((svc.toNat : Int) / 3) = V3 at vS
    generalize sessN (ky.toNat : Int) = K1 at uK rK
    generalize sessN (key.toNat : Int) = K2 at vK rK2
    (repeat' ((conv => whnf) <;> first | exact rfl | with_reducible refine boolK_dec (fun _ => ?_) (fun _ => ?_) <;> try (exfalso; omega) | refine boolK_beq (fun _ => ?_) (fun _ => ?_) <;> try (exfalso; first | omega | with_reducible contradiction) | refine boolK_bne (fun _ => ?_) (fun _ => ?_) <;> try (exfalso; first | omega | with_reducible contradiction) | (with_reducible first | refine boolK_not ?_ | refine boolK_and ?_ | refine boolK_or ?_ | refine boolK_true ?_ | refine boolK_false ?_) | refine boolK_intro (fun _ => ?_) (fun _ => ?_) <;> try (exfalso; simp_all; done) | refine jA ?_ | refine jB ?_ | refine jC ?_ | refine jD ?_ | refine jE ?_ | refine jF ?_ | refine jG ?_ | refine jH ?_ | refine jI ?_ | refine jJ ?_ | refine jK ?_ | with_reducible refine natK_lit ?_ | refine natK_of rfl ?_ | refine natK_any ?_ | refine jL ?_ | refine jM ?_ | refine jN ?_ | refine jO ?_ | refine jP ?_ | refine jQ ?_ | refine jR ?_ | refine jS ?_ | refine jT ?_ | refine jU (fun _ => ?_) | refine jV ?_ | refine jW ?_ | refine je ?_ | refine jf ?_ | refine jg ?_ | refine jh ?_ | refine ji ?_ | refine jj ?_ | refine jk ?_ | refine callK_intro (c_awake26) ?_ | refine callK_intro (clg) ?_ | refine callK_intro (cU) ?_ | refine callK_intro (cN) ?_ | refine callK_intro (cC) ?_ | refine callK_intro (cM) ?_ | refine callK_intro (cS) ?_ | refine callK_intro (a2) ?_ | refine callK_intro (uS) ?_ | refine callK_intro (uK) ?_ | refine callK_intro (vS) ?_ | refine callK_intro (vK) ?_ | refine jy ?_ | refine ju ?_ | refine jv ?_)) <;> (try (conv => whnf))
    · exact hL V1 V2 V3 K2 rK2
    · exact hL S1 S2 S3 K2 rK2
    · exact hL V1 V2 V3 K1 rK
    · exact hL S1 S2 S3 K1 rK
  intro y1 y2 y3 yk hyk
  refine loopK_inv (G := g3) (fun n stt => ∃ i : Nat, n + i = 8 ∧ stt = ⟨[(7, .c (.o (.sl (msg.map u8) msg.length))), (9, .c (.o (.i .u16 how))), (10, .c (.o (.p 10 0))), (14, .c (.o (.p 14 0))), (21, .c (.o (.p 21 0))), (23, .c (.o (.sl (B.map u8) B.length))), (26, .c (.o (.p 26 0))), (27, .c (.o (.i .i64 (i : Int))))], [(10, .st [.s qm1, .s qm2, .s qm3, .i .i64 qad, .i .i64 qsk, .b qli, .s qo1, .s qo2, .s qo3, .sl (flat crR ql) ql.length, .i .i64 qwt, .s qw1, .s qw2, .s qw3, .i .u64 qse, .i .i64 qtm, .i .i64 qlf, .i .i64 qck, .i .i64 qtk]), (14, .st [.s x1, .s x2, .s x3, .i .u64 xk, .i .i64 xs, .i .i64 xe, .sl (xr.map u8) xr.length]), (21, .st [.s Uw, .s [], .s Rw, .i .i64 3, .i .i64 300, .b false, .s Uw, .s [], .s Rw, .sl (flat crR CB) CB.length, .i .i64 0, .s [], .s [], .s [], .i .u64 0, .i .i64 0, .i .i64 0, .i .i64 0, .i .i64 0]), (26, .st [.s y1, .s y2, .s y3, .i .u64 yk, .i .i64 0, .i .i64 0, .nl])]⟩) (n := 8) ⟨0, by omega, rfl⟩ ?_
  rintro n stt ⟨i, hi, rfl⟩
  by_cases h8 : i = 8
  · subst h8
    (repeat' ((conv => whnf) <;> first | exact rfl | with_reducible refine boolK_dec (fun _ => ?_) (fun _ => ?_) <;> try (exfalso; omega) | refine boolK_beq (fun _ => ?_) (fun _ => ?_) <;> try (exfalso; first | omega | with_reducible contradiction) | refine boolK_bne (fun _ => ?_) (fun _ => ?_) <;> try (exfalso; first | omega | with_reducible contradiction) | (with_reducible first | refine boolK_not ?_ | refine boolK_and ?_ | refine boolK_or ?_ | refine boolK_true ?_ | refine boolK_false ?_) | refine boolK_intro (fun _ => ?_) (fun _ => ?_) <;> try (exfalso; simp_all; done) | refine jA ?_ | refine jB ?_ | refine jC ?_ | refine jD ?_ | refine jE ?_ | refine jF ?_ | refine jG ?_ | refine jH ?_ | refine jI ?_ | refine jJ ?_ | refine jK ?_ | with_reducible refine natK_lit ?_ | refine natK_of rfl ?_ | refine natK_any ?_ | refine jL ?_ | refine jM ?_ | refine jN ?_ | refine jO ?_ | refine jP ?_ | refine jQ ?_ | refine jR ?_ | refine jS ?_ | refine jT ?_ | refine jU (fun _ => ?_) | refine jV ?_ | refine jW ?_ | refine je ?_ | refine jf ?_ | refine jg ?_ | refine jh ?_ | refine ji ?_ | refine jj ?_ | refine jk ?_ | refine jy ?_ | refine ju ?_ | refine jv ?_)) <;> (try (conv => whnf))
  obtain ⟨YB, hYB, sp1⟩ := c_Spoil B (m := B.length) rfl (by omega) (how / 8) (by omega)
  obtain ⟨YM, hYM, sp2⟩ := c_Spoil msg (m := msg.length) rfl (by omega) (how / 8) (by omega)
  by_cases h0 : i = 0
  · subst h0
    by_cases h7 : how % 8 = 7
    · obtain ⟨D, Y, e, hD, A1, A2⟩ := acc26 Uw [] Rw 3 300 false Uw [] Rw CB (n := CB.length) rfl 0 [] [] [] 0 0 0 0 0 sC y1 y2 y3 yk 0 0 [] (j := 0) YB (q := YB.length) rfl (by omega)
      (repeat' ((conv => whnf) <;> first | with_reducible refine boolK_refl ?_ | refine natK_of (j := 0) (by omega) ?_ | refine natK_of (j := 1) (by omega) ?_ | exact rfl | with_reducible refine boolK_dec (fun _ => ?_) (fun _ => ?_) <;> try (exfalso; omega) | refine boolK_beq (fun _ => ?_) (fun _ => ?_) <;> try (exfalso; first | omega | with_reducible contradiction) | refine boolK_bne (fun _ => ?_) (fun _ => ?_) <;> try (exfalso; first | omega | with_reducible contradiction) | (with_reducible first | refine boolK_not ?_ | refine boolK_and ?_ | refine boolK_or ?_ | refine boolK_true ?_ | refine boolK_false ?_) | refine boolK_intro (fun _ => ?_) (fun _ => ?_) <;> try (exfalso; simp_all; done) | refine jA ?_ | refine jB ?_ | refine jC ?_ | refine jD ?_ | refine jE ?_ | refine jF ?_ | refine jG ?_ | refine jH ?_ | refine jI ?_ | refine jJ ?_ | refine jK ?_ | with_reducible refine natK_lit ?_ | refine natK_of rfl ?_ | refine natK_any ?_ | refine jL ?_ | refine jM ?_ | refine jN ?_ | refine jO ?_ | refine jP ?_ | refine jQ ?_ | refine jR ?_ | refine jS ?_ | refine jT ?_ | refine jU (fun _ => ?_) | refine jV ?_ | refine jW ?_ | refine je ?_ | refine jf ?_ | refine jg ?_ | refine jh ?_ | refine ji ?_ | refine jj ?_ | refine jk ?_ | refine callK_intro (sp1) ?_ | refine callK_intro (A1) ?_ | refine callK_intro (A2) ?_ | refine callK_intro (c_sameClD D hD) ?_ | refine callK_intro (c_sameCred Y) ?_ | exact ⟨n - 1, by omega, 1, by omega, rfl⟩ | refine jy ?_ | refine ju ?_ | refine jv ?_)) <;> (try (conv => whnf))
    · obtain ⟨D, Y, e, hD, A1, A2⟩ := acc26 Uw [] Rw 3 300 false Uw [] Rw CB (n := CB.length) rfl 0 [] [] [] 0 0 0 0 0 sC y1 y2 y3 yk 0 0 [] (j := 0) B (q := B.length) rfl (by omega)
      (repeat' ((conv => whnf) <;> first | with_reducible refine boolK_refl ?_ | refine natK_of (j := 0) (by omega) ?_ | refine natK_of (j := 1) (by omega) ?_ | exact rfl | with_reducible refine boolK_dec (fun _ => ?_) (fun _ => ?_) <;> try (exfalso; omega) | refine boolK_beq (fun _ => ?_) (fun _ => ?_) <;> try (exfalso; first | omega | with_reducible contradiction) | refine boolK_bne (fun _ => ?_) (fun _ => ?_) <;> try (exfalso; first | omega | with_reducible contradiction) | (with_reducible first | refine boolK_not ?_ | refine boolK_and ?_ | refine boolK_or ?_ | refine boolK_true ?_ | refine boolK_false ?_) | refine boolK_intro (fun _ => ?_) (fun _ => ?_) <;> try (exfalso; simp_all; done) | refine jA ?_ | refine jB ?_ | refine jC ?_ | refine jD ?_ | refine jE ?_ | refine jF ?_ | refine jG ?_ | refine jH ?_ | refine jI ?_ | refine jJ ?_ | refine jK ?_ | with_reducible refine natK_lit ?_ | refine natK_of rfl ?_ | refine natK_any ?_ | refine jL ?_ | refine jM ?_ | refine jN ?_ | refine jO ?_ | refine jP ?_ | refine jQ ?_ | refine jR ?_ | refine jS ?_ | refine jT ?_ | refine jU (fun _ => ?_) | refine jV ?_ | refine jW ?_ | refine je ?_ | refine jf ?_ | refine jg ?_ | refine jh ?_ | refine ji ?_ | refine jj ?_ | refine jk ?_ | refine callK_intro (A1) ?_ | refine callK_intro (A2) ?_ | refine callK_intro (c_sameClD D hD) ?_ | refine callK_intro (c_sameCred Y) ?_ | exact ⟨n - 1, by omega, 1, by omega, rfl⟩ | refine jy ?_ | refine ju ?_ | refine jv ?_)) <;> (try (conv => whnf))
  by_cases h1 : i = 1
  · subst h1
    by_cases h7 : how % 8 = 7
    · obtain ⟨D, Y, e, hD, A1, A2⟩ := acc26 qm1 qm2 qm3 qad qsk qli qo1 qo2 qo3 ql (n := ql.length) rfl qwt qw1 qw2 qw3 qse qtm qlf qck qtk sQ y1 y2 y3 yk 0 0 [] (j := 0) YB (q := YB.length) rfl (by omega)
      (repeat' ((conv => whnf) <;> first | with_reducible refine boolK_refl ?_ | refine natK_of (j := 0) (by omega) ?_ | refine natK_of (j := 1) (by omega) ?_ | exact rfl | with_reducible refine boolK_dec (fun _ => ?_) (fun _ => ?_) <;> try (exfalso; omega) | refine boolK_beq (fun _ => ?_) (fun _ => ?_) <;> try (exfalso; first | omega | with_reducible contradiction) | refine boolK_bne (fun _ => ?_) (fun _ => ?_) <;> try (exfalso; first | omega | with_reducible contradiction) | (with_reducible first | refine boolK_not ?_ | refine boolK_and ?_ | refine boolK_or ?_ | refine boolK_true ?_ | refine boolK_false ?_) | refine boolK_intro (fun _ => ?_) (fun _ => ?_) <;> try (exfalso; simp_all; done) | refine jA ?_ | refine jB ?_ | refine jC ?_ | refine jD ?_ | refine jE ?_ | refine jF ?_ | refine jG ?_ | refine jH ?_ | refine jI ?_ | refine jJ ?_ | refine jK ?_ | with_reducible refine natK_lit ?_ | refine natK_of rfl ?_ | refine natK_any ?_ | refine jL ?_ | refine jM ?_ | refine jN ?_ | refine jO ?_ | refine jP ?_ | refine jQ ?_ | refine jR ?_ | refine jS ?_ | refine jT ?_ | refine jU (fun _ => ?_) | refine jV ?_ | refine jW ?_ | refine je ?_ | refine jf ?_ | refine jg ?_ | refine jh ?_ | refine ji ?_ | refine jj ?_ | refine jk ?_ | refine callK_intro (sp1) ?_ | refine callK_intro (A1) ?_ | refine callK_intro (A2) ?_ | refine callK_intro (c_sameClD D hD) ?_ | refine callK_intro (c_sameCred Y) ?_ | exact ⟨n - 1, by omega, 2, by omega, rfl⟩ | refine jy ?_ | refine ju ?_ | refine jv ?_)) <;> (try (conv => whnf))
    · obtain ⟨D, Y, e, hD, A1, A2⟩ := acc26 qm1 qm2 qm3 qad qsk qli qo1 qo2 qo3 ql (n := ql.length) rfl qwt qw1 qw2 qw3 qse qtm qlf qck qtk sQ y1 y2 y3 yk 0 0 [] (j := 0) B (q := B.length) rfl (by omega)
      (repeat' ((conv => whnf) <;> first | with_reducible refine boolK_refl ?_ | refine natK_of (j := 0) (by omega) ?_ | refine natK_of (j := 1) (by omega) ?_ | exact rfl | with_reducible refine boolK_dec (fun _ => ?_) (fun _ => ?_) <;> try (exfalso; omega) | refine boolK_beq (fun _ => ?_) (fun _ => ?_) <;> try (exfalso; first | omega | with_reducible contradiction) | refine boolK_bne (fun _ => ?_) (fun _ => ?_) <;> try (exfalso; first | omega | with_reducible contradiction) | (with_reducible first | refine boolK_not ?_ | refine boolK_and ?_ | refine boolK_or ?_ | refine boolK_true ?_ | refine boolK_false ?_) | refine boolK_intro (fun _ => ?_) (fun _ => ?_) <;> try (exfalso; simp_all; done) | refine jA ?_ | refine jB ?_ | refine jC ?_ | refine jD ?_ | refine jE ?_ | refine jF ?_ | refine jG ?_ | refine jH ?_ | refine jI ?_ | refine jJ ?_ | refine jK ?_ | with_reducible refine natK_lit ?_ | refine natK_of rfl ?_ | refine natK_any ?_ | refine jL ?_ | refine jM ?_ | refine jN ?_ | refine jO ?_ | refine jP ?_ | refine jQ ?_ | refine jR ?_ | refine jS ?_ | refine jT ?_ | refine jU (fun _ => ?_) | refine jV ?_ | refine jW ?_ | refine je ?_ | refine jf ?_ | refine jg ?_ | refine jh ?_ | refine ji ?_ | refine jj ?_ | refine jk ?_ | refine callK_intro (A1) ?_ | refine callK_intro (A2) ?_ | refine callK_intro (c_sameClD D hD) ?_ | refine callK_intro (c_sameCred Y) ?_ | exact ⟨n - 1, by omega, 2, by omega, rfl⟩ | refine jy ?_ | refine ju ?_ | refine jv ?_)) <;> (try (conv => whnf))
  by_cases h2 : i = 2
  · subst h2
    by_cases h7 : how % 8 = 7
    · obtain ⟨D, Y, e, hD, A1, A2⟩ := acc26 Uw [] Rw 3 300 false Uw [] Rw CB (n := CB.length) rfl 0 [] [] [] 0 0 0 0 0 sC x1 x2 x3 xk xs xe xr (j := xr.length) YB (q := YB.length) rfl (by omega)
      (repeat' ((conv => whnf) <;> first | with_reducible refine boolK_refl ?_ | refine natK_of (j := 0) (by omega) ?_ | refine natK_of (j := 1) (by omega) ?_ | exact rfl | with_reducible refine boolK_dec (fun _ => ?_) (fun _ => ?_) <;> try (exfalso; omega) | refine boolK_beq (fun _ => ?_) (fun _ => ?_) <;> try (exfalso; first | omega | with_reducible contradiction) | refine boolK_bne (fun _ => ?_) (fun _ => ?_) <;> try (exfalso; first | omega | with_reducible contradiction) | (with_reducible first | refine boolK_not ?_ | refine boolK_and ?_ | refine boolK_or ?_ | refine boolK_true ?_ | refine boolK_false ?_) | refine boolK_intro (fun _ => ?_) (fun _ => ?_) <;> try (exfalso; simp_all; done) | refine jA ?_ | refine jB ?_ | refine jC ?_ | refine jD ?_ | refine jE ?_ | refine jF ?_ | refine jG ?_ | refine jH ?_ | refine jI ?_ | refine jJ ?_ | refine jK ?_ | with_reducible refine natK_lit ?_ | refine natK_of rfl ?_ | refine natK_any ?_ | refine jL ?_ | refine jM ?_ | refine jN ?_ | refine jO ?_ | refine jP ?_ | refine jQ ?_ | refine jR ?_ | refine jS ?_ | refine jT ?_ | refine jU (fun _ => ?_) | refine jV ?_ | refine jW ?_ | refine je ?_ | refine jf ?_ | refine jg ?_ | refine jh ?_ | refine ji ?_ | refine jj ?_ | refine jk ?_ | refine callK_intro (sp1) ?_ | refine callK_intro (A1) ?_ | refine callK_intro (A2) ?_ | refine callK_intro (c_sameClD D hD) ?_ | refine callK_intro (c_sameCred Y) ?_ | exact ⟨n - 1, by omega, 3, by omega, rfl⟩ | refine jy ?_ | refine ju ?_ | refine jv ?_)) <;> (try (conv => whnf))
    · obtain ⟨D, Y, e, hD, A1, A2⟩ := acc26 Uw [] Rw 3 300 false Uw [] Rw CB (n := CB.length) rfl 0 [] [] [] 0 0 0 0 0 sC x1 x2 x3 xk xs xe xr (j := xr.length) B (q := B.length) rfl (by omega)
      (repeat' ((conv => whnf) <;> first | with_reducible refine boolK_refl ?_ | refine natK_of (j := 0) (by omega) ?_ | refine natK_of (j := 1) (by omega) ?_ | exact rfl | with_reducible refine boolK_dec (fun _ => ?_) (fun _ => ?_) <;> try (exfalso; omega) | refine boolK_beq (fun _ => ?_) (fun _ => ?_) <;> try (exfalso; first | omega | with_reducible contradiction) | refine boolK_bne (fun _ => ?_) (fun _ => ?_) <;> try (exfalso; first | omega | with_reducible contradiction) | (with_reducible first | refine boolK_not ?_ | refine boolK_and ?_ | refine boolK_or ?_ | refine boolK_true ?_ | refine boolK_false ?_) | refine boolK_intro (fun _ => ?_) (fun _ => ?_) <;> try (exfalso; simp_all; done) | refine jA ?_ | refine jB ?_ | refine jC ?_ | refine jD ?_ | refine jE ?_ | refine jF ?_ | refine jG ?_ | refine jH ?_ | refine jI ?_ | refine jJ ?_ | refine jK ?_ | with_reducible refine natK_lit ?_ | refine natK_of rfl ?_ | refine natK_any ?_ | refine jL ?_ | refine jM ?_ | refine jN ?_ | refine jO ?_ | refine jP ?_ | refine jQ ?_ | refine jR ?_ | refine jS ?_ | refine jT ?_ | refine jU (fun _ => ?_) | refine jV ?_ | refine jW ?_ | refine je ?_ | refine jf ?_ | refine jg ?_ | refine jh ?_ | refine ji ?_ | refine jj ?_ | refine jk ?_ | refine callK_intro (A1) ?_ | refine callK_intro (A2) ?_ | refine callK_intro (c_sameClD D hD) ?_ | refine callK_intro (c_sameCred Y) ?_ | exact ⟨n - 1, by omega, 3, by omega, rfl⟩ | refine jy ?_ | refine ju ?_ | refine jv ?_)) <;> (try (conv => whnf))
  by_cases h3 : i = 3
  · subst h3
    by_cases h7 : how % 8 = 7
    · obtain ⟨D, Y, e, hD, A1, A2⟩ := acc26 qm1 qm2 qm3 qad qsk qli qo1 qo2 qo3 ql (n := ql.length) rfl qwt qw1 qw2 qw3 qse qtm qlf qck qtk sQ x1 x2 x3 xk xs xe xr (j := xr.length) YB (q := YB.length) rfl (by omega)
      (repeat' ((conv => whnf) <;> first | with_reducible refine boolK_refl ?_ | refine natK_of (j := 0) (by omega) ?_ | refine natK_of (j := 1) (by omega) ?_ | exact rfl | with_reducible refine boolK_dec (fun _ => ?_) (fun _ => ?_) <;> try (exfalso; omega) | refine boolK_beq (fun _ => ?_) (fun _ => ?_) <;> try (exfalso; first | omega | with_reducible contradiction) | refine boolK_bne (fun _ => ?_) (fun _ => ?_) <;> try (exfalso; first | omega | with_reducible contradiction) | (with_reducible first | refine boolK_not ?_ | refine boolK_and ?_ | refine boolK_or ?_ | refine boolK_true ?_ | refine boolK_false ?_) | refine boolK_intro (fun _ => ?_) (fun _ => ?_) <;> try (exfalso; simp_all; done) | refine jA ?_ | refine jB ?_ | refine jC ?_ | refine jD ?_ | refine jE ?_ | refine jF ?_ | refine jG ?_ | refine jH ?_ | refine jI ?_ | refine jJ ?_ | refine jK ?_ | with_reducible refine natK_lit ?_ | refine natK_of rfl ?_ | refine natK_any ?_ | refine jL ?_ | refine jM ?_ | refine jN ?_ | refine jO ?_ | refine jP ?_ | refine jQ ?_ | refine jR ?_ | refine jS ?_ | refine jT ?_ | refine jU (fun _ => ?_) | refine jV ?_ | refine jW ?_ | refine je ?_ | refine jf ?_ | refine jg ?_ | refine jh ?_ | refine ji ?_ | refine jj ?_ | refine jk ?_ | refine callK_intro (sp1) ?_ | refine callK_intro (A1) ?_ | refine callK_intro (A2) ?_ | refine callK_intro (c_sameClD D hD) ?_ | refine callK_intro (c_sameCred Y) ?_ | exact ⟨n - 1, by omega, 4, by omega, rfl⟩ | refine jy ?_ | refine ju ?_ | refine jv ?_)) <;> (try (conv => whnf))
    · obtain ⟨D, Y, e, hD, A1, A2⟩ := acc26 qm1 qm2 qm3 qad qsk qli qo1 qo2 qo3 ql (n := ql.length) rfl qwt qw1 qw2 qw3 qse qtm qlf qck qtk sQ x1 x2 x3 xk xs xe xr (j := xr.length) B (q := B.length) rfl (by omega)
      (repeat' ((conv => whnf) <;> first | with_reducible refine boolK_refl ?_ | refine natK_of (j := 0) (by omega) ?_ | refine natK_of (j := 1) (by omega) ?_ | exact rfl | with_reducible refine boolK_dec (fun _ => ?_) (fun _ => ?_) <;> try (exfalso; omega) | refine boolK_beq (fun _ => ?_) (fun _ => ?_) <;> try (exfalso; first | omega | with_reducible contradiction) | refine boolK_bne (fun _ => ?_) (fun _ => ?_) <;> try (exfalso; first | omega | with_reducible contradiction) | (with_reducible first | refine boolK_not ?_ | refine boolK_and ?_ | refine boolK_or ?_ | refine boolK_true ?_ | refine boolK_false ?_) | refine boolK_intro (fun _ => ?_) (fun _ => ?_) <;> try (exfalso; simp_all; done) | refine jA ?_ | refine jB ?_ | refine jC ?_ | refine jD ?_ | refine jE ?_ | refine jF ?_ | refine jG ?_ | refine jH ?_ | refine jI ?_ | refine jJ ?_ | refine jK ?_ | with_reducible refine natK_lit ?_ | refine natK_of rfl ?_ | refine natK_any ?_ | refine jL ?_ | refine jM ?_ | refine jN ?_ | refine jO ?_ | refine jP ?_ | refine jQ ?_ | refine jR ?_ | refine jS ?_ | refine jT ?_ | refine jU (fun _ => ?_) | refine jV ?_ | refine jW ?_ | refine je ?_ | refine jf ?_ | refine jg ?_ | refine jh ?_ | refine ji ?_ | refine jj ?_ | refine jk ?_ | refine callK_intro (A1) ?_ | refine callK_intro (A2) ?_ | refine callK_intro (c_sameClD D hD) ?_ | refine callK_intro (c_sameCred Y) ?_ | exact ⟨n - 1, by omega, 4, by omega, rfl⟩ | refine jy ?_ | refine ju ?_ | refine jv ?_)) <;> (try (conv => whnf))
  by_cases h4 : i = 4
  · subst h4
    by_cases h7 : how % 8 = 7
    · obtain ⟨D, Y, e, hD, A1, A2⟩ := acc26 Uw [] Rw 3 300 false Uw [] Rw CB (n := CB.length) rfl 0 [] [] [] 0 0 0 0 0 sC y1 y2 y3 yk 0 0 [] (j := 0) YM (q := YM.length) rfl (by omega)
      (repeat' ((conv => whnf) <;> first | with_reducible refine boolK_refl ?_ | refine natK_of (j := 0) (by omega) ?_ | refine natK_of (j := 1) (by omega) ?_ | exact rfl | with_reducible refine boolK_dec (fun _ => ?_) (fun _ => ?_) <;> try (exfalso; omega) | refine boolK_beq (fun _ => ?_) (fun _ => ?_) <;> try (exfalso; first | omega | with_reducible contradiction) | refine boolK_bne (fun _ => ?_) (fun _ => ?_) <;> try (exfalso; first | omega | with_reducible contradiction) | (with_reducible first | refine boolK_not ?_ | refine boolK_and ?_ | refine boolK_or ?_ | refine boolK_true ?_ | refine boolK_false ?_) | refine boolK_intro (fun _ => ?_) (fun _ => ?_) <;> try (exfalso; simp_all; done) | refine jA ?_ | refine jB ?_ | refine jC ?_ | refine jD ?_ | refine jE ?_ | refine jF ?_ | refine jG ?_ | refine jH ?_ | refine jI ?_ | refine jJ ?_ | refine jK ?_ | with_reducible refine natK_lit ?_ | refine natK_of rfl ?_ | refine natK_any ?_ | refine jL ?_ | refine jM ?_ | refine jN ?_ | refine jO ?_ | refine jP ?_ | refine jQ ?_ | refine jR ?_ | refine jS ?_ | refine jT ?_ | refine jU (fun _ => ?_) | refine jV ?_ | refine jW ?_ | refine je ?_ | refine jf ?_ | refine jg ?_ | refine jh ?_ | refine ji ?_ | refine jj ?_ | refine jk ?_ | refine callK_intro (sp2) ?_ | refine callK_intro (A1) ?_ | refine callK_intro (A2) ?_ | refine callK_intro (c_sameClD D hD) ?_ | refine callK_intro (c_sameCred Y) ?_ | exact ⟨n - 1, by omega, 5, by omega, rfl⟩ | refine jy ?_ | refine ju ?_ | refine jv ?_)) <;> (try (conv => whnf))
    · obtain ⟨D, Y, e, hD, A1, A2⟩ := acc26 Uw [] Rw 3 300 false Uw [] Rw CB (n := CB.length) rfl 0 [] [] [] 0 0 0 0 0 sC y1 y2 y3 yk 0 0 [] (j := 0) msg (q := msg.length) rfl (by omega)
      (repeat' ((conv => whnf) <;> first | with_reducible refine boolK_refl ?_ | refine natK_of (j := 0) (by omega) ?_ | refine natK_of (j := 1) (by omega) ?_ | exact rfl | with_reducible refine boolK_dec (fun _ => ?_) (fun _ => ?_) <;> try (exfalso; omega) | refine boolK_beq (fun _ => ?_) (fun _ => ?_) <;> try (exfalso; first | omega | with_reducible contradiction) | refine boolK_bne (fun _ => ?_) (fun _ => ?_) <;> try (exfalso; first | omega | with_reducible contradiction) | (with_reducible first | refine boolK_not ?_ | refine boolK_and ?_ | refine boolK_or ?_ | refine boolK_true ?_ | refine boolK_false ?_) | refine boolK_intro (fun _ => ?_) (fun _ => ?_) <;> try (exfalso; simp_all; done) | refine jA ?_ | refine jB ?_ | refine jC ?_ | refine jD ?_ | refine jE ?_ | refine jF ?_ | refine jG ?_ | refine jH ?_ | refine jI ?_ | refine jJ ?_ | refine jK ?_ | with_reducible refine natK_lit ?_ | refine natK_of rfl ?_ | refine natK_any ?_ | refine jL ?_ | refine jM ?_ | refine jN ?_ | refine jO ?_ | refine jP ?_ | refine jQ ?_ | refine jR ?_ | refine jS ?_ | refine jT ?_ | refine jU (fun _ => ?_) | refine jV ?_ | refine jW ?_ | refine je ?_ | refine jf ?_ | refine jg ?_ | refine jh ?_ | refine ji ?_ | refine jj ?_ | refine jk ?_ | refine callK_intro (A1) ?_ | refine callK_intro (A2) ?_ | refine callK_intro (c_sameClD D hD) ?_ | refine callK_intro (c_sameCred Y) ?_ | exact ⟨n - 1, by omega, 5, by omega, rfl⟩ | refine jy ?_ | refine ju ?_ | refine jv ?_)) <;> (try (conv => whnf))
  by_cases h5 : i = 5
  · subst h5
    by_cases h7 : how % 8 = 7
    · obtain ⟨D, Y, e, hD, A1, A2⟩ := acc26 qm1 qm2 qm3 qad qsk qli qo1 qo2 qo3 ql (n := ql.length) rfl qwt qw1 qw2 qw3 qse qtm qlf qck qtk sQ y1 y2 y3 yk 0 0 [] (j := 0) YM (q := YM.length) rfl (by omega)
      (repeat' ((conv => whnf) <;> first | with_reducible refine boolK_refl ?_ | refine natK_of (j := 0) (by omega) ?_ | refine natK_of (j := 1) (by omega) ?_ | exact rfl | with_reducible refine boolK_dec (fun _ => ?_) (fun _ => ?_) <;> try (exfalso; omega) | refine boolK_beq (fun _ => ?_) (fun _ => ?_) <;> try (exfalso; first | omega | with_reducible contradiction) | refine boolK_bne (fun _ => ?_) (fun _ => ?_) <;> try (exfalso; first | omega | with_reducible contradiction) | (with_reducible first | refine boolK_not ?_ | refine boolK_and ?_ | refine boolK_or ?_ | refine boolK_true ?_ | refine boolK_false ?_) | refine boolK_intro (fun _ => ?_) (fun _ => ?_) <;> try (exfalso; simp_all; done) | refine jA ?_ | refine jB ?_ | refine jC ?_ | refine jD ?_ | refine jE ?_ | refine jF ?_ | refine jG ?_ | refine jH ?_ | refine jI ?_ | refine jJ ?_ | refine jK ?_ | with_reducible refine natK_lit ?_ | refine natK_of rfl ?_ | refine natK_any ?_ | refine jL ?_ | refine jM ?_ | refine jN ?_ | refine jO ?_ | refine jP ?_ | refine jQ ?_ | refine jR ?_ | refine jS ?_ | refine jT ?_ | refine jU (fun _ => ?_) | refine jV ?_ | refine jW ?_ | refine je ?_ | refine jf ?_ | refine jg ?_ | refine jh ?_ | refine ji ?_ | refine jj ?_ | refine jk ?_ | refine callK_intro (sp2) ?_ | refine callK_intro (A1) ?_ | refine callK_intro (A2) ?_ | refine callK_intro (c_sameClD D hD) ?_ | refine callK_intro (c_sameCred Y) ?_ | exact ⟨n - 1, by omega, 6, by omega, rfl⟩ | refine jy ?_ | refine ju ?_ | refine jv ?_)) <;> (try (conv => whnf))
    · obtain ⟨D, Y, e, hD, A1, A2⟩ := acc26 qm1 qm2 qm3 qad qsk qli qo1 qo2 qo3 ql (n := ql.length) rfl qwt qw1 qw2 qw3 qse qtm qlf qck qtk sQ y1 y2 y3 yk 0 0 [] (j := 0) msg (q := msg.length) rfl (by omega)
      (repeat' ((conv => whnf) <;> first | with_reducible refine boolK_refl ?_ | refine natK_of (j := 0) (by omega) ?_ | refine natK_of (j := 1) (by omega) ?_ | exact rfl | with_reducible refine boolK_dec (fun _ => ?_) (fun _ => ?_) <;> try (exfalso; omega) | refine boolK_beq (fun _ => ?_) (fun _ => ?_) <;> try (exfalso; first | omega | with_reducible contradiction) | refine boolK_bne (fun _ => ?_) (fun _ => ?_) <;> try (exfalso; first | omega | with_reducible contradiction) | (with_reducible first | refine boolK_not ?_ | refine boolK_and ?_ | refine boolK_or ?_ | refine boolK_true ?_ | refine boolK_false ?_) | refine boolK_intro (fun _ => ?_) (fun _ => ?_) <;> try (exfalso; simp_all; done) | refine jA ?_ | refine jB ?_ | refine jC ?_ | refine jD ?_ | refine jE ?_ | refine jF ?_ | refine jG ?_ | refine jH ?_ | refine jI ?_ | refine jJ ?_ | refine jK ?_ | with_reducible refine natK_lit ?_ | refine natK_of rfl ?_ | refine natK_any ?_ | refine jL ?_ | refine jM ?_ | refine jN ?_ | refine jO ?_ | refine jP ?_ | refine jQ ?_ | refine jR ?_ | refine jS ?_ | refine jT ?_ | refine jU (fun _ => ?_) | refine jV ?_ | refine jW ?_ | refine je ?_ | refine jf ?_ | refine jg ?_ | refine jh ?_ | refine ji ?_ | refine jj ?_ | refine jk ?_ | refine callK_intro (A1) ?_ | refine callK_intro (A2) ?_ | refine callK_intro (c_sameClD D hD) ?_ | refine callK_intro (c_sameCred Y) ?_ | exact ⟨n - 1, by omega, 6, by omega, rfl⟩ | refine jy ?_ | refine ju ?_ | refine jv ?_)) <;> (try (conv => whnf))
  by_cases h6 : i = 6
  · subst h6
    by_cases h7 : how % 8 = 7
    · obtain ⟨D, Y, e, hD, A1, A2⟩ := acc26 Uw [] Rw 3 300 false Uw [] Rw CB (n := CB.length) rfl 0 [] [] [] 0 0 0 0 0 sC x1 x2 x3 xk xs xe xr (j := xr.length) YM (q := YM.length) rfl (by omega)
      (repeat' ((conv => whnf) <;> first | with_reducible refine boolK_refl ?_ | refine natK_of (j := 0) (by omega) ?_ | refine natK_of (j := 1) (by omega) ?_ | exact rfl | with_reducible refine boolK_dec (fun _ => ?_) (fun _ => ?_) <;> try (exfalso; omega) | refine boolK_beq (fun _ => ?_) (fun _ => ?_) <;> try (exfalso; first | omega | with_reducible contradiction) | refine boolK_bne (fun _ => ?_) (fun _ => ?_) <;> try (exfalso; first | omega | with_reducible contradiction) | (with_reducible first | refine boolK_not ?_ | refine boolK_and ?_ | refine boolK_or ?_ | refine boolK_true ?_ | refine boolK_false ?_) | refine boolK_intro (fun _ => ?_) (fun _ => ?_) <;> try (exfalso; simp_all; done) | refine jA ?_ | refine jB ?_ | refine jC ?_ | refine jD ?_ | refine jE ?_ | refine jF ?_ | refine jG ?_ | refine jH ?_ | refine jI ?_ | refine jJ ?_ | refine jK ?_ | with_reducible refine natK_lit ?_ | refine natK_of rfl ?_ | refine natK_any ?_ | refine jL ?_ | refine jM ?_ | refine jN ?_ | refine jO ?_ | refine jP ?_ | refine jQ ?_ | refine jR ?_ | refine jS ?_ | refine jT ?_ | refine jU (fun _ => ?_) | refine jV ?_ | refine jW ?_ | refine je ?_ | refine jf ?_ | refine jg ?_ | refine jh ?_ | refine ji ?_ | refine jj ?_ | refine jk ?_ | refine callK_intro (sp2) ?_ | refine callK_intro (A1) ?_ | refine callK_intro (A2) ?_ | refine callK_intro (c_sameClD D hD) ?_ | refine callK_intro (c_sameCred Y) ?_ | exact ⟨n - 1, by omega, 7, by omega, rfl⟩ | refine jy ?_ | refine ju ?_ | refine jv ?_)) <;> (try (conv => whnf))
    · obtain ⟨D, Y, e, hD, A1, A2⟩ := acc26 Uw [] Rw 3 300 false Uw [] Rw CB (n := CB.length) rfl 0 [] [] [] 0 0 0 0 0 sC x1 x2 x3 xk xs xe xr (j := xr.length) msg (q := msg.length) rfl (by omega)
      (repeat' ((conv => whnf) <;> first | with_reducible refine boolK_refl ?_ | refine natK_of (j := 0) (by omega) ?_ | refine natK_of (j := 1) (by omega) ?_ | exact rfl | with_reducible refine boolK_dec (fun _ => ?_) (fun _ => ?_) <;> try (exfalso; omega) | refine boolK_beq (fun _ => ?_) (fun _ => ?_) <;> try (exfalso; first | omega | with_reducible contradiction) | refine boolK_bne (fun _ => ?_) (fun _ => ?_) <;> try (exfalso; first | omega | with_reducible contradiction) | (with_reducible first | refine boolK_not ?_ | refine boolK_and ?_ | refine boolK_or ?_ | refine boolK_true ?_ | refine boolK_false ?_) | refine boolK_intro (fun _ => ?_) (fun _ => ?_) <;> try (exfalso; simp_all; done) | refine jA ?_ | refine jB ?_ | refine jC ?_ | refine jD ?_ | refine jE ?_ | refine jF ?_ | refine jG ?_ | refine jH ?_ | refine jI ?_ | refine jJ ?_ | refine jK ?_ | with_reducible refine natK_lit ?_ | refine natK_of rfl ?_ | refine natK_any ?_ | refine jL ?_ | refine jM ?_ | refine jN ?_ | refine jO ?_ | refine jP ?_ | refine jQ ?_ | refine jR ?_ | refine jS ?_ | refine jT ?_ | refine jU (fun _ => ?_) | refine jV ?_ | refine jW ?_ | refine je ?_ | refine jf ?_ | refine jg ?_ | refine jh ?_ | refine ji ?_ | refine jj ?_ | refine jk ?_ | refine callK_intro (A1) ?_ | refine callK_intro (A2) ?_ | refine callK_intro (c_sameClD D hD) ?_ | refine callK_intro (c_sameCred Y) ?_ | exact ⟨n - 1, by omega, 7, by omega, rfl⟩ | refine jy ?_ | refine ju ?_ | refine jv ?_)) <;> (try (conv => whnf))
  by_cases h7 : i = 7
  · subst h7
    by_cases h7 : how % 8 = 7
    · obtain ⟨D, Y, e, hD, A1, A2⟩ := acc26 qm1 qm2 qm3 qad qsk qli qo1 qo2 qo3 ql (n := ql.length) rfl qwt qw1 qw2 qw3 qse qtm qlf qck qtk sQ x1 x2 x3 xk xs xe xr (j := xr.length) YM (q := YM.length) rfl (by omega)
      (repeat' ((conv => whnf) <;> first | with_reducible refine boolK_refl ?_ | refine natK_of (j := 0) (by omega) ?_ | refine natK_of (j := 1) (by omega) ?_ | exact rfl | with_reducible refine boolK_dec (fun _ => ?_) (fun _ => ?_) <;> try (exfalso; omega) | refine boolK_beq (fun _ => ?_) (fun _ => ?_) <;> try (exfalso; first | omega | with_reducible contradiction) | refine boolK_bne (fun _ => ?_) (fun _ => ?_) <;> try (exfalso; first | omega | with_reducible contradiction) | (with_reducible first | refine boolK_not ?_ | refine boolK_and ?_ | refine boolK_or ?_ | refine boolK_true ?_ | refine boolK_false ?_) | refine boolK_intro (fun _ => ?_) (fun _ => ?_) <;> try (exfalso; simp_all; done) | refine jA ?_ | refine jB ?_ | refine jC ?_ | refine jD ?_ | refine jE ?_ | refine jF ?_ | refine jG ?_ | refine jH ?_ | refine jI ?_ | refine jJ ?_ | refine jK ?_ | with_reducible refine natK_lit ?_ | refine natK_of rfl ?_ | refine natK_any ?_ | refine jL ?_ | refine jM ?_ | refine jN ?_ | refine jO ?_ | refine jP ?_ | refine jQ ?_ | refine jR ?_ | refine jS ?_ | refine jT ?_ | refine jU (fun _ => ?_) | refine jV ?_ | refine jW ?_ | refine je ?_ | refine jf ?_ | refine jg ?_ | refine jh ?_ | refine ji ?_ | refine jj ?_ | refine jk ?_ | refine callK_intro (sp2) ?_ | refine callK_intro (A1) ?_ | refine callK_intro (A2) ?_ | refine callK_intro (c_sameClD D hD) ?_ | refine callK_intro (c_sameCred Y) ?_ | exact ⟨n - 1, by omega, 8, by omega, rfl⟩ | refine jy ?_ | refine ju ?_ | refine jv ?_)) <;> (try (conv => whnf))
    · obtain ⟨D, Y, e, hD, A1, A2⟩ := acc26 qm1 qm2 qm3 qad qsk qli qo1 qo2 qo3 ql (n := ql.length) rfl qwt qw1 qw2 qw3 qse qtm qlf qck qtk sQ x1 x2 x3 xk xs xe xr (j := xr.length) msg (q := msg.length) rfl (by omega)
      (repeat' ((conv => whnf) <;> first | with_reducible refine boolK_refl ?_ | refine natK_of (j := 0) (by omega) ?_ | refine natK_of (j := 1) (by omega) ?_ | exact rfl | with_reducible refine boolK_dec (fun _ => ?_) (fun _ => ?_) <;> try (exfalso; omega) | refine boolK_beq (fun _ => ?_) (fun _ => ?_) <;> try (exfalso; first | omega | with_reducible contradiction) | refine boolK_bne (fun _ => ?_) (fun _ => ?_) <;> try (exfalso; first | omega | with_reducible contradiction) | (with_reducible first | refine boolK_not ?_ | refine boolK_and ?_ | refine boolK_or ?_ | refine boolK_true ?_ | refine boolK_false ?_) | refine boolK_intro (fun _ => ?_) (fun _ => ?_) <;> try (exfalso; simp_all; done) | refine jA ?_ | refine jB ?_ | refine jC ?_ | refine jD ?_ | refine jE ?_ | refine jF ?_ | refine jG ?_ | refine jH ?_ | refine jI ?_ | refine jJ ?_ | refine jK ?_ | with_reducible refine natK_lit ?_ | refine natK_of rfl ?_ | refine natK_any ?_ | refine jL ?_ | refine jM ?_ | refine jN ?_ | refine jO ?_ | refine jP ?_ | refine jQ ?_ | refine jR ?_ | refine jS ?_ | refine jT ?_ | refine jU (fun _ => ?_) | refine jV ?_ | refine jW ?_ | refine je ?_ | refine jf ?_ | refine jg ?_ | refine jh ?_ | refine ji ?_ | refine jj ?_ | refine jk ?_ | refine callK_intro (A1) ?_ | refine callK_intro (A2) ?_ | refine callK_intro (c_sameClD D hD) ?_ | refine callK_intro (c_sameCred Y) ?_ | exact ⟨n - 1, by omega, 8, by omega, rfl⟩ | refine jy ?_ | refine ju ?_ | refine jv ?_)) <;> (try (conv => whnf))
  exfalso; omega
end Go.Sx
namespace Go.Proofs.YtmacgikbcednmaaGreat
open Go.ChangeShapes Go.WideShapes Go.ChangeAt Go.RowKit Go.Sx
namespace ConverterAcceptsProof
set_option maxRecDepth 100000 in
theorem walk (W : World) (v0 v1 v2 v3 v4 v5 v6 v7 v8 v9 : Value) (ls0 ls1 ls2 ls3 ls4 ls5 ls6 ls7 ls8 ls9 : List L)
    (t0 : Typ (tabF tab) 30 ls0) (t1 : Typ (tabF tab) 5 ls1) (t2 : Typ (tabF tab) 31 ls2) (t3 : Typ (tabF tab) 34 ls3) (t4 : Typ (tabF tab) 36 ls4) (t5 : Typ (tabF tab) 5 ls5) (t6 : Typ (tabF tab) 5 ls6) (t7 : Typ (tabF tab) 31 ls7) (t8 : Typ (tabF tab) 32 ls8) (t9 : Typ (tabF tab) 32 ls9)
    (r0 : RelC (fun _ => False) W noMu (argC (tabF tab 30).agg ls0) v0) (r1 : RelC (fun _ => False) W noMu (argC (tabF tab 5).agg ls1) v1) (r2 : RelC (fun _ => False) W noMu (argC (tabF tab 31).agg ls2) v2) (r3 : RelC (fun _ => False) W noMu (argC (tabF tab 34).agg ls3) v3) (r4 : RelC (fun _ => False) W noMu (argC (tabF tab 36).agg ls4) v4) (r5 : RelC (fun _ => False) W noMu (argC (tabF tab 5).agg ls5) v5) (r6 : RelC (fun _ => False) W noMu (argC (tabF tab 5).agg ls6) v6) (r7 : RelC (fun _ => False) W noMu (argC (tabF tab 31).agg ls7) v7) (r8 : RelC (fun _ => False) W noMu (argC (tabF tab 32).agg ls8) v8) (r9 : RelC (fun _ => False) W noMu (argC (tabF tab 32).agg ls9) v9) :
    Calls Tryz.prog 3 #[v0, v1, v2, v3, v4, v5, v6, v7, v8, v9] W fun e w' => e = .returned (.bool true) ∧ Below W.heap.size W w' := by
  obtain ⟨partsa0, rfl, hla0, hpa0⟩ := typ_struct t0 rfl
  obtain ⟨qa0_0, qa0_1, qa0_2, qa0_3, qa0_4, qa0_5, qa0_6, qa0_7, qa0_8, qa0_9, qa0_10, qa0_11, rfl⟩ : ∃ qa0_0 qa0_1 qa0_2 qa0_3 qa0_4 qa0_5 qa0_6 qa0_7 qa0_8 qa0_9 qa0_10 qa0_11, partsa0 = [qa0_0, qa0_1, qa0_2, qa0_3, qa0_4, qa0_5, qa0_6, qa0_7, qa0_8, qa0_9, qa0_10, qa0_11] := by
    match partsa0, hla0 with
    | [qa0_0, qa0_1, qa0_2, qa0_3, qa0_4, qa0_5, qa0_6, qa0_7, qa0_8, qa0_9, qa0_10, qa0_11], _ => exact ⟨qa0_0, qa0_1, qa0_2, qa0_3, qa0_4, qa0_5, qa0_6, qa0_7, qa0_8, qa0_9, qa0_10, qa0_11, rfl⟩
  have ta0_0 := hpa0 0 _ qa0_0 rfl rfl
  obtain ⟨partsa0_0, rfl, hla0_0, hpa0_0⟩ := typ_struct ta0_0 rfl
  obtain ⟨qa0_0_0, qa0_0_1, qa0_0_2, rfl⟩ : ∃ qa0_0_0 qa0_0_1 qa0_0_2, partsa0_0 = [qa0_0_0, qa0_0_1, qa0_0_2] := by
    match partsa0_0, hla0_0 with
    | [qa0_0_0, qa0_0_1, qa0_0_2], _ => exact ⟨qa0_0_0, qa0_0_1, qa0_0_2, rfl⟩
  have ta0_0_0 := hpa0_0 0 _ qa0_0_0 rfl rfl
  obtain ⟨a0_0_0, rfl, wa0_0_0⟩ := typ_strB ta0_0_0 rfl
  have ta0_0_1 := hpa0_0 1 _ qa0_0_1 rfl rfl
  obtain ⟨a0_0_1, rfl, wa0_0_1⟩ := typ_strB ta0_0_1 rfl
  have ta0_0_2 := hpa0_0 2 _ qa0_0_2 rfl rfl
  obtain ⟨a0_0_2, rfl, wa0_0_2⟩ := typ_strB ta0_0_2 rfl
  have ta0_1 := hpa0 1 _ qa0_1 rfl rfl
  obtain ⟨a0_1, rfl, wa0_1⟩ := typ_int ta0_1 rfl
  have ta0_2 := hpa0 2 _ qa0_2 rfl rfl
  obtain ⟨a0_2, rfl, wa0_2⟩ := typ_int ta0_2 rfl
  have ta0_3 := hpa0 3 _ qa0_3 rfl rfl
  obtain ⟨a0_3, rfl⟩ := typ_bool ta0_3 rfl
  have ta0_4 := hpa0 4 _ qa0_4 rfl rfl
  obtain ⟨partsa0_4, rfl, hla0_4, hpa0_4⟩ := typ_struct ta0_4 rfl
  obtain ⟨qa0_4_0, qa0_4_1, rfl⟩ : ∃ qa0_4_0 qa0_4_1, partsa0_4 = [qa0_4_0, qa0_4_1] := by
    match partsa0_4, hla0_4 with
    | [qa0_4_0, qa0_4_1], _ => exact ⟨qa0_4_0, qa0_4_1, rfl⟩
  have ta0_4_0 := hpa0_4 0 _ qa0_4_0 rfl rfl
  obtain ⟨partsa0_4_0, rfl, hla0_4_0, hpa0_4_0⟩ := typ_struct ta0_4_0 rfl
  obtain ⟨qa0_4_0_0, qa0_4_0_1, qa0_4_0_2, rfl⟩ : ∃ qa0_4_0_0 qa0_4_0_1 qa0_4_0_2, partsa0_4_0 = [qa0_4_0_0, qa0_4_0_1, qa0_4_0_2] := by
    match partsa0_4_0, hla0_4_0 with
    | [qa0_4_0_0, qa0_4_0_1, qa0_4_0_2], _ => exact ⟨qa0_4_0_0, qa0_4_0_1, qa0_4_0_2, rfl⟩
  have ta0_4_0_0 := hpa0_4_0 0 _ qa0_4_0_0 rfl rfl
  obtain ⟨a0_4_0_0, rfl, wa0_4_0_0⟩ := typ_strB ta0_4_0_0 rfl
  have ta0_4_0_1 := hpa0_4_0 1 _ qa0_4_0_1 rfl rfl
  obtain ⟨a0_4_0_1, rfl, wa0_4_0_1⟩ := typ_strB ta0_4_0_1 rfl
  have ta0_4_0_2 := hpa0_4_0 2 _ qa0_4_0_2 rfl rfl
  obtain ⟨a0_4_0_2, rfl, wa0_4_0_2⟩ := typ_strB ta0_4_0_2 rfl
  have ta0_4_1 := hpa0_4 1 _ qa0_4_1 rfl rfl
  obtain ⟨a0_4_1, rfl, wa0_4_1⟩ := typ_slice ta0_4_1 rfl
  have ta0_5 := hpa0 5 _ qa0_5 rfl rfl
  obtain ⟨a0_5, rfl, wa0_5⟩ := typ_int ta0_5 rfl
  have ta0_6 := hpa0 6 _ qa0_6 rfl rfl
  obtain ⟨partsa0_6, rfl, hla0_6, hpa0_6⟩ := typ_struct ta0_6 rfl
  obtain ⟨qa0_6_0, qa0_6_1, qa0_6_2, rfl⟩ : ∃ qa0_6_0 qa0_6_1 qa0_6_2, partsa0_6 = [qa0_6_0, qa0_6_1, qa0_6_2] := by
    match partsa0_6, hla0_6 with
    | [qa0_6_0, qa0_6_1, qa0_6_2], _ => exact ⟨qa0_6_0, qa0_6_1, qa0_6_2, rfl⟩
  have ta0_6_0 := hpa0_6 0 _ qa0_6_0 rfl rfl
  obtain ⟨a0_6_0, rfl, wa0_6_0⟩ := typ_strB ta0_6_0 rfl
  have ta0_6_1 := hpa0_6 1 _ qa0_6_1 rfl rfl
  obtain ⟨a0_6_1, rfl, wa0_6_1⟩ := typ_strB ta0_6_1 rfl
  have ta0_6_2 := hpa0_6 2 _ qa0_6_2 rfl rfl
  obtain ⟨a0_6_2, rfl, wa0_6_2⟩ := typ_strB ta0_6_2 rfl
  have ta0_7 := hpa0 7 _ qa0_7 rfl rfl
  obtain ⟨a0_7, rfl, wa0_7⟩ := typ_int ta0_7 rfl
  have ta0_8 := hpa0 8 _ qa0_8 rfl rfl
  obtain ⟨a0_8, rfl, wa0_8⟩ := typ_int ta0_8 rfl
  have ta0_9 := hpa0 9 _ qa0_9 rfl rfl
  obtain ⟨a0_9, rfl, wa0_9⟩ := typ_int ta0_9 rfl
  have ta0_10 := hpa0 10 _ qa0_10 rfl rfl
  obtain ⟨a0_10, rfl, wa0_10⟩ := typ_int ta0_10 rfl
  have ta0_11 := hpa0 11 _ qa0_11 rfl rfl
  obtain ⟨a0_11, rfl, wa0_11⟩ := typ_int ta0_11 rfl
  obtain ⟨a1, rfl⟩ := typ_u8 t1 rfl
  obtain ⟨a2, rfl, wa2⟩ := typ_bytesB t2 rfl rfl
  obtain ⟨partsa3, rfl, hla3, hpa3⟩ := typ_struct t3 rfl
  obtain ⟨qa3_0, qa3_1, qa3_2, qa3_3, qa3_4, qa3_5, qa3_6, qa3_7, rfl⟩ : ∃ qa3_0 qa3_1 qa3_2 qa3_3 qa3_4 qa3_5 qa3_6 qa3_7, partsa3 = [qa3_0, qa3_1, qa3_2, qa3_3, qa3_4, qa3_5, qa3_6, qa3_7] := by
    match partsa3, hla3 with
    | [qa3_0, qa3_1, qa3_2, qa3_3, qa3_4, qa3_5, qa3_6, qa3_7], _ => exact ⟨qa3_0, qa3_1, qa3_2, qa3_3, qa3_4, qa3_5, qa3_6, qa3_7, rfl⟩
  have ta3_0 := hpa3 0 _ qa3_0 rfl rfl
  obtain ⟨a3_0, rfl⟩ := typ_u8 ta3_0 rfl
  have ta3_1 := hpa3 1 _ qa3_1 rfl rfl
  obtain ⟨a3_1, rfl⟩ := typ_u8 ta3_1 rfl
  have ta3_2 := hpa3 2 _ qa3_2 rfl rfl
  obtain ⟨a3_2, rfl⟩ := typ_u8 ta3_2 rfl
  have ta3_3 := hpa3 3 _ qa3_3 rfl rfl
  obtain ⟨a3_3, rfl⟩ := typ_u8 ta3_3 rfl
  have ta3_4 := hpa3 4 _ qa3_4 rfl rfl
  obtain ⟨a3_4, rfl, wa3_4⟩ := typ_int ta3_4 rfl
  have ta3_5 := hpa3 5 _ qa3_5 rfl rfl
  obtain ⟨a3_5, rfl, wa3_5⟩ := typ_int ta3_5 rfl
  have ta3_6 := hpa3 6 _ qa3_6 rfl rfl
  obtain ⟨a3_6, rfl⟩ := typ_u8 ta3_6 rfl
  have ta3_7 := hpa3 7 _ qa3_7 rfl rfl
  obtain ⟨a3_7, rfl, wa3_7⟩ := typ_int ta3_7 rfl
  obtain ⟨partsa4, rfl, hla4, hpa4⟩ := typ_struct t4 rfl
  obtain ⟨qa4_0, qa4_1, qa4_2, qa4_3, qa4_4, rfl⟩ : ∃ qa4_0 qa4_1 qa4_2 qa4_3 qa4_4, partsa4 = [qa4_0, qa4_1, qa4_2, qa4_3, qa4_4] := by
    match partsa4, hla4 with
    | [qa4_0, qa4_1, qa4_2, qa4_3, qa4_4], _ => exact ⟨qa4_0, qa4_1, qa4_2, qa4_3, qa4_4, rfl⟩
  have ta4_0 := hpa4 0 _ qa4_0 rfl rfl
  obtain ⟨partsa4_0, rfl, hla4_0, hpa4_0⟩ := typ_struct ta4_0 rfl
  obtain ⟨qa4_0_0, qa4_0_1, qa4_0_2, rfl⟩ : ∃ qa4_0_0 qa4_0_1 qa4_0_2, partsa4_0 = [qa4_0_0, qa4_0_1, qa4_0_2] := by
    match partsa4_0, hla4_0 with
    | [qa4_0_0, qa4_0_1, qa4_0_2], _ => exact ⟨qa4_0_0, qa4_0_1, qa4_0_2, rfl⟩
  have ta4_0_0 := hpa4_0 0 _ qa4_0_0 rfl rfl
  obtain ⟨a4_0_0, rfl, wa4_0_0⟩ := typ_strB ta4_0_0 rfl
  have ta4_0_1 := hpa4_0 1 _ qa4_0_1 rfl rfl
  obtain ⟨a4_0_1, rfl, wa4_0_1⟩ := typ_strB ta4_0_1 rfl
  have ta4_0_2 := hpa4_0 2 _ qa4_0_2 rfl rfl
  obtain ⟨a4_0_2, rfl, wa4_0_2⟩ := typ_strB ta4_0_2 rfl
  have ta4_1 := hpa4 1 _ qa4_1 rfl rfl
  obtain ⟨a4_1, rfl, wa4_1⟩ := typ_int ta4_1 rfl
  have ta4_2 := hpa4 2 _ qa4_2 rfl rfl
  obtain ⟨a4_2, rfl, wa4_2⟩ := typ_int ta4_2 rfl
  have ta4_3 := hpa4 3 _ qa4_3 rfl rfl
  obtain ⟨a4_3, rfl, wa4_3⟩ := typ_int ta4_3 rfl
  have ta4_4 := hpa4 4 _ qa4_4 rfl rfl
  obtain ⟨a4_4, rfl, wa4_4⟩ := typ_bytesB ta4_4 rfl rfl
  obtain ⟨a5, rfl⟩ := typ_u8 t5 rfl
  obtain ⟨a6, rfl⟩ := typ_u8 t6 rfl
  obtain ⟨a7, rfl, wa7⟩ := typ_bytesB t7 rfl rfl
  obtain ⟨a8, rfl, wa8⟩ := typ_int t8 rfl
  obtain ⟨a9, rfl, wa9⟩ := typ_int t9 rfl
  exact calls_of_fn Tryz.func3 rfl rfl (c_ConverterAccepts a0_0_0 a0_0_1 a0_0_2 a0_1 a0_2 a0_3 a0_4_0_0 a0_4_0_1 a0_4_0_2 a0_4_1 wa0_4_1 a0_5 a0_6_0 a0_6_1 a0_6_2 a0_7 a0_8 a0_9 a0_10 a0_11 ⟨wa0_0_0, wa0_0_1, wa0_0_2⟩ ⟨wa0_4_0_0, wa0_4_0_1, wa0_4_0_2⟩ a1 a2 a3_0 a3_1 a3_2 a3_3 a3_4 a3_5 a3_6 a3_7 a4_0_0 a4_0_1 a4_0_2 a4_1 a4_2 a4_3 a4_4 a5 a6 a7 a8 a9 (wf_u16 wa3_4) (wf_u16 wa3_5) (wf_u16 wa3_7) (wf_u16 wa8) (wf_u16 wa9)) (relCs_cons r0 (relCs_cons r1 (relCs_cons r2 (relCs_cons r3 (relCs_cons r4 (relCs_cons r5 (relCs_cons r6 (relCs_cons r7 (relCs_cons r8 (relCs_cons r9 relCs_nil))))))))))

set_option maxRecDepth 100000 in
theorem lifted (os : Os) (started : os.Started) (H : Type) (enc : TypeId × Value → H) :
    ReturnsInHanded {} Tryz.checked os 3 .any (Rows.converterAcceptsSpec.pre6 enc Tryz.prog Tryz.f3 Rows.converterAcceptsRow.domain false) (Rows.converterAcceptsSpec.post enc Tryz.prog Tryz.f3 false true false false) := by
  refine returnsInHanded_of_change (C := Tryz.checked) ownA started (by kernel_rfl) Tryz.func3
    (ChangeSpec.witness6 (enc := enc) (C := Tryz.checked) false ⟨#[], #[.agg #[.string ByteArray.empty, .string ByteArray.empty, .string ByteArray.empty, .int .i64 0, .int .i64 0, .bool false, .string ByteArray.empty, .string ByteArray.empty, .string ByteArray.empty, .slice none 0 0, .int .i64 0, .string ByteArray.empty, .string ByteArray.empty, .string ByteArray.empty, .int .u64 0, .int .i64 0, .int .i64 0, .int .i64 0, .int .i64 0], .int .u8 0, .slice none 0 0, .agg #[.int .u8 0, .int .u8 0, .int .u8 0, .int .u8 0, .int .u16 0, .int .u16 0, .int .u8 0, .int .u16 0], .agg #[.string ByteArray.empty, .string ByteArray.empty, .string ByteArray.empty, .int .u64 0, .int .i64 0, .int .i64 0, .slice none 0 0], .int .u8 0, .int .u8 0, .slice none 0 0, .int .u16 0, .int .u16 0], []⟩ 8 (by kernel_rfl) (by kernel_rfl) (by kernel_rfl) (by kernel_rfl)) ?_
  intro W base args ds gs before hval0 hW hcnd _
  have hval : ∀ (j : Nat) t v, Tryz.f3.params[j]? = some t → args[j]? = some v → Value.okWide Tryz.prog W .any base t v := hval0
  have hW' := hW
  obtain ⟨p, q, hA0, hV, rfl, hfz, hnd⟩ := hW
  have hA : DataW.TrodAll enc Tryz.prog W 0 (fun _ => true) true Tryz.f3.params.toList args.toList ds p := hA0
  rw [Tryz.params3] at hA hval
  obtain ⟨v0, vs0, d0, ds0, p0, q0, hargs, rfl, rfl, h0, r0⟩ := trodAll_cons hA
  obtain ⟨v1, vs1, d1, ds1, p1, q1, rfl, rfl, rfl, h1, r1⟩ := trodAll_cons r0
  obtain ⟨v2, vs2, d2, ds2, p2, q2, rfl, rfl, rfl, h2, r2⟩ := trodAll_cons r1
  obtain ⟨v3, vs3, d3, ds3, p3, q3, rfl, rfl, rfl, h3, r3⟩ := trodAll_cons r2
  obtain ⟨v4, vs4, d4, ds4, p4, q4, rfl, rfl, rfl, h4, r4⟩ := trodAll_cons r3
  obtain ⟨v5, vs5, d5, ds5, p5, q5, rfl, rfl, rfl, h5, r5⟩ := trodAll_cons r4
  obtain ⟨v6, vs6, d6, ds6, p6, q6, rfl, rfl, rfl, h6, r6⟩ := trodAll_cons r5
  obtain ⟨v7, vs7, d7, ds7, p7, q7, rfl, rfl, rfl, h7, r7⟩ := trodAll_cons r6
  obtain ⟨v8, vs8, d8, ds8, p8, q8, rfl, rfl, rfl, h8, r8⟩ := trodAll_cons r7
  obtain ⟨v9, vs9, d9, ds9, p9, q9, rfl, rfl, rfl, h9, r9⟩ := trodAll_cons r8
  obtain ⟨rfl, rfl, rfl⟩ := trodAll_nil r9
  obtain rfl : args = #[v0, v1, v2, v3, v4, v5, v6, v7, v8, v9] := by cases args; simp_all
  obtain ⟨rfl, rfl⟩ := trodVars_none hV
  obtain ⟨ls0, t0, c0⟩ := rel_arg tokA (n := 9) rfl h0 (hval 0 30 v0 rfl rfl)
  obtain ⟨ls1, t1, c1⟩ := rel_arg tokA (n := 9) rfl h1 (hval 1 5 v1 rfl rfl)
  obtain ⟨ls2, t2, c2⟩ := rel_arg tokA (n := 9) rfl h2 (hval 2 31 v2 rfl rfl)
  obtain ⟨ls3, t3, c3⟩ := rel_arg tokA (n := 9) rfl h3 (hval 3 34 v3 rfl rfl)
  obtain ⟨ls4, t4, c4⟩ := rel_arg tokA (n := 9) rfl h4 (hval 4 36 v4 rfl rfl)
  obtain ⟨ls5, t5, c5⟩ := rel_arg tokA (n := 9) rfl h5 (hval 5 5 v5 rfl rfl)
  obtain ⟨ls6, t6, c6⟩ := rel_arg tokA (n := 9) rfl h6 (hval 6 5 v6 rfl rfl)
  obtain ⟨ls7, t7, c7⟩ := rel_arg tokA (n := 9) rfl h7 (hval 7 31 v7 rfl rfl)
  obtain ⟨ls8, t8, c8⟩ := rel_arg tokA (n := 9) rfl h8 (hval 8 32 v8 rfl rfl)
  obtain ⟨ls9, t9, c9⟩ := rel_arg tokA (n := 9) rfl h9 (hval 9 32 v9 rfl rfl)
  have lt0 : ∀ x ∈ p0, x.block < W.heap.size := by obtain ⟨m, hm⟩ := h0; exact DataW.trod_lt m _ _ _ hm
  have lt1 : ∀ x ∈ p1, x.block < W.heap.size := by obtain ⟨m, hm⟩ := h1; exact DataW.trod_lt m _ _ _ hm
  have lt2 : ∀ x ∈ p2, x.block < W.heap.size := by obtain ⟨m, hm⟩ := h2; exact DataW.trod_lt m _ _ _ hm
  have lt3 : ∀ x ∈ p3, x.block < W.heap.size := by obtain ⟨m, hm⟩ := h3; exact DataW.trod_lt m _ _ _ hm
  have lt4 : ∀ x ∈ p4, x.block < W.heap.size := by obtain ⟨m, hm⟩ := h4; exact DataW.trod_lt m _ _ _ hm
  have lt5 : ∀ x ∈ p5, x.block < W.heap.size := by obtain ⟨m, hm⟩ := h5; exact DataW.trod_lt m _ _ _ hm
  have lt6 : ∀ x ∈ p6, x.block < W.heap.size := by obtain ⟨m, hm⟩ := h6; exact DataW.trod_lt m _ _ _ hm
  have lt7 : ∀ x ∈ p7, x.block < W.heap.size := by obtain ⟨m, hm⟩ := h7; exact DataW.trod_lt m _ _ _ hm
  have lt8 : ∀ x ∈ p8, x.block < W.heap.size := by obtain ⟨m, hm⟩ := h8; exact DataW.trod_lt m _ _ _ hm
  have lt9 : ∀ x ∈ p9, x.block < W.heap.size := by obtain ⟨m, hm⟩ := h9; exact DataW.trod_lt m _ _ _ hm
  clear hA0 hval0
  refine (walk W v0 v1 v2 v3 v4 v5 v6 v7 v8 v9 ls0 ls1 ls2 ls3 ls4 ls5 ls6 ls7 ls8 ls9 t0 t1 t2 t3 t4 t5 t6 t7 t8 t9 c0 c1 c2 c3 c4 c5 c6 c7 c8 c9).mono fun e W' ⟨he, bel⟩ => ?_
  subst he
  exact ⟨_, rfl, _, _, _, [], _, [], hW', trodAll_mk1 (shut_bool Tryz.underlying4 _), (trodAll_cons_mk (Below.trod laidOutA (by kernel_rfl) (of_decide_eq_true (by kernel_rfl)) h0 bel lt0) (trodAll_cons_mk (Below.trod laidOutA (by kernel_rfl) (of_decide_eq_true (by kernel_rfl)) h1 bel lt1) (trodAll_cons_mk (Below.trod laidOutA (by kernel_rfl) (of_decide_eq_true (by kernel_rfl)) h2 bel lt2) (trodAll_cons_mk (Below.trod laidOutA (by kernel_rfl) (of_decide_eq_true (by kernel_rfl)) h3 bel lt3) (trodAll_cons_mk (Below.trod laidOutA (by kernel_rfl) (of_decide_eq_true (by kernel_rfl)) h4 bel lt4) (trodAll_cons_mk (Below.trod laidOutA (by kernel_rfl) (of_decide_eq_true (by kernel_rfl)) h5 bel lt5) (trodAll_cons_mk (Below.trod laidOutA (by kernel_rfl) (of_decide_eq_true (by kernel_rfl)) h6 bel lt6) (trodAll_cons_mk (Below.trod laidOutA (by kernel_rfl) (of_decide_eq_true (by kernel_rfl)) h7 bel lt7) (trodAll_cons_mk (Below.trod laidOutA (by kernel_rfl) (of_decide_eq_true (by kernel_rfl)) h8 bel lt8) (trodAll_cons_mk (Below.trod laidOutA (by kernel_rfl) (of_decide_eq_true (by kernel_rfl)) h9 bel lt9) trodAll_mk0)))))))))), rfl, bel.frame _, fun h => by cases h⟩

theorem over : Rows.converterAcceptsRow.holds Tryz.pinned (OpenSpec.ofChange Rows.converterAcceptsSpec) :=
  OpenClaim.holds_of_wide 3 Tryz.f3 rfl rfl rfl rfl rfl rfl rfl ⟨rfl, rfl, rfl, rfl, rfl⟩ rfl rfl rfl rfl rfl (by kernel_rfl) Tryz.func3 (by kernel_rfl)
    (of_decide_eq_true (by kernel_rfl)) (by unfold Func.isWrapper; first | (rw [if_pos (by decide +kernel)]; kernel_rfl) | (rw [if_neg (by decide +kernel)]; exact ⟨rfl, rfl⟩))
    (fun os started H enc _ => lifted os started H enc)
end ConverterAcceptsProof

theorem converterAccepts_proved : Rows.ConverterAcceptsSaid := ConverterAcceptsProof.over
#print axioms converterAccepts_proved
end Go.Proofs.YtmacgikbcednmaaGreat

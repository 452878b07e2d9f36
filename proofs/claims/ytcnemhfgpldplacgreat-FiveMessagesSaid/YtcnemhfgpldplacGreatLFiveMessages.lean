/-
  The statement FiveMessages: the law returns true for every input; no conditions.
-/
import Derived.Test.YtcnemhfgpldplacGreatCFiveKM
import Derived.Test.YtcnemhfgpldplacGreatLOwn
set_option linter.all false
namespace Go.Sx
open Go.Proofs Go.RowKit
noncomputable def g3 : Par := par 143 (nthLL [[1, 2, 3, 4, 5, 6], [1, 2, 3, 4, 5, 6, 26], [12], [1, 2, 3, 4, 5, 6, 46], [12], [1, 2, 3, 4, 5, 6, 13], [1, 2, 3, 4, 5, 6, 13, 48], [1, 2, 3, 4, 5, 6, 13], [1, 2, 3, 4, 5, 6, 13, 14], [1, 2, 3, 4, 5, 6, 13, 14, 15, 16], [1, 2, 3, 4, 5, 6, 13, 14, 15, 16, 17, 18], [1, 2, 3, 4, 5, 6, 13, 14, 16, 17, 96], [12], [1, 2, 3, 4, 5, 6, 13, 14, 16, 17, 19], [1, 2, 3, 4, 5, 6, 13, 14, 16, 17, 19, 98], [1, 2, 3, 4, 5, 6, 13, 14, 16, 17, 19], [1, 2, 3, 4, 5, 6, 13, 14, 16, 17, 19, 20], [1, 2, 3, 4, 5, 6, 13, 14, 16, 17, 19, 20, 21, 22], [1, 2, 3, 4, 5, 6, 13, 14, 16, 17, 19, 21, 22, 23, 24], [1, 2, 3, 4, 5, 6, 13, 14, 16, 17, 19, 142], [12], [12]]) [12] (nthLL [[], [], [], [], [], [], [], [], [0, 0, 2, 6, 0, 16, 48, 0, 254, 0, 512, 1536, 3584, 0, 8192, 24688, 0, 65536, 196608, 458752, 983040, 2096752, 4194303, 0, 16777215, 33554431, 0, 134217727]])
set_option maxRecDepth 10000
set_option maxHeartbeats 32000000
theorem c_FiveMessages (rop : Int) (n1 n2 n3 bx : List UInt8) (op who : UInt8) (box oth : List UInt8) (h : Int) (hh : 0 ≤ h ∧ h ≤ 65535) : Fn Tryz.prog 3 [.a [.i .i64 rop, .s n1, .s n2, .s n3, .sl (bx.map u8) bx.length], .o (.i .u8 (op.toNat : Int)), .o (.i .u8 (who.toNat : Int)), .o (.sl (box.map u8) box.length), .o (.sl (oth.map u8) oth.length), .o (.i .u16 h)] [] (.one (.c (.o (.b true)))) [] := by
  have ha := byte_lt op
  have hb := byte_lt who
  have cl := c_long25_1 n1 n2 n3
  refine Fn_intro (G := g3) (goodA rfl) (fn := Tryz.f3) rfl rfl rfl rfl rfl ?_
  by_cases hlong : (n1.length > 100 ∨ n2.length > 100 ∨ n3.length > 100) ∨ bx.length > 1100 ∨ box.length > 900 ∨ oth.length > 400
  · (repeat' ((conv => whnf) <;> first | exact rfl | with_reducible refine boolK_dec (fun _ => ?_) (fun _ => ?_) <;> try (exfalso; omega) | refine boolK_beq (fun _ => ?_) (fun _ => ?_) <;> try (exfalso; first | omega | with_reducible contradiction) | refine boolK_bne (fun _ => ?_) (fun _ => ?_) <;> try (exfalso; first | omega | with_reducible contradiction) | (with_reducible first | refine boolK_not ?_ | refine boolK_and ?_ | refine boolK_or ?_ | refine boolK_true ?_ | refine boolK_false ?_) | refine boolK_intro (fun _ => ?_) (fun _ => ?_) <;> try (exfalso; simp_all; done) | refine jA ?_ | refine jB ?_ | refine jC ?_ | refine jD ?_ | refine jE ?_ | refine jF ?_ | refine jG ?_ | refine jH ?_ | refine jI ?_ | refine jJ ?_ | refine jK ?_ | with_reducible refine natK_lit ?_ | refine natK_of rfl ?_ | refine natK_any ?_ | refine jO ?_ | refine jP ?_ | refine jQ ?_ | refine jR ?_ | refine jS ?_ | refine jT ?_ | refine jU (fun _ => ?_) | refine jV ?_ | refine jW ?_ | refine jX ?_ | refine jY ?_ | refine jZ ?_ | refine ja ?_ | refine jb ?_ | refine jc ?_ | refine jd ?_ | refine je ?_ | refine jf ?_ | refine jg ?_ | refine jh ?_ | refine ji ?_ | refine jj ?_ | refine jk ?_ | refine jn ?_ | refine jo ?_ | refine jp ?_ | refine jq ?_ | refine jr ?_ | refine js ?_ | refine callK_intro (c_awake25) ?_ | refine callK_intro (cl) ?_ | refine jt ?_ | refine jx ?_ | refine jy ?_ | refine ju ?_ | refine jv ?_)) <;> (try (conv => whnf))
    all_goals (exfalso; omega)
  have f3 : n1.length ≤ 100 ∧ n2.length ≤ 100 ∧ n3.length ≤ 100 ∧ bx.length ≤ 1100 ∧ box.length ≤ 900 ∧ oth.length ≤ 400 := by omega
  rw [decide_eq_false (by omega)] at cl
  clear hlong
  obtain ⟨D0, d0, x1, x2⟩ := decM5 oth (by omega)
  have cU := c_User (who.toNat : Int) (by omega)
  have U : ∀ n : Int, (userN n).length ≤ 3 := fun n => by unfold userN; split <;> (try split) <;> decide
  have T : ∀ n : Int, (realmN n).length ≤ 3 := fun n => by unfold realmN; split <;> (try split) <;> decide
  have U1 := U (who.toNat : Int)
  have T1 := T ((who.toNat : Int) / 3)
  have hZ : rep [cz (L.i .u8 0)] (1011 + h % 3).toNat = (List.replicate (1011 + h % 3).toNat (0 : UInt8)).map u8 := rep_u8 0 _
  clear U T
  generalize userN (who.toNat : Int) = Uw at *
  generalize realmN ((who.toNat : Int) / 3) = Rw at *
  (repeat' ((conv => whnf) <;> first | exact rfl | with_reducible refine boolK_dec (fun _ => ?_) (fun _ => ?_) <;> try (exfalso; omega) | refine boolK_beq (fun _ => ?_) (fun _ => ?_) <;> try (exfalso; first | omega | with_reducible contradiction) | refine boolK_bne (fun _ => ?_) (fun _ => ?_) <;> try (exfalso; first | omega | with_reducible contradiction) | (with_reducible first | refine boolK_not ?_ | refine boolK_and ?_ | refine boolK_or ?_ | refine boolK_true ?_ | refine boolK_false ?_) | refine boolK_intro (fun _ => ?_) (fun _ => ?_) <;> try (exfalso; simp_all; done) | refine jA ?_ | refine jB ?_ | refine jC ?_ | refine jD ?_ | refine jE ?_ | refine jF ?_ | refine jG ?_ | refine jH ?_ | refine jI ?_ | refine jJ ?_ | refine jK ?_ | with_reducible refine natK_lit ?_ | refine natK_of rfl ?_ | refine natK_any ?_ | refine jO ?_ | refine jP ?_ | refine jQ ?_ | refine jR ?_ | refine jS ?_ | refine jT ?_ | refine jU (fun _ => ?_) | refine jV ?_ | refine jW ?_ | refine jX ?_ | refine jY ?_ | refine jZ ?_ | refine ja ?_ | refine jb ?_ | refine jc ?_ | refine jd ?_ | refine je ?_ | refine jf ?_ | refine jg ?_ | refine jh ?_ | refine ji ?_ | refine jj ?_ | refine jk ?_ | refine jn ?_ | refine jo ?_ | refine jp ?_ | refine jq ?_ | refine jr ?_ | refine js ?_ | refine callK_intro (c_awake25) ?_ | refine callK_intro (cl) ?_ | refine jt ?_ | refine jx ?_ | refine jy ?_ | refine ju ?_ | refine jv ?_)) <;> (try (conv => whnf))
  refine loopK_inv (G := g3) (fun n stt => ∃ i : Nat, n + i = 3 ∧ stt = ⟨[(1, .c (.o (.i .u8 (op.toNat : Int)))), (2, .c (.o (.i .u8 (who.toNat : Int)))), (3, .c (.o (.sl (box.map u8) box.length))), (4, .c (.o (.sl (oth.map u8) oth.length))), (5, .c (.o (.i .u16 h))), (6, .c (.o (.p 6 0))), (13, .c (.o (.i .i64 (i : Int))))], [(6, .st [.i .i64 rop, .s n1, .s n2, .s n3, .sl (bx.map u8) bx.length])]⟩) (n := 3) ⟨0, by omega, rfl⟩ ?_
  rintro n stt ⟨i, hi, rfl⟩
  by_cases h3 : i = 3
  · subst h3
    (repeat' ((conv => whnf) <;> first | exact rfl | with_reducible refine boolK_dec (fun _ => ?_) (fun _ => ?_) <;> try (exfalso; omega) | refine boolK_beq (fun _ => ?_) (fun _ => ?_) <;> try (exfalso; first | omega | with_reducible contradiction) | refine boolK_bne (fun _ => ?_) (fun _ => ?_) <;> try (exfalso; first | omega | with_reducible contradiction) | (with_reducible first | refine boolK_not ?_ | refine boolK_and ?_ | refine boolK_or ?_ | refine boolK_true ?_ | refine boolK_false ?_) | refine boolK_intro (fun _ => ?_) (fun _ => ?_) <;> try (exfalso; simp_all; done) | refine jA ?_ | refine jB ?_ | refine jC ?_ | refine jD ?_ | refine jE ?_ | refine jF ?_ | refine jG ?_ | refine jH ?_ | refine jI ?_ | refine jJ ?_ | refine jK ?_ | with_reducible refine natK_lit ?_ | refine natK_of rfl ?_ | refine natK_any ?_ | refine jO ?_ | refine jP ?_ | refine jQ ?_ | refine jR ?_ | refine jS ?_ | refine jT ?_ | refine jU (fun _ => ?_) | refine jV ?_ | refine jW ?_ | refine jX ?_ | refine jY ?_ | refine jZ ?_ | refine ja ?_ | refine jb ?_ | refine jc ?_ | refine jd ?_ | refine je ?_ | refine jf ?_ | refine jg ?_ | refine jh ?_ | refine ji ?_ | refine jj ?_ | refine jk ?_ | refine jn ?_ | refine jo ?_ | refine jp ?_ | refine jq ?_ | refine jr ?_ | refine js ?_ | refine jt ?_ | refine jx ?_ | refine jy ?_ | refine ju ?_ | refine jv ?_)) <;> (try (conv => whnf))
  by_cases h0 : i = 0
  · subst h0
    obtain ⟨B, e, hB, m1, m2, m3⟩ := msg5 rop n1 n2 n3 bx (by omega)
    obtain ⟨Y, hY, y1⟩ := c_Spoil B (m := B.length) rfl (by omega) h hh
    obtain ⟨D1, d1, a1, a2⟩ := decM5 Y (by omega)
    rcases m3 with ⟨rfl, m4, m5⟩ | ⟨he, Q1, f1, m4, m5⟩
    · (repeat' ((conv => whnf) <;> first | with_reducible refine boolK_refl ?_ | refine natK_of (j := 0) (by omega) ?_ | refine natK_of (j := 1) (by omega) ?_ | refine natK_of (j := 2) (by omega) ?_ | exact rfl | with_reducible refine boolK_dec (fun _ => ?_) (fun _ => ?_) <;> try (exfalso; omega) | refine boolK_beq (fun _ => ?_) (fun _ => ?_) <;> try (exfalso; first | omega | with_reducible contradiction) | refine boolK_bne (fun _ => ?_) (fun _ => ?_) <;> try (exfalso; first | omega | with_reducible contradiction) | (with_reducible first | refine boolK_not ?_ | refine boolK_and ?_ | refine boolK_or ?_ | refine boolK_true ?_ | refine boolK_false ?_) | refine boolK_intro (fun _ => ?_) (fun _ => ?_) <;> try (exfalso; simp_all; done) | refine jA ?_ | refine jB ?_ | refine jC ?_ | refine jD ?_ | refine jE ?_ | refine jF ?_ | refine jG ?_ | refine jH ?_ | refine jI ?_ | refine jJ ?_ | refine jK ?_ | with_reducible refine natK_lit ?_ | refine natK_of rfl ?_ | refine natK_any ?_ | refine jO ?_ | refine jP ?_ | refine jQ ?_ | refine jR ?_ | refine jS ?_ | refine jT ?_ | refine jU (fun _ => ?_) | refine jV ?_ | refine jW ?_ | refine jX ?_ | refine jY ?_ | refine jZ ?_ | refine ja ?_ | refine jb ?_ | refine jc ?_ | refine jd ?_ | refine je ?_ | refine jf ?_ | refine jg ?_ | refine jh ?_ | refine ji ?_ | refine jj ?_ | refine jk ?_ | refine jn ?_ | refine jo ?_ | refine jp ?_ | refine jq ?_ | refine jr ?_ | refine js ?_ | refine callK_intro (cU) ?_ | refine callK_intro (m1) ?_ | refine callK_intro (m2) ?_ | refine callK_intro (y1) ?_ | refine callK_intro (m4) ?_ | refine callK_intro (m5) ?_ | refine callK_intro (a1) ?_ | refine callK_intro (a2) ?_ | refine callK_intro (x1) ?_ | refine callK_intro (x2) ?_ | refine callK_intro (c_sameMsg _ _ _ _ _ rfl rfl) ?_ | exact ⟨n - 1, by omega, 1, by omega, rfl⟩ | refine loopK_step (G := g3) ?_ | refine jt ?_ | refine jx ?_ | refine jy ?_ | refine ju ?_ | refine jv ?_)) <;> (try (conv => whnf))
    · (repeat' ((conv => whnf) <;> first | with_reducible refine boolK_refl ?_ | refine natK_of (j := 0) (by omega) ?_ | refine natK_of (j := 1) (by omega) ?_ | refine natK_of (j := 2) (by omega) ?_ | exact rfl | with_reducible refine boolK_dec (fun _ => ?_) (fun _ => ?_) <;> try (exfalso; omega) | refine boolK_beq (fun _ => ?_) (fun _ => ?_) <;> try (exfalso; first | omega | with_reducible contradiction) | refine boolK_bne (fun _ => ?_) (fun _ => ?_) <;> try (exfalso; first | omega | with_reducible contradiction) | (with_reducible first | refine boolK_not ?_ | refine boolK_and ?_ | refine boolK_or ?_ | refine boolK_true ?_ | refine boolK_false ?_) | refine boolK_intro (fun _ => ?_) (fun _ => ?_) <;> try (exfalso; simp_all; done) | refine jA ?_ | refine jB ?_ | refine jC ?_ | refine jD ?_ | refine jE ?_ | refine jF ?_ | refine jG ?_ | refine jH ?_ | refine jI ?_ | refine jJ ?_ | refine jK ?_ | with_reducible refine natK_lit ?_ | refine natK_of rfl ?_ | refine natK_any ?_ | refine jO ?_ | refine jP ?_ | refine jQ ?_ | refine jR ?_ | refine jS ?_ | refine jT ?_ | refine jU (fun _ => ?_) | refine jV ?_ | refine jW ?_ | refine jX ?_ | refine jY ?_ | refine jZ ?_ | refine ja ?_ | refine jb ?_ | refine jc ?_ | refine jd ?_ | refine je ?_ | refine jf ?_ | refine jg ?_ | refine jh ?_ | refine ji ?_ | refine jj ?_ | refine jk ?_ | refine jn ?_ | refine jo ?_ | refine jp ?_ | refine jq ?_ | refine jr ?_ | refine js ?_ | refine callK_intro (cU) ?_ | refine callK_intro (m1) ?_ | refine callK_intro (m2) ?_ | refine callK_intro (y1) ?_ | refine callK_intro (m4) ?_ | refine callK_intro (m5) ?_ | refine callK_intro (a1) ?_ | refine callK_intro (a2) ?_ | refine callK_intro (x1) ?_ | refine callK_intro (x2) ?_ | refine callK_intro (c_sameMsg _ _ _ _ _ rfl rfl) ?_ | exact ⟨n - 1, by omega, 1, by omega, rfl⟩ | refine loopK_step (G := g3) ?_ | refine jt ?_ | refine jx ?_ | refine jy ?_ | refine ju ?_ | refine jv ?_)) <;> (try (conv => whnf))
  by_cases h1 : i = 1
  · subst h1
    obtain ⟨B, e, hB, m1, m2, m3⟩ := msg5 ((op.toNat : Int) % 5) Uw [] Rw box (by simp only [List.length_nil]; omega)
    obtain ⟨Y, hY, y1⟩ := c_Spoil B (m := B.length) rfl (by omega) h hh
    obtain ⟨D1, d1, a1, a2⟩ := decM5 Y (by omega)
    rcases m3 with ⟨rfl, m4, m5⟩ | ⟨he, Q1, f1, m4, m5⟩
    · (repeat' ((conv => whnf) <;> first | with_reducible refine boolK_refl ?_ | refine natK_of (j := 0) (by omega) ?_ | refine natK_of (j := 1) (by omega) ?_ | refine natK_of (j := 2) (by omega) ?_ | exact rfl | with_reducible refine boolK_dec (fun _ => ?_) (fun _ => ?_) <;> try (exfalso; omega) | refine boolK_beq (fun _ => ?_) (fun _ => ?_) <;> try (exfalso; first | omega | with_reducible contradiction) | refine boolK_bne (fun _ => ?_) (fun _ => ?_) <;> try (exfalso; first | omega | with_reducible contradiction) | (with_reducible first | refine boolK_not ?_ | refine boolK_and ?_ | refine boolK_or ?_ | refine boolK_true ?_ | refine boolK_false ?_) | refine boolK_intro (fun _ => ?_) (fun _ => ?_) <;> try (exfalso; simp_all; done) | refine jA ?_ | refine jB ?_ | refine jC ?_ | refine jD ?_ | refine jE ?_ | refine jF ?_ | refine jG ?_ | refine jH ?_ | refine jI ?_ | refine jJ ?_ | refine jK ?_ | with_reducible refine natK_lit ?_ | refine natK_of rfl ?_ | refine natK_any ?_ | refine jO ?_ | refine jP ?_ | refine jQ ?_ | refine jR ?_ | refine jS ?_ | refine jT ?_ | refine jU (fun _ => ?_) | refine jV ?_ | refine jW ?_ | refine jX ?_ | refine jY ?_ | refine jZ ?_ | refine ja ?_ | refine jb ?_ | refine jc ?_ | refine jd ?_ | refine je ?_ | refine jf ?_ | refine jg ?_ | refine jh ?_ | refine ji ?_ | refine jj ?_ | refine jk ?_ | refine jn ?_ | refine jo ?_ | refine jp ?_ | refine jq ?_ | refine jr ?_ | refine js ?_ | refine callK_intro (cU) ?_ | refine callK_intro (m1) ?_ | refine callK_intro (m2) ?_ | refine callK_intro (y1) ?_ | refine callK_intro (m4) ?_ | refine callK_intro (m5) ?_ | refine callK_intro (a1) ?_ | refine callK_intro (a2) ?_ | refine callK_intro (x1) ?_ | refine callK_intro (x2) ?_ | refine callK_intro (c_sameMsg _ _ _ _ _ rfl rfl) ?_ | exact ⟨n - 1, by omega, 2, by omega, rfl⟩ | refine loopK_step (G := g3) ?_ | refine jt ?_ | refine jx ?_ | refine jy ?_ | refine ju ?_ | refine jv ?_)) <;> (try (conv => whnf))
    · (repeat' ((conv => whnf) <;> first | with_reducible refine boolK_refl ?_ | refine natK_of (j := 0) (by omega) ?_ | refine natK_of (j := 1) (by omega) ?_ | refine natK_of (j := 2) (by omega) ?_ | exact rfl | with_reducible refine boolK_dec (fun _ => ?_) (fun _ => ?_) <;> try (exfalso; omega) | refine boolK_beq (fun _ => ?_) (fun _ => ?_) <;> try (exfalso; first | omega | with_reducible contradiction) | refine boolK_bne (fun _ => ?_) (fun _ => ?_) <;> try (exfalso; first | omega | with_reducible contradiction) | (with_reducible first | refine boolK_not ?_ | refine boolK_and ?_ | refine boolK_or ?_ | refine boolK_true ?_ | refine boolK_false ?_) | refine boolK_intro (fun _ => ?_) (fun _ => ?_) <;> try (exfalso; simp_all; done) | refine jA ?_ | refine jB ?_ | refine jC ?_ | refine jD ?_ | refine jE ?_ | refine jF ?_ | refine jG ?_ | refine jH ?_ | refine jI ?_ | refine jJ ?_ | refine jK ?_ | with_reducible refine natK_lit ?_ | refine natK_of rfl ?_ | refine natK_any ?_ | refine jO ?_ | refine jP ?_ | refine jQ ?_ | refine jR ?_ | refine jS ?_ | refine jT ?_ | refine jU (fun _ => ?_) | refine jV ?_ | refine jW ?_ | refine jX ?_ | refine jY ?_ | refine jZ ?_ | refine ja ?_ | refine jb ?_ | refine jc ?_ | refine jd ?_ | refine je ?_ | refine jf ?_ | refine jg ?_ | refine jh ?_ | refine ji ?_ | refine jj ?_ | refine jk ?_ | refine jn ?_ | refine jo ?_ | refine jp ?_ | refine jq ?_ | refine jr ?_ | refine js ?_ | refine callK_intro (cU) ?_ | refine callK_intro (m1) ?_ | refine callK_intro (m2) ?_ | refine callK_intro (y1) ?_ | refine callK_intro (m4) ?_ | refine callK_intro (m5) ?_ | refine callK_intro (a1) ?_ | refine callK_intro (a2) ?_ | refine callK_intro (x1) ?_ | refine callK_intro (x2) ?_ | refine callK_intro (c_sameMsg _ _ _ _ _ rfl rfl) ?_ | exact ⟨n - 1, by omega, 2, by omega, rfl⟩ | refine loopK_step (G := g3) ?_ | refine jt ?_ | refine jx ?_ | refine jy ?_ | refine ju ?_ | refine jv ?_)) <;> (try (conv => whnf))
  by_cases h2 : i = 2
  · subst h2
    obtain ⟨B, e, hB, m1, m2, m3⟩ := msg5 (1 + (op.toNat : Int) % 3) Uw [] Rw (List.replicate (1011 + h % 3).toNat (0 : UInt8)) (by simp only [List.length_nil, List.length_replicate]; omega)
    obtain ⟨Y, hY, y1⟩ := c_Spoil B (m := B.length) rfl (by omega) h hh
    obtain ⟨D1, d1, a1, a2⟩ := decM5 Y (by omega)
    rw [List.length_replicate, ← hZ] at m1 m2 m3
    have sP := c_sameMsg (1 + (op.toNat : Int) % 3) Uw [] Rw (List.replicate (1011 + h % 3).toNat (0 : UInt8)) (m := (1011 + h % 3).toNat) (n := (1011 + h % 3).toNat) (by rw [List.length_replicate]) (by rw [List.length_replicate])
    rw [← hZ] at sP
    rcases m3 with ⟨rfl, m4, m5⟩ | ⟨he, Q1, f1, m4, m5⟩
    · (repeat' ((conv => whnf) <;> first | with_reducible refine boolK_refl ?_ | refine natK_of (j := 0) (by omega) ?_ | refine natK_of (j := 1) (by omega) ?_ | refine natK_of (j := 2) (by omega) ?_ | exact rfl | with_reducible refine boolK_dec (fun _ => ?_) (fun _ => ?_) <;> try (exfalso; omega) | refine boolK_beq (fun _ => ?_) (fun _ => ?_) <;> try (exfalso; first | omega | with_reducible contradiction) | refine boolK_bne (fun _ => ?_) (fun _ => ?_) <;> try (exfalso; first | omega | with_reducible contradiction) | (with_reducible first | refine boolK_not ?_ | refine boolK_and ?_ | refine boolK_or ?_ | refine boolK_true ?_ | refine boolK_false ?_) | refine boolK_intro (fun _ => ?_) (fun _ => ?_) <;> try (exfalso; simp_all; done) | refine jA ?_ | refine jB ?_ | refine jC ?_ | refine jD ?_ | refine jE ?_ | refine jF ?_ | refine jG ?_ | refine jH ?_ | refine jI ?_ | refine jJ ?_ | refine jK ?_ | with_reducible refine natK_lit ?_ | refine natK_of rfl ?_ | refine natK_any ?_ | refine jO ?_ | refine jP ?_ | refine jQ ?_ | refine jR ?_ | refine jS ?_ | refine jT ?_ | refine jU (fun _ => ?_) | refine jV ?_ | refine jW ?_ | refine jX ?_ | refine jY ?_ | refine jZ ?_ | refine ja ?_ | refine jb ?_ | refine jc ?_ | refine jd ?_ | refine je ?_ | refine jf ?_ | refine jg ?_ | refine jh ?_ | refine ji ?_ | refine jj ?_ | refine jk ?_ | refine jn ?_ | refine jo ?_ | refine jp ?_ | refine jq ?_ | refine jr ?_ | refine js ?_ | refine callK_intro (cU) ?_ | refine callK_intro (m1) ?_ | refine callK_intro (m2) ?_ | refine callK_intro (y1) ?_ | refine callK_intro (m4) ?_ | refine callK_intro (m5) ?_ | refine callK_intro (a1) ?_ | refine callK_intro (a2) ?_ | refine callK_intro (x1) ?_ | refine callK_intro (x2) ?_ | refine callK_intro (c_sameMsg _ _ _ _ _ rfl rfl) ?_ | refine callK_intro (sP) ?_ | exact ⟨n - 1, by omega, 3, by omega, rfl⟩ | refine loopK_step (G := g3) ?_ | refine jt ?_ | refine jx ?_ | refine jy ?_ | refine ju ?_ | refine jv ?_)) <;> (try (conv => whnf))
    · (repeat' ((conv => whnf) <;> first | with_reducible refine boolK_refl ?_ | refine natK_of (j := 0) (by omega) ?_ | refine natK_of (j := 1) (by omega) ?_ | refine natK_of (j := 2) (by omega) ?_ | exact rfl | with_reducible refine boolK_dec (fun _ => ?_) (fun _ => ?_) <;> try (exfalso; omega) | refine boolK_beq (fun _ => ?_) (fun _ => ?_) <;> try (exfalso; first | omega | with_reducible contradiction) | refine boolK_bne (fun _ => ?_) (fun _ => ?_) <;> try (exfalso; first | omega | with_reducible contradiction) | (with_reducible first | refine boolK_not ?_ | refine boolK_and ?_ | refine boolK_or ?_ | refine boolK_true ?_ | refine boolK_false ?_) | refine boolK_intro (fun _ => ?_) (fun _ => ?_) <;> try (exfalso; simp_all; done) | refine jA ?_ | refine jB ?_ | refine jC ?_ | refine jD ?_ | refine jE ?_ | refine jF ?_ | refine jG ?_ | refine jH ?_ | refine jI ?_ | refine jJ ?_ | refine jK ?_ | with_reducible refine natK_lit ?_ | refine natK_of rfl ?_ | refine natK_any ?_ | refine jO ?_ | refine jP ?_ | refine jQ ?_ | refine jR ?_ | refine jS ?_ | refine jT ?_ | refine jU (fun _ => ?_) | refine jV ?_ | refine jW ?_ | refine jX ?_ | refine jY ?_ | refine jZ ?_ | refine ja ?_ | refine jb ?_ | refine jc ?_ | refine jd ?_ | refine je ?_ | refine jf ?_ | refine jg ?_ | refine jh ?_ | refine ji ?_ | refine jj ?_ | refine jk ?_ | refine jn ?_ | refine jo ?_ | refine jp ?_ | refine jq ?_ | refine jr ?_ | refine js ?_ | refine callK_intro (cU) ?_ | refine callK_intro (m1) ?_ | refine callK_intro (m2) ?_ | refine callK_intro (y1) ?_ | refine callK_intro (m4) ?_ | refine callK_intro (m5) ?_ | refine callK_intro (a1) ?_ | refine callK_intro (a2) ?_ | refine callK_intro (x1) ?_ | refine callK_intro (x2) ?_ | refine callK_intro (c_sameMsg _ _ _ _ _ rfl rfl) ?_ | refine callK_intro (sP) ?_ | exact ⟨n - 1, by omega, 3, by omega, rfl⟩ | refine loopK_step (G := g3) ?_ | refine jt ?_ | refine jx ?_ | refine jy ?_ | refine ju ?_ | refine jv ?_)) <;> (try (conv => whnf))
  exfalso; omega
end Go.Sx
namespace Go.Proofs.YtcnemhfgpldplacGreat
open Go.ChangeShapes Go.WideShapes Go.ChangeAt Go.RowKit Go.Sx
namespace FiveMessagesProof
set_option maxRecDepth 100000 in
theorem walk (W : World) (v0 v1 v2 v3 v4 v5 : Value) (ls0 ls1 ls2 ls3 ls4 ls5 : List L)
    (t0 : Typ (tabF tab) 26 ls0) (t1 : Typ (tabF tab) 5 ls1) (t2 : Typ (tabF tab) 5 ls2) (t3 : Typ (tabF tab) 24 ls3) (t4 : Typ (tabF tab) 24 ls4) (t5 : Typ (tabF tab) 27 ls5)
    (r0 : RelC (fun _ => False) W noMu (argC (tabF tab 26).agg ls0) v0) (r1 : RelC (fun _ => False) W noMu (argC (tabF tab 5).agg ls1) v1) (r2 : RelC (fun _ => False) W noMu (argC (tabF tab 5).agg ls2) v2) (r3 : RelC (fun _ => False) W noMu (argC (tabF tab 24).agg ls3) v3) (r4 : RelC (fun _ => False) W noMu (argC (tabF tab 24).agg ls4) v4) (r5 : RelC (fun _ => False) W noMu (argC (tabF tab 27).agg ls5) v5) :
    Calls Tryz.prog 3 #[v0, v1, v2, v3, v4, v5] W fun e w' => e = .returned (.bool true) ∧ Below W.heap.size W w' := by
  obtain ⟨partsa0, rfl, hla0, hpa0⟩ := typ_struct t0 rfl
  obtain ⟨qa0_0, qa0_1, qa0_2, rfl⟩ : ∃ qa0_0 qa0_1 qa0_2, partsa0 = [qa0_0, qa0_1, qa0_2] := by
    match partsa0, hla0 with
    | [qa0_0, qa0_1, qa0_2], _ => exact ⟨qa0_0, qa0_1, qa0_2, rfl⟩
  have ta0_0 := hpa0 0 _ qa0_0 rfl rfl
  obtain ⟨a0_0, rfl, wa0_0⟩ := typ_int ta0_0 rfl
  have ta0_1 := hpa0 1 _ qa0_1 rfl rfl
  obtain ⟨partsa0_1, rfl, hla0_1, hpa0_1⟩ := typ_struct ta0_1 rfl
  obtain ⟨qa0_1_0, qa0_1_1, qa0_1_2, rfl⟩ : ∃ qa0_1_0 qa0_1_1 qa0_1_2, partsa0_1 = [qa0_1_0, qa0_1_1, qa0_1_2] := by
    match partsa0_1, hla0_1 with
    | [qa0_1_0, qa0_1_1, qa0_1_2], _ => exact ⟨qa0_1_0, qa0_1_1, qa0_1_2, rfl⟩
  have ta0_1_0 := hpa0_1 0 _ qa0_1_0 rfl rfl
  obtain ⟨a0_1_0, rfl, wa0_1_0⟩ := typ_strB ta0_1_0 rfl
  have ta0_1_1 := hpa0_1 1 _ qa0_1_1 rfl rfl
  obtain ⟨a0_1_1, rfl, wa0_1_1⟩ := typ_strB ta0_1_1 rfl
  have ta0_1_2 := hpa0_1 2 _ qa0_1_2 rfl rfl
  obtain ⟨a0_1_2, rfl, wa0_1_2⟩ := typ_strB ta0_1_2 rfl
  have ta0_2 := hpa0 2 _ qa0_2 rfl rfl
  obtain ⟨a0_2, rfl, wa0_2⟩ := typ_bytesB ta0_2 rfl rfl
  obtain ⟨a1, rfl⟩ := typ_u8 t1 rfl
  obtain ⟨a2, rfl⟩ := typ_u8 t2 rfl
  obtain ⟨a3, rfl, wa3⟩ := typ_bytesB t3 rfl rfl
  obtain ⟨a4, rfl, wa4⟩ := typ_bytesB t4 rfl rfl
  obtain ⟨a5, rfl, wa5⟩ := typ_int t5 rfl
  exact calls_of_fn Tryz.func3 rfl rfl (c_FiveMessages a0_0 a0_1_0 a0_1_1 a0_1_2 a0_2 a1 a2 a3 a4 a5 (wf_u16 wa5)) (relCs_cons r0 (relCs_cons r1 (relCs_cons r2 (relCs_cons r3 (relCs_cons r4 (relCs_cons r5 relCs_nil))))))

set_option maxRecDepth 100000 in
theorem lifted (os : Os) (started : os.Started) (H : Type) (enc : TypeId × Value → H) :
    ReturnsInHanded {} Tryz.checked os 3 .any (Rows.fiveMessagesSpec.pre6 enc Tryz.prog Tryz.f3 Rows.fiveMessagesRow.domain false) (Rows.fiveMessagesSpec.post enc Tryz.prog Tryz.f3 false true false false) := by
  refine returnsInHanded_of_change (C := Tryz.checked) ownA started (by kernel_rfl) Tryz.func3
    (ChangeSpec.witness6 (enc := enc) (C := Tryz.checked) false ⟨#[], #[.agg #[.int .i64 0, .string ByteArray.empty, .string ByteArray.empty, .string ByteArray.empty, .slice none 0 0], .int .u8 0, .int .u8 0, .slice none 0 0, .slice none 0 0, .int .u16 0], []⟩ 8 (by kernel_rfl) (by kernel_rfl) (by kernel_rfl) (by kernel_rfl)) ?_
  intro W base args ds gs before hval0 hW hcnd _
  have hval : ∀ (j : Nat) t v, Tryz.f3.params[j]? = some t → args[j]? = some v → Value.okWide Tryz.prog W .any base t v := hval0
  have hW' := hW
  obtain ⟨p, q, hA0, hV, rfl, hfz, hnd⟩ := hW
  have hA : DataW.TrodAll enc Tryz.prog W 0 (fun _ => true) true Tryz.f3.params.toList args.toList ds p := hA0
  rw [Tryz.params3] at hA hval
  obtain ⟨v0, vs0, d0, ds0, p0, q0, hargs, rfl, rfl, h0, r0⟩ := trodAll_cons hA
  obtain ⟨v1, vs1, d1, ds1, p1, q1, rfl, rfl, rfl, h1, r1⟩ := trodAll_cons r0
  obtain ⟨v2, vs2, d2, ds2, p2, q2, rfl, rfl, rfl, h2, r2⟩ := trodAll_cons r1
  obtain ⟨v3, vs3, d3, ds3, p3, q3, rfl, rfl, rfl, h3, r3⟩ := trodAll_cons r2
  obtain ⟨v4, vs4, d4, ds4, p4, q4, rfl, rfl, rfl, h4, r4⟩ := trodAll_cons r3
  obtain ⟨v5, vs5, d5, ds5, p5, q5, rfl, rfl, rfl, h5, r5⟩ := trodAll_cons r4
  obtain ⟨rfl, rfl, rfl⟩ := trodAll_nil r5
  obtain rfl : args = #[v0, v1, v2, v3, v4, v5] := by cases args; simp_all
  obtain ⟨rfl, rfl⟩ := trodVars_none hV
  obtain ⟨ls0, t0, c0⟩ := rel_arg tokA (n := 9) rfl h0 (hval 0 26 v0 rfl rfl)
  obtain ⟨ls1, t1, c1⟩ := rel_arg tokA (n := 9) rfl h1 (hval 1 5 v1 rfl rfl)
  obtain ⟨ls2, t2, c2⟩ := rel_arg tokA (n := 9) rfl h2 (hval 2 5 v2 rfl rfl)
  obtain ⟨ls3, t3, c3⟩ := rel_arg tokA (n := 9) rfl h3 (hval 3 24 v3 rfl rfl)
  obtain ⟨ls4, t4, c4⟩ := rel_arg tokA (n := 9) rfl h4 (hval 4 24 v4 rfl rfl)
  obtain ⟨ls5, t5, c5⟩ := rel_arg tokA (n := 9) rfl h5 (hval 5 27 v5 rfl rfl)
  have lt0 : ∀ x ∈ p0, x.block < W.heap.size := by obtain ⟨m, hm⟩ := h0; exact DataW.trod_lt m _ _ _ hm
  have lt1 : ∀ x ∈ p1, x.block < W.heap.size := by obtain ⟨m, hm⟩ := h1; exact DataW.trod_lt m _ _ _ hm
  have lt2 : ∀ x ∈ p2, x.block < W.heap.size := by obtain ⟨m, hm⟩ := h2; exact DataW.trod_lt m _ _ _ hm
  have lt3 : ∀ x ∈ p3, x.block < W.heap.size := by obtain ⟨m, hm⟩ := h3; exact DataW.trod_lt m _ _ _ hm
  have lt4 : ∀ x ∈ p4, x.block < W.heap.size := by obtain ⟨m, hm⟩ := h4; exact DataW.trod_lt m _ _ _ hm
  have lt5 : ∀ x ∈ p5, x.block < W.heap.size := by obtain ⟨m, hm⟩ := h5; exact DataW.trod_lt m _ _ _ hm
  clear hA0 hval0
  refine (walk W v0 v1 v2 v3 v4 v5 ls0 ls1 ls2 ls3 ls4 ls5 t0 t1 t2 t3 t4 t5 c0 c1 c2 c3 c4 c5).mono fun e W' ⟨he, bel⟩ => ?_
  subst he
  exact ⟨_, rfl, _, _, _, [], _, [], hW', trodAll_mk1 (shut_bool Tryz.underlying4 _), (trodAll_cons_mk (Below.trod laidOutA (by kernel_rfl) (of_decide_eq_true (by kernel_rfl)) h0 bel lt0) (trodAll_cons_mk (Below.trod laidOutA (by kernel_rfl) (of_decide_eq_true (by kernel_rfl)) h1 bel lt1) (trodAll_cons_mk (Below.trod laidOutA (by kernel_rfl) (of_decide_eq_true (by kernel_rfl)) h2 bel lt2) (trodAll_cons_mk (Below.trod laidOutA (by kernel_rfl) (of_decide_eq_true (by kernel_rfl)) h3 bel lt3) (trodAll_cons_mk (Below.trod laidOutA (by kernel_rfl) (of_decide_eq_true (by kernel_rfl)) h4 bel lt4) (trodAll_cons_mk (Below.trod laidOutA (by kernel_rfl) (of_decide_eq_true (by kernel_rfl)) h5 bel lt5) trodAll_mk0)))))), rfl, bel.frame _, fun h => by cases h⟩

theorem over : Rows.fiveMessagesRow.holds Tryz.pinned (OpenSpec.ofChange Rows.fiveMessagesSpec) :=
  OpenClaim.holds_of_wide 3 Tryz.f3 rfl rfl rfl rfl rfl rfl rfl ⟨rfl, rfl, rfl, rfl, rfl⟩ rfl rfl rfl rfl rfl (by kernel_rfl) Tryz.func3 (by kernel_rfl)
    (of_decide_eq_true (by kernel_rfl)) (by unfold Func.isWrapper; first | (rw [if_pos (by decide +kernel)]; kernel_rfl) | (rw [if_neg (by decide +kernel)]; exact ⟨rfl, rfl⟩))
    (fun os started H enc _ => lifted os started H enc)
end FiveMessagesProof

theorem fiveMessages_proved : Rows.FiveMessagesSaid := FiveMessagesProof.over
#print axioms fiveMessages_proved
end Go.Proofs.YtcnemhfgpldplacGreat

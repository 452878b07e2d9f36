/-
  The statement ConverterSame: the law returns true for every input; no conditions.
-/
import Derived.Test.YtmacgikbcednmabGreatCConvM
import Derived.Test.YtmacgikbcednmabGreatCKdcD
import Derived.Test.YtmacgikbcednmabGreatLOwn
set_option linter.all false
namespace Go.Sx
open Go.Proofs Go.RowKit
theorem getD_kv {l : List DE} (h : ∀ e ∈ l, 0 ≤ e.kv ∧ e.kv ≤ 255) (n : Nat) : 0 ≤ (l.getD n de0).kv ∧ (l.getD n de0).kv ≤ 255 := by
  by_cases hn : n < l.length
  · exact h _ (getD_mem (d := de0) hn)
  · rw [List.getD_eq_getElem?_getD, List.getElem?_eq_none (by omega)]
    decide
theorem vA_off {a : VArg} (h : ¬ (vA a).2 = true) : vA a = (([], vi0), false) := by
  unfold vA at h ⊢
  split
  · rename_i h1; rw [if_pos h1] at h; exact absurd rfl h
  · rfl
noncomputable def g3 : Par := par 171 (nthLL [[1, 2, 3, 4], [1, 2, 3, 4, 26], [8], [1, 2, 3, 4], [1, 2, 3, 4, 9], [2, 3, 4, 9, 10, 11, 12], [3, 4, 10, 11, 12, 13, 14, 15], [3, 4, 10, 11, 12, 68], [8], [3, 4, 10, 11, 70], [8], [3, 4, 11, 16, 17], [4, 11, 16, 17, 18], [4, 11, 17, 18, 19, 20], [4, 11, 18, 19, 20, 103], [8], [4, 11, 18, 19, 105], [8], [4, 11, 18, 21, 22], [4, 11, 18, 21, 22, 23, 24], [8]]) [8] (nthLL [[], [], [], [], [], [0, 0, 2, 0, 8, 31, 63, 127, 127, 127, 0, 1279, 3583, 8191], [0, 0, 2, 0, 8, 31, 63, 127, 127, 127, 0, 1279, 3583, 8191], [], [], [], [], [], [], [], [], [], [], [], [], [0, 1, 0, 4, 12, 28, 0, 64, 192, 448, 1020, 2044, 4095, 8191, 16383, 16383, 0, 98303, 262143], [0, 1, 3, 7, 15, 31, 63, 127, 255, 127, 1023, 2047, 4095, 8191, 16383, 8191, 65535, 131071, 262143, 524287, 1048575, 2097151, 4194303, 8388607, 16777215, 33554431, 16777215, 83886079, 16777215, 285212671, 822083583, 1895825407, 4244635647, 8589934591, 17179869183, 34359738367, 68719476735, 137438953471, 68719476735, 343597383679, 893353197567, 1992864825343, 4398046511103, 8796093022207, 17592186044415]])
set_option maxRecDepth 10000
set_option maxHeartbeats 16000000
theorem c_ConverterSame (cl sv nm ky : UInt8) (st ln : Int) (wr : UInt8) (hw one two : Int) (oth : UInt8) (hst : 0 ≤ st ∧ st ≤ 65535) (hln : 0 ≤ ln ∧ ln ≤ 65535) (hhw : 0 ≤ hw ∧ hw ≤ 65535) (h1 : 0 ≤ one ∧ one ≤ 65535) (h2 : 0 ≤ two ∧ two ≤ 65535) : Fn Tryz.prog 3 [.a [.i .u8 (cl.toNat : Int), .i .u8 (sv.toNat : Int), .i .u8 (nm.toNat : Int), .i .u8 (ky.toNat : Int), .i .u16 st, .i .u16 ln, .i .u8 (wr.toNat : Int), .i .u16 hw], .o (.i .u16 one), .o (.i .u16 two), .o (.i .u8 (oth.toNat : Int))] [] (.one (.c (.o (.b true)))) [] := by
  have b1 := byte_lt cl
  have b2 := byte_lt sv
  have b4 := byte_lt ky
  have b5 := byte_lt oth
  have cM := c_message0 cl sv nm ky st ln hw hst hln
  have cS := c_Simple 100 0 255
  have hR := aR_ok (cl := (cl.toNat : Int)) (sv := (sv.toNat : Int)) (ky := (ky.toNat : Int)) (st := st) (ln := ln) (by omega) hst hln
  have hK := aK_ok (sv.toNat : Int)
  obtain ⟨_, _, _, _, _, lM, kK⟩ := q_steps hR hK
  have cU := c_User (cl.toNat : Int) (by omega)
  have cO := c_Session (oth.toNat : Int) (by omega)
  have l4 := c_Long 4 (by omega)
  have l5 := c_Long 5 (by omega)
  have l3 := c_Long 3 (by omega)
  have hsm := simO_sm 100 0 255
  have hkv := simO_kv ((100 : UInt8).toNat : Int) ((0 : UInt8).toNat : Int) ((255 : UInt8).toNat : Int)
  have h6 := simO_len ((100 : UInt8).toNat : Int) ((0 : UInt8).toNat : Int) ((255 : UInt8).toNat : Int)
  have hf := flat_len deR_len (simO ((100 : UInt8).toNat : Int) ((0 : UInt8).toNat : Int) ((255 : UInt8).toNat : Int))
  rw [show (((100 : UInt8).toNat : Nat) : Int) = 100 from rfl, show (((0 : UInt8).toNat : Nat) : Int) = 0 from rfl, show (((255 : UInt8).toNat : Nat) : Int) = 255 from rfl] at cS hsm hkv h6 hf
  generalize simO 100 0 255 = O at *
  have A1 := c_Answer26 [65, 84, 72] O (m := 6) h6.symm (by omega) hsm one (qMsg (aR (cl.toNat : Int) (sv.toNat : Int) (ky.toNat : Int) st ln) (aK (sv.toNat : Int))) (n := (qMsg (aR (cl.toNat : Int) (sv.toNat : Int) (ky.toNat : Int) st ln) (aK (sv.toNat : Int))).length) rfl (by omega) hkv
  have A2 := c_Answer26 [65, 84, 72] O (m := 6) h6.symm (by omega) hsm two (qMsg (aR (cl.toNat : Int) (sv.toNat : Int) (ky.toNat : Int) st ln) (aK (sv.toNat : Int))) (n := (qMsg (aR (cl.toNat : Int) (sv.toNat : Int) (ky.toNat : Int) st ln) (aK (sv.toNat : Int))).length) rfl (by omega) hkv
  by_cases g1' : (vA ⟨[65, 84, 72], O, one, qMsg (aR (cl.toNat : Int) (sv.toNat : Int) (ky.toNat : Int) st ln) (aK (sv.toNat : Int))⟩).2 = true
  case neg =>
    rw [vA_off g1'] at A1
    dsimp only [vi0] at A1
    generalize qMsg (aR (cl.toNat : Int) (sv.toNat : Int) (ky.toNat : Int) st ln) (aK (sv.toNat : Int)) = MG at *
    generalize vA ⟨[65, 84, 72], O, two, MG⟩ = Z at *
    clear g1' hR hK
    refine Fn_intro (G := g3) (goodA rfl) (fn := Tryz.f3) rfl rfl rfl rfl rfl ?_
    (repeat' ((conv => whnf) <;> first | exact rfl | with_reducible refine boolK_dec (fun _ => ?_) (fun _ => ?_) <;> try (exfalso; omega) | refine boolK_beq (fun _ => ?_) (fun _ => ?_) <;> try (exfalso; first | omega | with_reducible contradiction) | refine boolK_bne (fun _ => ?_) (fun _ => ?_) <;> try (exfalso; first | omega | with_reducible contradiction) | (with_reducible first | refine boolK_not ?_ | refine boolK_and ?_ | refine boolK_or ?_ | refine boolK_true ?_ | refine boolK_false ?_) | refine boolK_intro (fun _ => ?_) (fun _ => ?_) <;> try (exfalso; simp_all; done) | refine jA ?_ | refine jB ?_ | refine jC ?_ | refine jD ?_ | refine jE ?_ | refine jF ?_ | refine jG ?_ | refine jH ?_ | refine jI ?_ | refine jJ ?_ | refine jK ?_ | with_reducible refine natK_lit ?_ | refine natK_of rfl ?_ | refine natK_any ?_ | refine jO ?_ | refine jP ?_ | refine jQ ?_ | refine jR ?_ | refine jS ?_ | refine jT ?_ | refine jU (fun _ => ?_) | refine jV ?_ | refine jW ?_ | refine je ?_ | refine jf ?_ | refine jg ?_ | refine jh ?_ | refine ji ?_ | refine jj ?_ | refine jk ?_ | refine callK_intro (c_awake26) ?_ | refine callK_intro (cM) ?_ | refine callK_intro (cS) ?_ | refine callK_intro (A1) ?_ | refine callK_intro (A2) ?_ | refine jy ?_ | refine ju ?_ | refine jv ?_)) <;> (try (conv => whnf))
  obtain ⟨rk, ek, va⟩ := q_answer hR hK g1'
  rw [va] at A1
  have A2' : ((vA ⟨[65, 84, 72], O, two, qMsg (aR (cl.toNat : Int) (sv.toNat : Int) (ky.toNat : Int) st ln) (aK (sv.toNat : Int))⟩).2 = true ∧ vA ⟨[65, 84, 72], O, two, qMsg (aR (cl.toNat : Int) (sv.toNat : Int) (ky.toNat : Int) st ln) (aK (sv.toNat : Int))⟩ = ((rMsg (aR (cl.toNat : Int) (sv.toNat : Int) (ky.toNat : Int) st ln) (O.getD (dbF (aR (cl.toNat : Int) (sv.toNat : Int) (ky.toNat : Int) st ln).s1 (aR (cl.toNat : Int) (sv.toNat : Int) (ky.toNat : Int) st ln).s2 O).1.toNat de0), rIs [65, 84, 72] (aR (cl.toNat : Int) (sv.toNat : Int) (ky.toNat : Int) st ln) (O.getD (dbF (aR (cl.toNat : Int) (sv.toNat : Int) (ky.toNat : Int) st ln).s1 (aR (cl.toNat : Int) (sv.toNat : Int) (ky.toNat : Int) st ln).s2 O).1.toNat de0)), true)) ∨ vA ⟨[65, 84, 72], O, two, qMsg (aR (cl.toNat : Int) (sv.toNat : Int) (ky.toNat : Int) st ln) (aK (sv.toNat : Int))⟩ = (([], vi0), false) := by
    by_cases g2' : (vA ⟨[65, 84, 72], O, two, qMsg (aR (cl.toNat : Int) (sv.toNat : Int) (ky.toNat : Int) st ln) (aK (sv.toNat : Int))⟩).2 = true
    · exact .inl ⟨g2', (q_answer hR hK g2').2.2⟩
    · exact .inr (vA_off g2')
  have hE := getD_kv hkv (dbF (aR (cl.toNat : Int) (sv.toNat : Int) (ky.toNat : Int) st ln).s1 (aR (cl.toNat : Int) (sv.toNat : Int) (ky.toNat : Int) st ln).s2 O).1.toNat
  generalize O.getD (dbF (aR (cl.toNat : Int) (sv.toNat : Int) (ky.toNat : Int) st ln).s1 (aR (cl.toNat : Int) (sv.toNat : Int) (ky.toNat : Int) st ln).s2 O).1.toNat de0 = E at *
  have hg : vGood (aR (cl.toNat : Int) (sv.toNat : Int) (ky.toNat : Int) st ln) E := ⟨hR, by rw [ek]; exact hK, hE⟩
  obtain ⟨e1, e2, e3, e4, e5, l1, l2, l3', l4', l5', k1, k2, k3⟩ := r_steps hg rk
  obtain ⟨hd, bo, bn, kd, ot, es, rst, rlf⟩ := r_opens hg rk
  have D1 := c_rDecM (rMsg (aR (cl.toNat : Int) (sv.toNat : Int) (ky.toNat : Int) st ln) E) (m := (rMsg (aR (cl.toNat : Int) (sv.toNat : Int) (ky.toNat : Int) st ln) E).length) rfl (by omega)
  rw [hd] at D1
  have B1 := c_rboxOpen (rBx (aR (cl.toNat : Int) (sv.toNat : Int) (ky.toNat : Int) st ln) E) (m := (rBx (aR (cl.toNat : Int) (sv.toNat : Int) (ky.toNat : Int) st ln) E).length) rfl (by omega) 3 (sessN (oth.toNat : Int))
  have P1 := c_rDecK (padS (kpB false (rPt (aR (cl.toNat : Int) (sv.toNat : Int) (ky.toNat : Int) st ln) E))) (m := (padS (kpB false (rPt (aR (cl.toNat : Int) (sv.toNat : Int) (ky.toNat : Int) st ln) E))).length) rfl (by omega) false
  rw [kd] at P1
  have T1 := c_rOpenT (rSl (aR (cl.toNat : Int) (sv.toNat : Int) (ky.toNat : Int) st ln) E) (m := (rSl (aR (cl.toNat : Int) (sv.toNat : Int) (ky.toNat : Int) st ln) E).length) rfl (by omega) E.k
  rw [ot, ek] at T1
  have kb : ((aR (cl.toNat : Int) (sv.toNat : Int) (ky.toNat : Int) st ln).k = sessN (oth.toNat : Int) ∧ boxO (rBx (aR (cl.toNat : Int) (sv.toNat : Int) (ky.toNat : Int) st ln) E) 3 (sessN (oth.toNat : Int)) = (padS (kpB false (rPt (aR (cl.toNat : Int) (sv.toNat : Int) (ky.toNat : Int) st ln) E)), true)) ∨ (¬ (aR (cl.toNat : Int) (sv.toNat : Int) (ky.toNat : Int) st ln).k = sessN (oth.toNat : Int) ∧ boxO (rBx (aR (cl.toNat : Int) (sv.toNat : Int) (ky.toNat : Int) st ln) E) 3 (sessN (oth.toNat : Int)) = ([], false)) := by
    by_cases hk : (aR (cl.toNat : Int) (sv.toNat : Int) (ky.toNat : Int) st ln).k = sessN (oth.toNat : Int)
    · exact .inl ⟨hk, by rw [← hk]; exact bo⟩
    · exact .inr ⟨hk, bn _ hk⟩
  generalize hPT : padS (kpB false (rPt (aR (cl.toNat : Int) (sv.toNat : Int) (ky.toNat : Int) st ln) E)) = PT at *
  dsimp only [rIs, rMs, rPt] at A1 A2' D1 P1 T1
  clear hPT
  rw [es] at A1 A2'
  clear e1 e2 e3 e4 e5 hd bo bn kd ot es hg rk va ek hR g1' hkv hsm
  generalize qMsg (aR (cl.toNat : Int) (sv.toNat : Int) (ky.toNat : Int) st ln) (aK (sv.toNat : Int)) = MG at *
  generalize vA ⟨[65, 84, 72], O, two, MG⟩ = Z at *
  generalize rMsg (aR (cl.toNat : Int) (sv.toNat : Int) (ky.toNat : Int) st ln) E = MA at *
  generalize rBx (aR (cl.toNat : Int) (sv.toNat : Int) (ky.toNat : Int) st ln) E = BX at *
  generalize rSl (aR (cl.toNat : Int) (sv.toNat : Int) (ky.toNat : Int) st ln) E = SL at *
  generalize rLf (aR (cl.toNat : Int) (sv.toNat : Int) (ky.toNat : Int) st ln) = LF at *
  dsimp only [aR] at *
  have hs : (sv.toNat : Int) % 3 = 0 ∨ (sv.toNat : Int) % 3 = 1 ∨ (sv.toNat : Int) % 3 = 2 := by omega
  refine Fn_intro (G := g3) (goodA rfl) (fn := Tryz.f3) rfl rfl rfl rfl rfl ?_
  generalize sessN (ky.toNat : Int) = Ks at *
  generalize sessN (oth.toNat : Int) = Ko at *
  generalize userN (cl.toNat : Int) = Uc at *
  generalize realmN ((cl.toNat : Int) / 3) = Rc at *
  generalize serviceN ((sv.toNat : Int) % 3) = Sv at *
  generalize serviceI ((sv.toNat : Int) % 3) = Iv at *
  generalize realmN ((sv.toNat : Int) % 3 / 3) = Rv at *
  rcases kb with ⟨kb, bo⟩ | ⟨kb, bo⟩ <;> rcases A2' with ⟨_, A2'⟩ | A2' <;> rcases hs with hs | hs | hs
  · rw [A2'] at A2
    rw [bo] at B1
    have ak : aK (sv.toNat : Int) = longK 4 := by unfold aK; rw [hs]; rfl
    rw [ak] at T1
    dsimp only [vi0] at A1 A2 B1 D1 P1 T1
    clear A2' bo ak
    subst kb
    generalize longK 4 = K4 at *
    generalize longK 5 = K5 at *
    generalize longK 3 = K3 at *
    (repeat' ((conv => whnf) <;> first | with_reducible refine boolK_refl ?_ | refine natK_of (j := 0) (by omega) ?_ | exact rfl | with_reducible refine boolK_dec (fun _ => ?_) (fun _ => ?_) <;> try (exfalso; omega) | refine boolK_beq (fun _ => ?_) (fun _ => ?_) <;> try (exfalso; first | omega | with_reducible contradiction) | refine boolK_bne (fun _ => ?_) (fun _ => ?_) <;> try (exfalso; first | omega | with_reducible contradiction) | (with_reducible first | refine boolK_not ?_ | refine boolK_and ?_ | refine boolK_or ?_ | refine boolK_true ?_ | refine boolK_false ?_) | refine boolK_intro (fun _ => ?_) (fun _ => ?_) <;> try (exfalso; simp_all; done) | refine jA ?_ | refine jB ?_ | refine jC ?_ | refine jD ?_ | refine jE ?_ | refine jF ?_ | refine jG ?_ | refine jH ?_ | refine jI ?_ | refine jJ ?_ | refine jK ?_ | with_reducible refine natK_lit ?_ | refine natK_of rfl ?_ | refine natK_any ?_ | refine jO ?_ | refine jP ?_ | refine jQ ?_ | refine jR ?_ | refine jS ?_ | refine jT ?_ | refine jU (fun _ => ?_) | refine jV ?_ | refine jW ?_ | refine je ?_ | refine jf ?_ | refine jg ?_ | refine jh ?_ | refine ji ?_ | refine jj ?_ | refine jk ?_ | refine callK_intro (c_awake26) ?_ | refine callK_intro (cM) ?_ | refine callK_intro (cS) ?_ | refine callK_intro (A1) ?_ | refine callK_intro (A2) ?_ | refine callK_intro (cU) ?_ | refine callK_intro (cO) ?_ | refine callK_intro (l4) ?_ | refine callK_intro (l5) ?_ | refine callK_intro (l3) ?_ | refine callK_intro (D1) ?_ | refine callK_intro (B1) ?_ | refine callK_intro (P1) ?_ | refine callK_intro (T1) ?_ | refine jy ?_ | refine ju ?_ | refine jv ?_)) <;> (try (conv => whnf))
    all_goals (rename_i hh; exfalso; simp at hh)
  · rw [A2'] at A2
    rw [bo] at B1
    have ak : aK (sv.toNat : Int) = longK 5 := by unfold aK; rw [hs]; rfl
    rw [ak] at T1
    dsimp only [vi0] at A1 A2 B1 D1 P1 T1
    clear A2' bo ak
    subst kb
    generalize longK 4 = K4 at *
    generalize longK 5 = K5 at *
    generalize longK 3 = K3 at *
    (repeat' ((conv => whnf) <;> first | with_reducible refine boolK_refl ?_ | refine natK_of (j := 1) (by omega) ?_ | exact rfl | with_reducible refine boolK_dec (fun _ => ?_) (fun _ => ?_) <;> try (exfalso; omega) | refine boolK_beq (fun _ => ?_) (fun _ => ?_) <;> try (exfalso; first | omega | with_reducible contradiction) | refine boolK_bne (fun _ => ?_) (fun _ => ?_) <;> try (exfalso; first | omega | with_reducible contradiction) | (with_reducible first | refine boolK_not ?_ | refine boolK_and ?_ | refine boolK_or ?_ | refine boolK_true ?_ | refine boolK_false ?_) | refine boolK_intro (fun _ => ?_) (fun _ => ?_) <;> try (exfalso; simp_all; done) | refine jA ?_ | refine jB ?_ | refine jC ?_ | refine jD ?_ | refine jE ?_ | refine jF ?_ | refine jG ?_ | refine jH ?_ | refine jI ?_ | refine jJ ?_ | refine jK ?_ | with_reducible refine natK_lit ?_ | refine natK_of rfl ?_ | refine natK_any ?_ | refine jO ?_ | refine jP ?_ | refine jQ ?_ | refine jR ?_ | refine jS ?_ | refine jT ?_ | refine jU (fun _ => ?_) | refine jV ?_ | refine jW ?_ | refine je ?_ | refine jf ?_ | refine jg ?_ | refine jh ?_ | refine ji ?_ | refine jj ?_ | refine jk ?_ | refine callK_intro (c_awake26) ?_ | refine callK_intro (cM) ?_ | refine callK_intro (cS) ?_ | refine callK_intro (A1) ?_ | refine callK_intro (A2) ?_ | refine callK_intro (cU) ?_ | refine callK_intro (cO) ?_ | refine callK_intro (l4) ?_ | refine callK_intro (l5) ?_ | refine callK_intro (l3) ?_ | refine callK_intro (D1) ?_ | refine callK_intro (B1) ?_ | refine callK_intro (P1) ?_ | refine callK_intro (T1) ?_ | refine jy ?_ | refine ju ?_ | refine jv ?_)) <;> (try (conv => whnf))
    all_goals (rename_i hh; exfalso; simp at hh)
  · rw [A2'] at A2
    rw [bo] at B1
    have ak : aK (sv.toNat : Int) = longK 3 := by unfold aK; rw [hs]; rfl
    rw [ak] at T1
    dsimp only [vi0] at A1 A2 B1 D1 P1 T1
    clear A2' bo ak
    subst kb
    generalize longK 4 = K4 at *
    generalize longK 5 = K5 at *
    generalize longK 3 = K3 at *
    (repeat' ((conv => whnf) <;> first | with_reducible refine boolK_refl ?_ | refine natK_of (j := 2) (by omega) ?_ | exact rfl | with_reducible refine boolK_dec (fun _ => ?_) (fun _ => ?_) <;> try (exfalso; omega) | refine boolK_beq (fun _ => ?_) (fun _ => ?_) <;> try (exfalso; first | omega | with_reducible contradiction) | refine boolK_bne (fun _ => ?_) (fun _ => ?_) <;> try (exfalso; first | omega | with_reducible contradiction) | (with_reducible first | refine boolK_not ?_ | refine boolK_and ?_ | refine boolK_or ?_ | refine boolK_true ?_ | refine boolK_false ?_) | refine boolK_intro (fun _ => ?_) (fun _ => ?_) <;> try (exfalso; simp_all; done) | refine jA ?_ | refine jB ?_ | refine jC ?_ | refine jD ?_ | refine jE ?_ | refine jF ?_ | refine jG ?_ | refine jH ?_ | refine jI ?_ | refine jJ ?_ | refine jK ?_ | with_reducible refine natK_lit ?_ | refine natK_of rfl ?_ | refine natK_any ?_ | refine jO ?_ | refine jP ?_ | refine jQ ?_ | refine jR ?_ | refine jS ?_ | refine jT ?_ | refine jU (fun _ => ?_) | refine jV ?_ | refine jW ?_ | refine je ?_ | refine jf ?_ | refine jg ?_ | refine jh ?_ | refine ji ?_ | refine jj ?_ | refine jk ?_ | refine callK_intro (c_awake26) ?_ | refine callK_intro (cM) ?_ | refine callK_intro (cS) ?_ | refine callK_intro (A1) ?_ | refine callK_intro (A2) ?_ | refine callK_intro (cU) ?_ | refine callK_intro (cO) ?_ | refine callK_intro (l4) ?_ | refine callK_intro (l5) ?_ | refine callK_intro (l3) ?_ | refine callK_intro (D1) ?_ | refine callK_intro (B1) ?_ | refine callK_intro (P1) ?_ | refine callK_intro (T1) ?_ | refine jy ?_ | refine ju ?_ | refine jv ?_)) <;> (try (conv => whnf))
    all_goals (rename_i hh; exfalso; simp at hh)
  · rw [A2'] at A2
    rw [bo] at B1
    have ak : aK (sv.toNat : Int) = longK 4 := by unfold aK; rw [hs]; rfl
    rw [ak] at T1
    dsimp only [vi0] at A1 A2 B1 D1 P1 T1
    clear A2' bo ak
    subst kb
    generalize longK 4 = K4 at *
    generalize longK 5 = K5 at *
    generalize longK 3 = K3 at *
    (repeat' ((conv => whnf) <;> first | with_reducible refine boolK_refl ?_ | refine natK_of (j := 0) (by omega) ?_ | exact rfl | with_reducible refine boolK_dec (fun _ => ?_) (fun _ => ?_) <;> try (exfalso; omega) | refine boolK_beq (fun _ => ?_) (fun _ => ?_) <;> try (exfalso; first | omega | with_reducible contradiction) | refine boolK_bne (fun _ => ?_) (fun _ => ?_) <;> try (exfalso; first | omega | with_reducible contradiction) | (with_reducible first | refine boolK_not ?_ | refine boolK_and ?_ | refine boolK_or ?_ | refine boolK_true ?_ | refine boolK_false ?_) | refine boolK_intro (fun _ => ?_) (fun _ => ?_) <;> try (exfalso; simp_all; done) | refine jA ?_ | refine jB ?_ | refine jC ?_ | refine jD ?_ | refine jE ?_ | refine jF ?_ | refine jG ?_ | refine jH ?_ | refine jI ?_ | refine jJ ?_ | refine jK ?_ | with_reducible refine natK_lit ?_ | refine natK_of rfl ?_ | refine natK_any ?_ | refine jO ?_ | refine jP ?_ | refine jQ ?_ | refine jR ?_ | refine jS ?_ | refine jT ?_ | refine jU (fun _ => ?_) | refine jV ?_ | refine jW ?_ | refine je ?_ | refine jf ?_ | refine jg ?_ | refine jh ?_ | refine ji ?_ | refine jj ?_ | refine jk ?_ | refine callK_intro (c_awake26) ?_ | refine callK_intro (cM) ?_ | refine callK_intro (cS) ?_ | refine callK_intro (A1) ?_ | refine callK_intro (A2) ?_ | refine callK_intro (cU) ?_ | refine callK_intro (cO) ?_ | refine callK_intro (l4) ?_ | refine callK_intro (l5) ?_ | refine callK_intro (l3) ?_ | refine callK_intro (D1) ?_ | refine callK_intro (B1) ?_ | refine callK_intro (P1) ?_ | refine callK_intro (T1) ?_ | refine jy ?_ | refine ju ?_ | refine jv ?_)) <;> (try (conv => whnf))
    all_goals (rename_i hh; exfalso; simp at hh)
  · rw [A2'] at A2
    rw [bo] at B1
    have ak : aK (sv.toNat : Int) = longK 5 := by unfold aK; rw [hs]; rfl
    rw [ak] at T1
    dsimp only [vi0] at A1 A2 B1 D1 P1 T1
    clear A2' bo ak
    subst kb
    generalize longK 4 = K4 at *
    generalize longK 5 = K5 at *
    generalize longK 3 = K3 at *
    (repeat' ((conv => whnf) <;> first | with_reducible refine boolK_refl ?_ | refine natK_of (j := 1) (by omega) ?_ | exact rfl | with_reducible refine boolK_dec (fun _ => ?_) (fun _ => ?_) <;> try (exfalso; omega) | refine boolK_beq (fun _ => ?_) (fun _ => ?_) <;> try (exfalso; first | omega | with_reducible contradiction) | refine boolK_bne (fun _ => ?_) (fun _ => ?_) <;> try (exfalso; first | omega | with_reducible contradiction) | (with_reducible first | refine boolK_not ?_ | refine boolK_and ?_ | refine boolK_or ?_ | refine boolK_true ?_ | refine boolK_false ?_) | refine boolK_intro (fun _ => ?_) (fun _ => ?_) <;> try (exfalso; simp_all; done) | refine jA ?_ | refine jB ?_ | refine jC ?_ | refine jD ?_ | refine jE ?_ | refine jF ?_ | refine jG ?_ | refine jH ?_ | refine jI ?_ | refine jJ ?_ | refine jK ?_ | with_reducible refine natK_lit ?_ | refine natK_of rfl ?_ | refine natK_any ?_ | refine jO ?_ | refine jP ?_ | refine jQ ?_ | refine jR ?_ | refine jS ?_ | refine jT ?_ | refine jU (fun _ => ?_) | refine jV ?_ | refine jW ?_ | refine je ?_ | refine jf ?_ | refine jg ?_ | refine jh ?_ | refine ji ?_ | refine jj ?_ | refine jk ?_ | refine callK_intro (c_awake26) ?_ | refine callK_intro (cM) ?_ | refine callK_intro (cS) ?_ | refine callK_intro (A1) ?_ | refine callK_intro (A2) ?_ | refine callK_intro (cU) ?_ | refine callK_intro (cO) ?_ | refine callK_intro (l4) ?_ | refine callK_intro (l5) ?_ | refine callK_intro (l3) ?_ | refine callK_intro (D1) ?_ | refine callK_intro (B1) ?_ | refine callK_intro (P1) ?_ | refine callK_intro (T1) ?_ | refine jy ?_ | refine ju ?_ | refine jv ?_)) <;> (try (conv => whnf))
    all_goals (rename_i hh; exfalso; simp at hh)
  · rw [A2'] at A2
    rw [bo] at B1
    have ak : aK (sv.toNat : Int) = longK 3 := by unfold aK; rw [hs]; rfl
    rw [ak] at T1
    dsimp only [vi0] at A1 A2 B1 D1 P1 T1
    clear A2' bo ak
    subst kb
    generalize longK 4 = K4 at *
    generalize longK 5 = K5 at *
    generalize longK 3 = K3 at *
    (repeat' ((conv => whnf) <;> first | with_reducible refine boolK_refl ?_ | refine natK_of (j := 2) (by omega) ?_ | exact rfl | with_reducible refine boolK_dec (fun _ => ?_) (fun _ => ?_) <;> try (exfalso; omega) | refine boolK_beq (fun _ => ?_) (fun _ => ?_) <;> try (exfalso; first | omega | with_reducible contradiction) | refine boolK_bne (fun _ => ?_) (fun _ => ?_) <;> try (exfalso; first | omega | with_reducible contradiction) | (with_reducible first | refine boolK_not ?_ | refine boolK_and ?_ | refine boolK_or ?_ | refine boolK_true ?_ | refine boolK_false ?_) | refine boolK_intro (fun _ => ?_) (fun _ => ?_) <;> try (exfalso; simp_all; done) | refine jA ?_ | refine jB ?_ | refine jC ?_ | refine jD ?_ | refine jE ?_ | refine jF ?_ | refine jG ?_ | refine jH ?_ | refine jI ?_ | refine jJ ?_ | refine jK ?_ | with_reducible refine natK_lit ?_ | refine natK_of rfl ?_ | refine natK_any ?_ | refine jO ?_ | refine jP ?_ | refine jQ ?_ | refine jR ?_ | refine jS ?_ | refine jT ?_ | refine jU (fun _ => ?_) | refine jV ?_ | refine jW ?_ | refine je ?_ | refine jf ?_ | refine jg ?_ | refine jh ?_ | refine ji ?_ | refine jj ?_ | refine jk ?_ | refine callK_intro (c_awake26) ?_ | refine callK_intro (cM) ?_ | refine callK_intro (cS) ?_ | refine callK_intro (A1) ?_ | refine callK_intro (A2) ?_ | refine callK_intro (cU) ?_ | refine callK_intro (cO) ?_ | refine callK_intro (l4) ?_ | refine callK_intro (l5) ?_ | refine callK_intro (l3) ?_ | refine callK_intro (D1) ?_ | refine callK_intro (B1) ?_ | refine callK_intro (P1) ?_ | refine callK_intro (T1) ?_ | refine jy ?_ | refine ju ?_ | refine jv ?_)) <;> (try (conv => whnf))
    all_goals (rename_i hh; exfalso; simp at hh)
  · rw [A2'] at A2
    rw [bo] at B1
    have ak : aK (sv.toNat : Int) = longK 4 := by unfold aK; rw [hs]; rfl
    rw [ak] at T1
    dsimp only [vi0] at A1 A2 B1 D1 P1 T1
    clear A2' bo ak
    generalize longK 4 = K4 at *
    generalize longK 5 = K5 at *
    generalize longK 3 = K3 at *
    (repeat' ((conv => whnf) <;> first | with_reducible refine boolK_refl ?_ | refine natK_of (j := 0) (by omega) ?_ | exact rfl | with_reducible refine boolK_dec (fun _ => ?_) (fun _ => ?_) <;> try (exfalso; omega) | refine boolK_beq (fun _ => ?_) (fun _ => ?_) <;> try (exfalso; first | omega | with_reducible contradiction) | refine boolK_bne (fun _ => ?_) (fun _ => ?_) <;> try (exfalso; first | omega | with_reducible contradiction) | (with_reducible first | refine boolK_not ?_ | refine boolK_and ?_ | refine boolK_or ?_ | refine boolK_true ?_ | refine boolK_false ?_) | refine boolK_intro (fun _ => ?_) (fun _ => ?_) <;> try (exfalso; simp_all; done) | refine jA ?_ | refine jB ?_ | refine jC ?_ | refine jD ?_ | refine jE ?_ | refine jF ?_ | refine jG ?_ | refine jH ?_ | refine jI ?_ | refine jJ ?_ | refine jK ?_ | with_reducible refine natK_lit ?_ | refine natK_of rfl ?_ | refine natK_any ?_ | refine jO ?_ | refine jP ?_ | refine jQ ?_ | refine jR ?_ | refine jS ?_ | refine jT ?_ | refine jU (fun _ => ?_) | refine jV ?_ | refine jW ?_ | refine je ?_ | refine jf ?_ | refine jg ?_ | refine jh ?_ | refine ji ?_ | refine jj ?_ | refine jk ?_ | refine callK_intro (c_awake26) ?_ | refine callK_intro (cM) ?_ | refine callK_intro (cS) ?_ | refine callK_intro (A1) ?_ | refine callK_intro (A2) ?_ | refine callK_intro (cU) ?_ | refine callK_intro (cO) ?_ | refine callK_intro (l4) ?_ | refine callK_intro (l5) ?_ | refine callK_intro (l3) ?_ | refine callK_intro (D1) ?_ | refine callK_intro (B1) ?_ | refine callK_intro (P1) ?_ | refine callK_intro (T1) ?_ | refine jy ?_ | refine ju ?_ | refine jv ?_)) <;> (try (conv => whnf))
    all_goals (rename_i hh; exfalso; exact hh (beq_eq_false_iff_ne.2 (fun e => kb e.symm)).symm)
  · rw [A2'] at A2
    rw [bo] at B1
    have ak : aK (sv.toNat : Int) = longK 5 := by unfold aK; rw [hs]; rfl
    rw [ak] at T1
    dsimp only [vi0] at A1 A2 B1 D1 P1 T1
    clear A2' bo ak
    generalize longK 4 = K4 at *
    generalize longK 5 = K5 at *
    generalize longK 3 = K3 at *
    (repeat' ((conv => whnf) <;> first | with_reducible refine boolK_refl ?_ | refine natK_of (j := 1) (by omega) ?_ | exact rfl | with_reducible refine boolK_dec (fun _ => ?_) (fun _ => ?_) <;> try (exfalso; omega) | refine boolK_beq (fun _ => ?_) (fun _ => ?_) <;> try (exfalso; first | omega | with_reducible contradiction) | refine boolK_bne (fun _ => ?_) (fun _ => ?_) <;> try (exfalso; first | omega | with_reducible contradiction) | (with_reducible first | refine boolK_not ?_ | refine boolK_and ?_ | refine boolK_or ?_ | refine boolK_true ?_ | refine boolK_false ?_) | refine boolK_intro (fun _ => ?_) (fun _ => ?_) <;> try (exfalso; simp_all; done) | refine jA ?_ | refine jB ?_ | refine jC ?_ | refine jD ?_ | refine jE ?_ | refine jF ?_ | refine jG ?_ | refine jH ?_ | refine jI ?_ | refine jJ ?_ | refine jK ?_ | with_reducible refine natK_lit ?_ | refine natK_of rfl ?_ | refine natK_any ?_ | refine jO ?_ | refine jP ?_ | refine jQ ?_ | refine jR ?_ | refine jS ?_ | refine jT ?_ | refine jU (fun _ => ?_) | refine jV ?_ | refine jW ?_ | refine je ?_ | refine jf ?_ | refine jg ?_ | refine jh ?_ | refine ji ?_ | refine jj ?_ | refine jk ?_ | refine callK_intro (c_awake26) ?_ | refine callK_intro (cM) ?_ | refine callK_intro (cS) ?_ | refine callK_intro (A1) ?_ | refine callK_intro (A2) ?_ | refine callK_intro (cU) ?_ | refine callK_intro (cO) ?_ | refine callK_intro (l4) ?_ | refine callK_intro (l5) ?_ | refine callK_intro (l3) ?_ | refine callK_intro (D1) ?_ | refine callK_intro (B1) ?_ | refine callK_intro (P1) ?_ | refine callK_intro (T1) ?_ | refine jy ?_ | refine ju ?_ | refine jv ?_)) <;> (try (conv => whnf))
    all_goals (rename_i hh; exfalso; exact hh (beq_eq_false_iff_ne.2 (fun e => kb e.symm)).symm)
  · rw [A2'] at A2
    rw [bo] at B1
    have ak : aK (sv.toNat : Int) = longK 3 := by unfold aK; rw [hs]; rfl
    rw [ak] at T1
    dsimp only [vi0] at A1 A2 B1 D1 P1 T1
    clear A2' bo ak
    generalize longK 4 = K4 at *
    generalize longK 5 = K5 at *
    generalize longK 3 = K3 at *
    (repeat' ((conv => whnf) <;> first | with_reducible refine boolK_refl ?_ | refine natK_of (j := 2) (by omega) ?_ | exact rfl | with_reducible refine boolK_dec (fun _ => ?_) (fun _ => ?_) <;> try (exfalso; omega) | refine boolK_beq (fun _ => ?_) (fun _ => ?_) <;> try (exfalso; first | omega | with_reducible contradiction) | refine boolK_bne (fun _ => ?_) (fun _ => ?_) <;> try (exfalso; first | omega | with_reducible contradiction) | (with_reducible first | refine boolK_not ?_ | refine boolK_and ?_ | refine boolK_or ?_ | refine boolK_true ?_ | refine boolK_false ?_) | refine boolK_intro (fun _ => ?_) (fun _ => ?_) <;> try (exfalso; simp_all; done) | refine jA ?_ | refine jB ?_ | refine jC ?_ | refine jD ?_ | refine jE ?_ | refine jF ?_ | refine jG ?_ | refine jH ?_ | refine jI ?_ | refine jJ ?_ | refine jK ?_ | with_reducible refine natK_lit ?_ | refine natK_of rfl ?_ | refine natK_any ?_ | refine jO ?_ | refine jP ?_ | refine jQ ?_ | refine jR ?_ | refine jS ?_ | refine jT ?_ | refine jU (fun _ => ?_) | refine jV ?_ | refine jW ?_ | refine je ?_ | refine jf ?_ | refine jg ?_ | refine jh ?_ | refine ji ?_ | refine jj ?_ | refine jk ?_ | refine callK_intro (c_awake26) ?_ | refine callK_intro (cM) ?_ | refine callK_intro (cS) ?_ | refine callK_intro (A1) ?_ | refine callK_intro (A2) ?_ | refine callK_intro (cU) ?_ | refine callK_intro (cO) ?_ | refine callK_intro (l4) ?_ | refine callK_intro (l5) ?_ | refine callK_intro (l3) ?_ | refine callK_intro (D1) ?_ | refine callK_intro (B1) ?_ | refine callK_intro (P1) ?_ | refine callK_intro (T1) ?_ | refine jy ?_ | refine ju ?_ | refine jv ?_)) <;> (try (conv => whnf))
    all_goals (rename_i hh; exfalso; exact hh (beq_eq_false_iff_ne.2 (fun e => kb e.symm)).symm)
  · rw [A2'] at A2
    rw [bo] at B1
    have ak : aK (sv.toNat : Int) = longK 4 := by unfold aK; rw [hs]; rfl
    rw [ak] at T1
    dsimp only [vi0] at A1 A2 B1 D1 P1 T1
    clear A2' bo ak
    generalize longK 4 = K4 at *
    generalize longK 5 = K5 at *
    generalize longK 3 = K3 at *
    (repeat' ((conv => whnf) <;> first | with_reducible refine boolK_refl ?_ | refine natK_of (j := 0) (by omega) ?_ | exact rfl | with_reducible refine boolK_dec (fun _ => ?_) (fun _ => ?_) <;> try (exfalso; omega) | refine boolK_beq (fun _ => ?_) (fun _ => ?_) <;> try (exfalso; first | omega | with_reducible contradiction) | refine boolK_bne (fun _ => ?_) (fun _ => ?_) <;> try (exfalso; first | omega | with_reducible contradiction) | (with_reducible first | refine boolK_not ?_ | refine boolK_and ?_ | refine boolK_or ?_ | refine boolK_true ?_ | refine boolK_false ?_) | refine boolK_intro (fun _ => ?_) (fun _ => ?_) <;> try (exfalso; simp_all; done) | refine jA ?_ | refine jB ?_ | refine jC ?_ | refine jD ?_ | refine jE ?_ | refine jF ?_ | refine jG ?_ | refine jH ?_ | refine jI ?_ | refine jJ ?_ | refine jK ?_ | with_reducible refine natK_lit ?_ | refine natK_of rfl ?_ | refine natK_any ?_ | refine jO ?_ | refine jP ?_ | refine jQ ?_ | refine jR ?_ | refine jS ?_ | refine jT ?_ | refine jU (fun _ => ?_) | refine jV ?_ | refine jW ?_ | refine je ?_ | refine jf ?_ | refine jg ?_ | refine jh ?_ | refine ji ?_ | refine jj ?_ | refine jk ?_ | refine callK_intro (c_awake26) ?_ | refine callK_intro (cM) ?_ | refine callK_intro (cS) ?_ | refine callK_intro (A1) ?_ | refine callK_intro (A2) ?_ | refine callK_intro (cU) ?_ | refine callK_intro (cO) ?_ | refine callK_intro (l4) ?_ | refine callK_intro (l5) ?_ | refine callK_intro (l3) ?_ | refine callK_intro (D1) ?_ | refine callK_intro (B1) ?_ | refine callK_intro (P1) ?_ | refine callK_intro (T1) ?_ | refine jy ?_ | refine ju ?_ | refine jv ?_)) <;> (try (conv => whnf))
    all_goals (rename_i hh; exfalso; exact hh (beq_eq_false_iff_ne.2 (fun e => kb e.symm)).symm)
  · rw [A2'] at A2
    rw [bo] at B1
    have ak : aK (sv.toNat : Int) = longK 5 := by unfold aK; rw [hs]; rfl
    rw [ak] at T1
    dsimp only [vi0] at A1 A2 B1 D1 P1 T1
    clear A2' bo ak
    generalize longK 4 = K4 at *
    generalize longK 5 = K5 at *
    generalize longK 3 = K3 at *
    (repeat' ((conv => whnf) <;> first | with_reducible refine boolK_refl ?_ | refine natK_of (j := 1) (by omega) ?_ | exact rfl | with_reducible refine boolK_dec (fun _ => ?_) (fun _ => ?_) <;> try (exfalso; omega) | refine boolK_beq (fun _ => ?_) (fun _ => ?_) <;> try (exfalso; first | omega | with_reducible contradiction) | refine boolK_bne (fun _ => ?_) (fun _ => ?_) <;> try (exfalso; first | omega | with_reducible contradiction) | (with_reducible first | refine boolK_not ?_ | refine boolK_and ?_ | refine boolK_or ?_ | refine boolK_true ?_ | refine boolK_false ?_) | refine boolK_intro (fun _ => ?_) (fun _ => ?_) <;> try (exfalso; simp_all; done) | refine jA ?_ | refine jB ?_ | refine jC ?_ | refine jD ?_ | refine jE ?_ | refine jF ?_ | refine jG ?_ | refine jH ?_ | refine jI ?_ | refine jJ ?_ | refine jK ?_ | with_reducible refine natK_lit ?_ | refine natK_of rfl ?_ | refine natK_any ?_ | refine jO ?_ | refine jP ?_ | refine jQ ?_ | refine jR ?_ | refine jS ?_ | refine jT ?_ | refine jU (fun _ => ?_) | refine jV ?_ | refine jW ?_ | refine je ?_ | refine jf ?_ | refine jg ?_ | refine jh ?_ | refine ji ?_ | refine jj ?_ | refine jk ?_ | refine callK_intro (c_awake26) ?_ | refine callK_intro (cM) ?_ | refine callK_intro (cS) ?_ | refine callK_intro (A1) ?_ | refine callK_intro (A2) ?_ | refine callK_intro (cU) ?_ | refine callK_intro (cO) ?_ | refine callK_intro (l4) ?_ | refine callK_intro (l5) ?_ | refine callK_intro (l3) ?_ | refine callK_intro (D1) ?_ | refine callK_intro (B1) ?_ | refine callK_intro (P1) ?_ | refine callK_intro (T1) ?_ | refine jy ?_ | refine ju ?_ | refine jv ?_)) <;> (try (conv => whnf))
    all_goals (rename_i hh; exfalso; exact hh (beq_eq_false_iff_ne.2 (fun e => kb e.symm)).symm)
  · rw [A2'] at A2
    rw [bo] at B1
    have ak : aK (sv.toNat : Int) = longK 3 := by unfold aK; rw [hs]; rfl
    rw [ak] at T1
    dsimp only [vi0] at A1 A2 B1 D1 P1 T1
    clear A2' bo ak
    generalize longK 4 = K4 at *
    generalize longK 5 = K5 at *
    generalize longK 3 = K3 at *
    (repeat' ((conv => whnf) <;> first | with_reducible refine boolK_refl ?_ | refine natK_of (j := 2) (by omega) ?_ | exact rfl | with_reducible refine boolK_dec (fun _ => ?_) (fun _ => ?_) <;> try (exfalso; omega) | refine boolK_beq (fun _ => ?_) (fun _ => ?_) <;> try (exfalso; first | omega | with_reducible contradiction) | refine boolK_bne (fun _ => ?_) (fun _ => ?_) <;> try (exfalso; first | omega | with_reducible contradiction) | (with_reducible first | refine boolK_not ?_ | refine boolK_and ?_ | refine boolK_or ?_ | refine boolK_true ?_ | refine boolK_false ?_) | refine boolK_intro (fun _ => ?_) (fun _ => ?_) <;> try (exfalso; simp_all; done) | refine jA ?_ | refine jB ?_ | refine jC ?_ | refine jD ?_ | refine jE ?_ | refine jF ?_ | refine jG ?_ | refine jH ?_ | refine jI ?_ | refine jJ ?_ | refine jK ?_ | with_reducible refine natK_lit ?_ | refine natK_of rfl ?_ | refine natK_any ?_ | refine jO ?_ | refine jP ?_ | refine jQ ?_ | refine jR ?_ | refine jS ?_ | refine jT ?_ | refine jU (fun _ => ?_) | refine jV ?_ | refine jW ?_ | refine je ?_ | refine jf ?_ | refine jg ?_ | refine jh ?_ | refine ji ?_ | refine jj ?_ | refine jk ?_ | refine callK_intro (c_awake26) ?_ | refine callK_intro (cM) ?_ | refine callK_intro (cS) ?_ | refine callK_intro (A1) ?_ | refine callK_intro (A2) ?_ | refine callK_intro (cU) ?_ | refine callK_intro (cO) ?_ | refine callK_intro (l4) ?_ | refine callK_intro (l5) ?_ | refine callK_intro (l3) ?_ | refine callK_intro (D1) ?_ | refine callK_intro (B1) ?_ | refine callK_intro (P1) ?_ | refine callK_intro (T1) ?_ | refine jy ?_ | refine ju ?_ | refine jv ?_)) <;> (try (conv => whnf))
    all_goals (rename_i hh; exfalso; exact hh (beq_eq_false_iff_ne.2 (fun e => kb e.symm)).symm)
end Go.Sx
namespace Go.Proofs.YtmacgikbcednmabGreat
open Go.ChangeShapes Go.WideShapes Go.ChangeAt Go.RowKit Go.Sx
namespace ConverterSameProof
set_option maxRecDepth 100000 in
theorem walk (W : World) (v0 v1 v2 v3 : Value) (ls0 ls1 ls2 ls3 : List L)
    (t0 : Typ (tabF tab) 24 ls0) (t1 : Typ (tabF tab) 22 ls1) (t2 : Typ (tabF tab) 22 ls2) (t3 : Typ (tabF tab) 5 ls3)
    (r0 : RelC (fun _ => False) W noMu (argC (tabF tab 24).agg ls0) v0) (r1 : RelC (fun _ => False) W noMu (argC (tabF tab 22).agg ls1) v1) (r2 : RelC (fun _ => False) W noMu (argC (tabF tab 22).agg ls2) v2) (r3 : RelC (fun _ => False) W noMu (argC (tabF tab 5).agg ls3) v3) :
    Calls Tryz.prog 3 #[v0, v1, v2, v3] W fun e w' => e = .returned (.bool true) ∧ Below W.heap.size W w' := by
  obtain ⟨partsa0, rfl, hla0, hpa0⟩ := typ_struct t0 rfl
  obtain ⟨qa0_0, qa0_1, qa0_2, qa0_3, qa0_4, qa0_5, qa0_6, qa0_7, rfl⟩ : ∃ qa0_0 qa0_1 qa0_2 qa0_3 qa0_4 qa0_5 qa0_6 qa0_7, partsa0 = [qa0_0, qa0_1, qa0_2, qa0_3, qa0_4, qa0_5, qa0_6, qa0_7] := by
    match partsa0, hla0 with
    | [qa0_0, qa0_1, qa0_2, qa0_3, qa0_4, qa0_5, qa0_6, qa0_7], _ => exact ⟨qa0_0, qa0_1, qa0_2, qa0_3, qa0_4, qa0_5, qa0_6, qa0_7, rfl⟩
  have ta0_0 := hpa0 0 _ qa0_0 rfl rfl
  obtain ⟨a0_0, rfl⟩ := typ_u8 ta0_0 rfl
  have ta0_1 := hpa0 1 _ qa0_1 rfl rfl
  obtain ⟨a0_1, rfl⟩ := typ_u8 ta0_1 rfl
  have ta0_2 := hpa0 2 _ qa0_2 rfl rfl
  obtain ⟨a0_2, rfl⟩ := typ_u8 ta0_2 rfl
  have ta0_3 := hpa0 3 _ qa0_3 rfl rfl
  obtain ⟨a0_3, rfl⟩ := typ_u8 ta0_3 rfl
  have ta0_4 := hpa0 4 _ qa0_4 rfl rfl
  obtain ⟨a0_4, rfl, wa0_4⟩ := typ_int ta0_4 rfl
  have ta0_5 := hpa0 5 _ qa0_5 rfl rfl
  obtain ⟨a0_5, rfl, wa0_5⟩ := typ_int ta0_5 rfl
  have ta0_6 := hpa0 6 _ qa0_6 rfl rfl
  obtain ⟨a0_6, rfl⟩ := typ_u8 ta0_6 rfl
  have ta0_7 := hpa0 7 _ qa0_7 rfl rfl
  obtain ⟨a0_7, rfl, wa0_7⟩ := typ_int ta0_7 rfl
  obtain ⟨a1, rfl, wa1⟩ := typ_int t1 rfl
  obtain ⟨a2, rfl, wa2⟩ := typ_int t2 rfl
  obtain ⟨a3, rfl⟩ := typ_u8 t3 rfl
  exact calls_of_fn Tryz.func3 rfl rfl (c_ConverterSame a0_0 a0_1 a0_2 a0_3 a0_4 a0_5 a0_6 a0_7 a1 a2 a3 (wf_u16 wa0_4) (wf_u16 wa0_5) (wf_u16 wa0_7) (wf_u16 wa1) (wf_u16 wa2)) (relCs_cons r0 (relCs_cons r1 (relCs_cons r2 (relCs_cons r3 relCs_nil))))

set_option maxRecDepth 100000 in
theorem lifted (os : Os) (started : os.Started) (H : Type) (enc : TypeId × Value → H) :
    ReturnsInHanded {} Tryz.checked os 3 .any (Rows.converterSameSpec.pre6 enc Tryz.prog Tryz.f3 Rows.converterSameRow.domain false) (Rows.converterSameSpec.post enc Tryz.prog Tryz.f3 false true false false) := by
  refine returnsInHanded_of_change (C := Tryz.checked) ownA started (by kernel_rfl) Tryz.func3
    (ChangeSpec.witness6 (enc := enc) (C := Tryz.checked) false ⟨#[], #[.agg #[.int .u8 0, .int .u8 0, .int .u8 0, .int .u8 0, .int .u16 0, .int .u16 0, .int .u8 0, .int .u16 0], .int .u16 0, .int .u16 0, .int .u8 0], []⟩ 8 (by kernel_rfl) (by kernel_rfl) (by kernel_rfl) (by kernel_rfl)) ?_
  intro W base args ds gs before hval0 hW hcnd _
  have hval : ∀ (j : Nat) t v, Tryz.f3.params[j]? = some t → args[j]? = some v → Value.okWide Tryz.prog W .any base t v := hval0
  have hW' := hW
  obtain ⟨p, q, hA0, hV, rfl, hfz, hnd⟩ := hW
  have hA : DataW.TrodAll enc Tryz.prog W 0 (fun _ => true) true Tryz.f3.params.toList args.toList ds p := hA0
  rw [Tryz.params3] at hA hval
  obtain ⟨v0, vs0, d0, ds0, p0, q0, hargs, rfl, rfl, h0, r0⟩ := trodAll_cons hA
  obtain ⟨v1, vs1, d1, ds1, p1, q1, rfl, rfl, rfl, h1, r1⟩ := trodAll_cons r0
  obtain ⟨v2, vs2, d2, ds2, p2, q2, rfl, rfl, rfl, h2, r2⟩ := trodAll_cons r1
  obtain ⟨v3, vs3, d3, ds3, p3, q3, rfl, rfl, rfl, h3, r3⟩ := trodAll_cons r2
  obtain ⟨rfl, rfl, rfl⟩ := trodAll_nil r3
  obtain rfl : args = #[v0, v1, v2, v3] := by cases args; simp_all
  obtain ⟨rfl, rfl⟩ := trodVars_none hV
  obtain ⟨ls0, t0, c0⟩ := rel_arg tokA (n := 9) rfl h0 (hval 0 24 v0 rfl rfl)
  obtain ⟨ls1, t1, c1⟩ := rel_arg tokA (n := 9) rfl h1 (hval 1 22 v1 rfl rfl)
  obtain ⟨ls2, t2, c2⟩ := rel_arg tokA (n := 9) rfl h2 (hval 2 22 v2 rfl rfl)
  obtain ⟨ls3, t3, c3⟩ := rel_arg tokA (n := 9) rfl h3 (hval 3 5 v3 rfl rfl)
  have lt0 : ∀ x ∈ p0, x.block < W.heap.size := by obtain ⟨m, hm⟩ := h0; exact DataW.trod_lt m _ _ _ hm
  have lt1 : ∀ x ∈ p1, x.block < W.heap.size := by obtain ⟨m, hm⟩ := h1; exact DataW.trod_lt m _ _ _ hm
  have lt2 : ∀ x ∈ p2, x.block < W.heap.size := by obtain ⟨m, hm⟩ := h2; exact DataW.trod_lt m _ _ _ hm
  have lt3 : ∀ x ∈ p3, x.block < W.heap.size := by obtain ⟨m, hm⟩ := h3; exact DataW.trod_lt m _ _ _ hm
  clear hA0 hval0
  refine (walk W v0 v1 v2 v3 ls0 ls1 ls2 ls3 t0 t1 t2 t3 c0 c1 c2 c3).mono fun e W' ⟨he, bel⟩ => ?_
  subst he
  exact ⟨_, rfl, _, _, _, [], _, [], hW', trodAll_mk1 (shut_bool Tryz.underlying4 _), (trodAll_cons_mk (Below.trod laidOutA (by kernel_rfl) (of_decide_eq_true (by kernel_rfl)) h0 bel lt0) (trodAll_cons_mk (Below.trod laidOutA (by kernel_rfl) (of_decide_eq_true (by kernel_rfl)) h1 bel lt1) (trodAll_cons_mk (Below.trod laidOutA (by kernel_rfl) (of_decide_eq_true (by kernel_rfl)) h2 bel lt2) (trodAll_cons_mk (Below.trod laidOutA (by kernel_rfl) (of_decide_eq_true (by kernel_rfl)) h3 bel lt3) trodAll_mk0)))), rfl, bel.frame _, fun h => by cases h⟩

theorem over : Rows.converterSameRow.holds Tryz.pinned (OpenSpec.ofChange Rows.converterSameSpec) :=
  OpenClaim.holds_of_wide 3 Tryz.f3 rfl rfl rfl rfl rfl rfl rfl ⟨rfl, rfl, rfl, rfl, rfl⟩ rfl rfl rfl rfl rfl (by kernel_rfl) Tryz.func3 (by kernel_rfl)
    (of_decide_eq_true (by kernel_rfl)) (by unfold Func.isWrapper; first | (rw [if_pos (by decide +kernel)]; kernel_rfl) | (rw [if_neg (by decide +kernel)]; exact ⟨rfl, rfl⟩))
    (fun os started H enc _ => lifted os started H enc)
end ConverterSameProof

theorem converterSame_proved : Rows.ConverterSameSaid := ConverterSameProof.over
#print axioms converterSame_proved
end Go.Proofs.YtmacgikbcednmabGreat

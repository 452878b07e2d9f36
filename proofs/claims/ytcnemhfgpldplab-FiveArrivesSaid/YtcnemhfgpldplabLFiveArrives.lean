/-
  The statement FiveArrives: the law returns true for every input; no conditions.
-/
import Derived.Test.YtcnemhfgpldplabCFiveL
import Derived.Test.YtcnemhfgpldplabLOwn
set_option linter.all false
namespace Go.Sx
open Go.Proofs Go.RowKit
theorem fiO_err {a : FArg} (h : ¬ (fiO a).2 = 0) : (fiO a).1 = ([], fi0) := by
  by_cases h0 : dbC a.r a.l = 0
  case neg => rw [fiO_0 h0]
  by_cases h1 : a.c3 = a.r ∧ a.s3 = a.r
  case neg => rw [fiO_1 h0 h1]
  by_cases h2 : (fiU a).2 = 0
  case neg => rw [fiO_2 h0 h1 h2]
  by_cases h3 : (fiS a).2 = 0
  case neg => rw [fiO_3 h0 h1 h2 h3]
  by_cases h4 : (0 ≤ a.now ∧ a.now ≤ 4294967295) ∧ (1 ≤ a.sec ∧ a.sec ≤ 4294967295) ∧ (0 ≤ a.ad ∧ a.ad ≤ 4294967295)
  case neg => rw [fiO_4 h0 h1 h2 h3 h4]
  by_cases h5 : a.now < fiE a
  case neg => rw [fiO_5 h0 h1 h2 h3 h4 h5]
  by_cases h6 : classS a.k = 2
  case neg => rw [fiO_6 h0 h1 h2 h3 h4 h5 h6]
  rw [fiO_ok h0 h1 h2 h3 h4 h5 h6] at h
  exact absurd rfl h
theorem leS_le (e x : Int) : leS e x ≤ e := by unfold leS; split <;> omega
theorem leS_ex {e x : Int} (h : ¬ x = 0) : leS e x ≤ x := by unfold leS; split <;> omega
noncomputable def g3 : Par := par 249 (nthLL [[0, 1, 2, 3, 4, 5, 6, 7], [0, 1, 2, 3, 4, 5, 6, 7, 34], [16], [0, 1, 2, 3, 4, 17], [0, 2, 3, 4, 17, 18, 19], [2, 3, 4, 17, 18, 19, 20, 21, 22], [2, 3, 4, 17, 18, 19, 20, 21, 63], [16], [2, 3, 4, 17, 18, 19, 20, 21, 23], [2, 3, 4, 17, 18, 19, 20, 21, 23, 25], [2, 3, 4, 17, 18, 19, 21, 23, 25, 27, 28], [3, 4, 17, 18, 19, 21, 23, 25, 27, 28, 110], [16], [3, 4, 17, 18, 19, 21, 23, 25, 27, 28, 29, 30], [3, 4, 17, 18, 19, 21, 23, 25, 27, 28, 30, 31, 32], [3, 4, 17, 18, 19, 21, 23, 25, 27, 31, 148], [16], [16]]) [16] (nthLL [[], [], [], [], [], [0, 0, 0, 0, 8, 0, 32, 0, 128, 0, 1023, 2047, 4095, 4095, 4095, 0, 40959, 114687, 262143], [], [], [], [], [0, 0, 2, 6, 14, 0, 63, 127, 255, 255, 0, 1535, 4095], [0, 1, 3, 7, 0, 16, 0, 112, 240, 496, 1023], [], [0, 1, 0, 4, 0, 28, 60, 124, 255, 511, 1023, 1023, 2047, 8191], [], [], [], [0, 1, 0, 7, 15, 31, 63, 31, 159, 511, 1023, 2047, 4095, 8191, 4095, 32767, 65535, 131071, 262143, 524287, 262143, 2097151, 4194303, 8388607, 16777215, 33554431, 16777215, 134217727, 268435455, 536870911, 1073741823, 2147483647, 1073741823, 5368709119, 17179869183, 34359738367, 68719476735, 137438953471, 274877906943, 137438953471, 687194767359, 2199023255551, 4398046511103, 8796093022207, 17592186044415, 35184372088831, 17592186044415, 87960930222079, 281474976710655, 562949953421311, 1125899906842623, 2251799813685247, 4503599627370495, 2251799813685247, 11258999068426239, 2251799813685247, 38280596832649215, 137359788634800127, 288230376151711743, 576460752303423487, 1152921504606846975, 2305843009213693951, 4611686018427387903, 2305843009213693951, 18446744073709551615, 36893488147419103231, 73786976294838206463, 147573952589676412927, 295147905179352825855, 590295810358705651711, 1180591620717411303423, 590295810358705651711, 2951479051793528258559, 590295810358705651711, 17118578500402463899647, 36008044431881044754431, 73786976294838206463999, 151115727451828646838271, 302231454903657293676543, 604462909807314587353087, 1208925819614629174706175, 2417851639229258349412351, 4835703278458516698824703, 2417851639229258349412351, 19342813113834066795298815, 38685626227668133590597631, 77371252455336267181195263, 154742504910672534362390527, 309485009821345068724781055, 618970019642690137449562111, 1237940039285380274899124223, 618970019642690137449562111, 3094850098213450687247810559, 618970019642690137449562111, 17950130569638013986037301247, 37757171198204098384423288831, 77371252455336267181195263999, 158456325028528675187087900671, 316912650057057350374175801343, 633825300114114700748351602687, 1267650600228229401496703205375]])
set_option maxRecDepth 10000
set_option maxHeartbeats 16000000
theorem c_FiveArrives (who wt oth : UInt8) (sm ln : Int) (hsm : 0 ≤ sm ∧ sm ≤ 65535) (hln : 0 ≤ ln ∧ ln ≤ 65535) (life ex bad : UInt8) : Fn Try.prog 3 [.o (.i .u8 (who.toNat : Int)), .o (.i .u8 (wt.toNat : Int)), .o (.i .u8 (oth.toNat : Int)), .o (.i .u16 sm), .o (.i .u16 ln), .o (.i .u8 (life.toNat : Int)), .o (.i .u8 (ex.toNat : Int)), .o (.i .u8 (bad.toNat : Int))] [] (.one (.c (.o (.b true)))) [] := by
  have h1 := byte_lt who
  have h2 := byte_lt wt
  have h3 := byte_lt oth
  have cS := c_Simple life ex bad
  have hO := simO_sm life ex bad
  have hO6 := simO_len (life.toNat : Int) (ex.toNat : Int) (bad.toNat : Int)
  have hf := flat_len deR_len (simO (life.toNat : Int) (ex.toNat : Int) (bad.toNat : Int))
  generalize simO (life.toNat : Int) (ex.toNat : Int) (bad.toNat : Int) = O at *
  have cU := c_User ((who.toNat : Int) % 3) (by omega)
  have cV := c_Service ((wt.toNat : Int) % 3) (by omega)
  have cK := c_Session 5 (by omega)
  have cL := c_Long ((oth.toNat : Int) % 8) (by omega)
  have U : ∀ n : Int, (userN n).length ≤ 3 := fun n => by unfold userN; split <;> (try split) <;> decide
  have S : ∀ n : Int, (serviceN n).length ≤ 6 := fun n => by unfold serviceN; split <;> (try split) <;> decide
  have I : ∀ n : Int, (serviceI n).length ≤ 4 := fun n => by unfold serviceI; split <;> (try split) <;> decide
  have T : ∀ n : Int, (realmN n).length ≤ 3 := fun n => by unfold realmN; split <;> (try split) <;> decide
  have U1 := U ((who.toNat : Int) % 3)
  have S1 := S ((wt.toNat : Int) % 3)
  have I1 := I ((wt.toNat : Int) % 3)
  have T1 := T ((who.toNat : Int) % 3 / 3)
  have T2 := T ((wt.toNat : Int) % 3 / 3)
  have k5 : 0 ≤ sessN 5 ∧ sessN 5 ≤ 18446744073709551615 := by decide
  clear U S I T
  generalize longK ((oth.toNat : Int) % 8) = Ko at *
  generalize userN ((who.toNat : Int) % 3) = U3 at *
  generalize serviceN ((wt.toNat : Int) % 3) = S3 at *
  generalize serviceI ((wt.toNat : Int) % 3) = I3 at *
  generalize realmN ((who.toNat : Int) % 3 / 3) = R3 at *
  generalize realmN ((wt.toNat : Int) % 3 / 3) = T3 at *
  generalize sessN 5 = K5 at *
  have cI := c_Issue [65, 84, 72] O (m := 6) hO6.symm (by omega) (by decide) hO U3 [] R3 S3 I3 T3 sm ln (who.toNat : Int) K5 (by simp only [List.length_nil]; omega) k5
  obtain ⟨A, hA⟩ : ∃ A : FArg, A = ⟨[65, 84, 72], O, U3, [], R3, S3, I3, T3, sm, ln, (who.toNat : Int), K5⟩ := ⟨_, rfl⟩
  rw [← hA] at cI
  refine Fn_intro (G := g3) (goodA rfl) (fn := Try.f3) rfl rfl rfl rfl rfl ?_
  by_cases he : (fiO A).2 = 0
  · obtain ⟨a0, a1, a2, a3, a4, a5, a6⟩ := fiO_is he
    have ok := fiO_ok a0 a1 a2 a3 a4 a5 a6
    have st := fi_steps a0 a1 a2 a3 a4 a5 a6
    have own := fa_own a0 a1 a2 a3 a4 a5 a6
    dsimp only [fiPart] at own
    have other := fun k' h => fa_other a0 a1 a2 a3 a4 a5 a6 (k' := k') h
    obtain ⟨-, -, -, -, bx, bd⟩ := fa_box a0 a1 a2 a3 a4 a5 a6
    obtain ⟨-, -, -, -, ⟨i, i1, i2⟩, ⟨j, j1, j2⟩⟩ := fi_at a0 a1 a2 a3
    obtain ⟨f1, f2⟩ := dbU_F (by decide) (by decide) a2
    obtain ⟨g1', g2'⟩ := dbU_F (by decide) (by decide) a3
    have lE1 : fiE A ≤ A.now + A.sec := by
      refine Int.le_trans (leS_le _ _) (Int.le_trans (leS_le _ _) ?_)
      split <;> omega
    have lE2 : ¬ (fiCu A).ex = 0 → fiE A ≤ (fiCu A).ex := fun h => Int.le_trans (leS_le _ _) (leS_ex h)
    have lE3 : ¬ (fiSu A).ex = 0 → fiE A ≤ (fiSu A).ex := fun h => leS_ex h
    rw [ok] at cI
    dsimp only [fiIss] at cI
    have e1 : A.l.getD i de0 = fiCu A := by rw [fiCu, i2, Int.toNat_natCast]
    have e2 : A.l.getD j de0 = fiSu A := by rw [fiSu, j2, Int.toNat_natCast]
    have q1 := c_rdbFind [65, 84, 72] O (m := 6) hO6.symm (by omega) U3 []
    have q2 := c_rdbFind [65, 84, 72] O (m := 6) hO6.symm (by omega) S3 I3
    obtain ⟨-, -, -, -, -, n1, n2, n3, n4, n5⟩ := st
    have c1 := c_Accept U3 [] R3 Ko (fiMsg A) (m := (fiMsg A).length) rfl (by omega)
    have c2 := c_rboxOpen (fiSl A) (m := (fiSl A).length) rfl (by omega) 9 (fiSu A).k
    have c3 := c_DecR (padS (frB (fiRec A))) (m := (padS (frB (fiRec A))).length) rfl (by omega)
    rw [bx] at c2
    rw [bd] at c3
    generalize padS (frB (fiRec A)) = PD at *
    dsimp only [fiRec] at c2 c3
    subst hA
    dsimp only at *
    have i3 : (dbF U3 [] O).1 = (i : Int) := f2.symm.trans i2
    have j3 : (dbF S3 I3 O).1 = (j : Int) := g2'.symm.trans j2
    rw [i3, f1] at q1
    rw [j3, g1'] at q2
    have hX2 := fun z hz K hK => headI_deK (l := O) (j := i) (z := z) hz e1 (K := K) i1 hK
    have hX4 := fun z hz K hK => headI_deX (l := O) (j := i) (z := z) hz e1 (K := K) i1 hK
    have hY2 := fun z hz K hK => headI_deK (l := O) (j := j) (z := z) hz e2 (K := K) j1 hK
    have hY4 := fun z hz K hK => headI_deX (l := O) (j := j) (z := z) hz e2 (K := K) j1 hK
    have hX5 := fun z f hz hf K hK => headI_deKK (l := O) (j := i) (z := z) (f := f) hz hf e1 (K := K) i1 hK
    have hX6 := fun z f hz hf K hK => headI_deXX (l := O) (j := i) (z := z) (f := f) hz hf e1 (K := K) i1 hK
    have hY5 := fun z f hz hf K hK => headI_deKK (l := O) (j := j) (z := z) (f := f) hz hf e2 (K := K) j1 hK
    have hY6 := fun z f hz hf K hK => headI_deXX (l := O) (j := j) (z := z) (f := f) hz hf e2 (K := K) j1 hK

    generalize fiE ⟨[65, 84, 72], O, U3, [], R3, S3, I3, T3, sm, ln, (who.toNat : Int), K5⟩ = E at *
    generalize fiCu ⟨[65, 84, 72], O, U3, [], R3, S3, I3, T3, sm, ln, (who.toNat : Int), K5⟩ = CU at *
    generalize fiSu ⟨[65, 84, 72], O, U3, [], R3, S3, I3, T3, sm, ln, (who.toNat : Int), K5⟩ = SU at *
    generalize fiSl ⟨[65, 84, 72], O, U3, [], R3, S3, I3, T3, sm, ln, (who.toNat : Int), K5⟩ = SL at *
    generalize fiMsg ⟨[65, 84, 72], O, U3, [], R3, S3, I3, T3, sm, ln, (who.toNat : Int), K5⟩ = MG at *
    clear ok bx bd hO i2 j2 f1 f2 g1' g2' i3 j3 a0 a1 a2 a3 a5 a6 he
    by_cases hk : CU.k = Ko
    · rw [hk] at own
      rw [own] at c1
      dsimp only at c1
      clear own other
      (repeat' ((conv => whnf) <;> first | with_reducible refine boolK_refl ?_ | refine natK_of (j := i) (by omega) ?_ | refine natK_of (j := j) (by omega) ?_ | exact rfl | with_reducible refine boolK_dec (fun _ => ?_) (fun _ => ?_) <;> try (exfalso; omega) | refine boolK_beq (fun _ => ?_) (fun _ => ?_) <;> try (exfalso; first | omega | with_reducible contradiction) | refine boolK_bne (fun _ => ?_) (fun _ => ?_) <;> try (exfalso; first | omega | with_reducible contradiction) | (with_reducible first | refine boolK_not ?_ | refine boolK_and ?_ | refine boolK_or ?_ | refine boolK_true ?_ | refine boolK_false ?_) | refine boolK_intro (fun _ => ?_) (fun _ => ?_) <;> try (exfalso; simp_all; done) | refine jA ?_ | refine jB ?_ | refine jC ?_ | refine jD ?_ | refine jE ?_ | refine jF ?_ | refine jG ?_ | refine jH ?_ | refine jI ?_ | refine jJ ?_ | refine jK ?_ | with_reducible refine natK_lit ?_ | refine natK_of rfl ?_ | refine natK_any ?_ | refine jO ?_ | refine jP ?_ | refine jQ ?_ | refine jR ?_ | refine jS ?_ | refine jT ?_ | refine jU (fun _ => ?_) | refine jV ?_ | refine jW ?_ | refine jX ?_ | refine jY ?_ | refine jZ ?_ | refine ja ?_ | refine jb ?_ | refine jc ?_ | refine jd ?_ | refine je ?_ | refine jf ?_ | refine jg ?_ | refine jh ?_ | refine ji ?_ | refine jj ?_ | refine jk ?_ | refine jn ?_ | refine jo ?_ | refine jp ?_ | refine jq ?_ | refine jr ?_ | refine js ?_ | refine callK_intro (c_awake25) ?_ | refine callK_intro (cS) ?_ | refine callK_intro (cU) ?_ | refine callK_intro (cV) ?_ | refine callK_intro (cK) ?_ | refine callK_intro (cL) ?_ | refine callK_intro (cI) ?_ | refine callK_intro (q1) ?_ | refine callK_intro (q2) ?_ | refine callK_intro (c1) ?_ | refine callK_intro (c2) ?_ | refine callK_intro (c3) ?_ | refine hX2 _ (by omega) _ (fun _ => ?_) | refine hX5 _ _ (by omega) rfl _ (fun _ => ?_) | refine hX6 _ _ (by omega) rfl _ (fun _ => ?_) | refine hY5 _ _ (by omega) rfl _ (fun _ => ?_) | refine hY6 _ _ (by omega) rfl _ (fun _ => ?_) | refine hX4 _ (by omega) _ (fun _ => ?_) | refine hY2 _ (by omega) _ (fun _ => ?_) | refine hY4 _ (by omega) _ (fun _ => ?_) | refine jt ?_ | refine jx ?_ | refine jy ?_ | refine ju ?_ | refine jv ?_)) <;> (try (conv => whnf))
    · rw [other Ko hk] at c1
      dsimp only [fp0] at c1
      clear own other
      (repeat' ((conv => whnf) <;> first | with_reducible refine boolK_refl ?_ | refine natK_of (j := i) (by omega) ?_ | refine natK_of (j := j) (by omega) ?_ | exact rfl | with_reducible refine boolK_dec (fun _ => ?_) (fun _ => ?_) <;> try (exfalso; omega) | refine boolK_beq (fun _ => ?_) (fun _ => ?_) <;> try (exfalso; first | omega | with_reducible contradiction) | refine boolK_bne (fun _ => ?_) (fun _ => ?_) <;> try (exfalso; first | omega | with_reducible contradiction) | (with_reducible first | refine boolK_not ?_ | refine boolK_and ?_ | refine boolK_or ?_ | refine boolK_true ?_ | refine boolK_false ?_) | refine boolK_intro (fun _ => ?_) (fun _ => ?_) <;> try (exfalso; simp_all; done) | refine jA ?_ | refine jB ?_ | refine jC ?_ | refine jD ?_ | refine jE ?_ | refine jF ?_ | refine jG ?_ | refine jH ?_ | refine jI ?_ | refine jJ ?_ | refine jK ?_ | with_reducible refine natK_lit ?_ | refine natK_of rfl ?_ | refine natK_any ?_ | refine jO ?_ | refine jP ?_ | refine jQ ?_ | refine jR ?_ | refine jS ?_ | refine jT ?_ | refine jU (fun _ => ?_) | refine jV ?_ | refine jW ?_ | refine jX ?_ | refine jY ?_ | refine jZ ?_ | refine ja ?_ | refine jb ?_ | refine jc ?_ | refine jd ?_ | refine je ?_ | refine jf ?_ | refine jg ?_ | refine jh ?_ | refine ji ?_ | refine jj ?_ | refine jk ?_ | refine jn ?_ | refine jo ?_ | refine jp ?_ | refine jq ?_ | refine jr ?_ | refine js ?_ | refine callK_intro (c_awake25) ?_ | refine callK_intro (cS) ?_ | refine callK_intro (cU) ?_ | refine callK_intro (cV) ?_ | refine callK_intro (cK) ?_ | refine callK_intro (cL) ?_ | refine callK_intro (cI) ?_ | refine callK_intro (q1) ?_ | refine callK_intro (q2) ?_ | refine callK_intro (c1) ?_ | refine callK_intro (c2) ?_ | refine callK_intro (c3) ?_ | refine hX2 _ (by omega) _ (fun _ => ?_) | refine hX5 _ _ (by omega) rfl _ (fun _ => ?_) | refine hX6 _ _ (by omega) rfl _ (fun _ => ?_) | refine hY5 _ _ (by omega) rfl _ (fun _ => ?_) | refine hY6 _ _ (by omega) rfl _ (fun _ => ?_) | refine hX4 _ (by omega) _ (fun _ => ?_) | refine hY2 _ (by omega) _ (fun _ => ?_) | refine hY4 _ (by omega) _ (fun _ => ?_) | refine jt ?_ | refine jx ?_ | refine jy ?_ | refine ju ?_ | refine jv ?_)) <;> (try (conv => whnf))
  · rw [fiO_err he] at cI
    dsimp only [fi0] at cI
    generalize (fiO A).2 = EE at *
    clear hA
    (repeat' ((conv => whnf) <;> first | exact rfl | with_reducible refine boolK_dec (fun _ => ?_) (fun _ => ?_) <;> try (exfalso; omega) | refine boolK_beq (fun _ => ?_) (fun _ => ?_) <;> try (exfalso; first | omega | with_reducible contradiction) | refine boolK_bne (fun _ => ?_) (fun _ => ?_) <;> try (exfalso; first | omega | with_reducible contradiction) | (with_reducible first | refine boolK_not ?_ | refine boolK_and ?_ | refine boolK_or ?_ | refine boolK_true ?_ | refine boolK_false ?_) | refine boolK_intro (fun _ => ?_) (fun _ => ?_) <;> try (exfalso; simp_all; done) | refine jA ?_ | refine jB ?_ | refine jC ?_ | refine jD ?_ | refine jE ?_ | refine jF ?_ | refine jG ?_ | refine jH ?_ | refine jI ?_ | refine jJ ?_ | refine jK ?_ | with_reducible refine natK_lit ?_ | refine natK_of rfl ?_ | refine natK_any ?_ | refine jO ?_ | refine jP ?_ | refine jQ ?_ | refine jR ?_ | refine jS ?_ | refine jT ?_ | refine jU (fun _ => ?_) | refine jV ?_ | refine jW ?_ | refine jX ?_ | refine jY ?_ | refine jZ ?_ | refine ja ?_ | refine jb ?_ | refine jc ?_ | refine jd ?_ | refine je ?_ | refine jf ?_ | refine jg ?_ | refine jh ?_ | refine ji ?_ | refine jj ?_ | refine jk ?_ | refine jn ?_ | refine jo ?_ | refine jp ?_ | refine jq ?_ | refine jr ?_ | refine js ?_ | refine callK_intro (c_awake25) ?_ | refine callK_intro (cS) ?_ | refine callK_intro (cU) ?_ | refine callK_intro (cV) ?_ | refine callK_intro (cK) ?_ | refine callK_intro (cL) ?_ | refine callK_intro (cI) ?_ | refine jt ?_ | refine jx ?_ | refine jy ?_ | refine ju ?_ | refine jv ?_)) <;> (try (conv => whnf))
end Go.Sx
namespace Go.Proofs.Ytcnemhfgpldplab
open Go.ChangeShapes Go.WideShapes Go.ChangeAt Go.RowKit Go.Sx
namespace FiveArrivesProof
set_option maxRecDepth 100000 in
theorem walk (W : World) (v0 v1 v2 v3 v4 v5 v6 v7 : Value) (ls0 ls1 ls2 ls3 ls4 ls5 ls6 ls7 : List L)
    (t0 : Typ (tabF tab) 5 ls0) (t1 : Typ (tabF tab) 5 ls1) (t2 : Typ (tabF tab) 5 ls2) (t3 : Typ (tabF tab) 22 ls3) (t4 : Typ (tabF tab) 22 ls4) (t5 : Typ (tabF tab) 5 ls5) (t6 : Typ (tabF tab) 5 ls6) (t7 : Typ (tabF tab) 5 ls7)
    (r0 : RelC (fun _ => False) W noMu (argC (tabF tab 5).agg ls0) v0) (r1 : RelC (fun _ => False) W noMu (argC (tabF tab 5).agg ls1) v1) (r2 : RelC (fun _ => False) W noMu (argC (tabF tab 5).agg ls2) v2) (r3 : RelC (fun _ => False) W noMu (argC (tabF tab 22).agg ls3) v3) (r4 : RelC (fun _ => False) W noMu (argC (tabF tab 22).agg ls4) v4) (r5 : RelC (fun _ => False) W noMu (argC (tabF tab 5).agg ls5) v5) (r6 : RelC (fun _ => False) W noMu (argC (tabF tab 5).agg ls6) v6) (r7 : RelC (fun _ => False) W noMu (argC (tabF tab 5).agg ls7) v7) :
    Calls Try.prog 3 #[v0, v1, v2, v3, v4, v5, v6, v7] W fun e w' => e = .returned (.bool true) ∧ Below W.heap.size W w' := by
  obtain ⟨a0, rfl⟩ := typ_u8 t0 rfl
  obtain ⟨a1, rfl⟩ := typ_u8 t1 rfl
  obtain ⟨a2, rfl⟩ := typ_u8 t2 rfl
  obtain ⟨a3, rfl, wa3⟩ := typ_int t3 rfl
  obtain ⟨a4, rfl, wa4⟩ := typ_int t4 rfl
  obtain ⟨a5, rfl⟩ := typ_u8 t5 rfl
  obtain ⟨a6, rfl⟩ := typ_u8 t6 rfl
  obtain ⟨a7, rfl⟩ := typ_u8 t7 rfl
  exact calls_of_fn Try.func3 rfl rfl (c_FiveArrives a0 a1 a2 a3 a4 (wf_u16 wa3) (wf_u16 wa4) a5 a6 a7) (relCs_cons r0 (relCs_cons r1 (relCs_cons r2 (relCs_cons r3 (relCs_cons r4 (relCs_cons r5 (relCs_cons r6 (relCs_cons r7 relCs_nil))))))))

set_option maxRecDepth 100000 in
theorem lifted (os : Os) (started : os.Started) (H : Type) (enc : TypeId × Value → H) :
    ReturnsInHanded {} Try.checked os 3 .any (Rows.fiveArrivesSpec.pre6 enc Try.prog Try.f3 Rows.fiveArrivesRow.domain false) (Rows.fiveArrivesSpec.post enc Try.prog Try.f3 false true false false) := by
  refine returnsInHanded_of_change (C := Try.checked) ownA started (by kernel_rfl) Try.func3
    (ChangeSpec.witness6 (enc := enc) (C := Try.checked) false ⟨#[], #[.int .u8 0, .int .u8 0, .int .u8 0, .int .u16 0, .int .u16 0, .int .u8 0, .int .u8 0, .int .u8 0], []⟩ 8 (by kernel_rfl) (by kernel_rfl) (by kernel_rfl) (by kernel_rfl)) ?_
  intro W base args ds gs before hval0 hW hcnd _
  have hval : ∀ (j : Nat) t v, Try.f3.params[j]? = some t → args[j]? = some v → Value.okWide Try.prog W .any base t v := hval0
  have hW' := hW
  obtain ⟨p, q, hA0, hV, rfl, hfz, hnd⟩ := hW
  have hA : DataW.TrodAll enc Try.prog W 0 (fun _ => true) true Try.f3.params.toList args.toList ds p := hA0
  rw [Try.params3] at hA hval
  obtain ⟨v0, vs0, d0, ds0, p0, q0, hargs, rfl, rfl, h0, r0⟩ := trodAll_cons hA
  obtain ⟨v1, vs1, d1, ds1, p1, q1, rfl, rfl, rfl, h1, r1⟩ := trodAll_cons r0
  obtain ⟨v2, vs2, d2, ds2, p2, q2, rfl, rfl, rfl, h2, r2⟩ := trodAll_cons r1
  obtain ⟨v3, vs3, d3, ds3, p3, q3, rfl, rfl, rfl, h3, r3⟩ := trodAll_cons r2
  obtain ⟨v4, vs4, d4, ds4, p4, q4, rfl, rfl, rfl, h4, r4⟩ := trodAll_cons r3
  obtain ⟨v5, vs5, d5, ds5, p5, q5, rfl, rfl, rfl, h5, r5⟩ := trodAll_cons r4
  obtain ⟨v6, vs6, d6, ds6, p6, q6, rfl, rfl, rfl, h6, r6⟩ := trodAll_cons r5
  obtain ⟨v7, vs7, d7, ds7, p7, q7, rfl, rfl, rfl, h7, r7⟩ := trodAll_cons r6
  obtain ⟨rfl, rfl, rfl⟩ := trodAll_nil r7
  obtain rfl : args = #[v0, v1, v2, v3, v4, v5, v6, v7] := by cases args; simp_all
  obtain ⟨rfl, rfl⟩ := trodVars_none hV
  obtain ⟨ls0, t0, c0⟩ := rel_arg tokA (n := 9) rfl h0 (hval 0 5 v0 rfl rfl)
  obtain ⟨ls1, t1, c1⟩ := rel_arg tokA (n := 9) rfl h1 (hval 1 5 v1 rfl rfl)
  obtain ⟨ls2, t2, c2⟩ := rel_arg tokA (n := 9) rfl h2 (hval 2 5 v2 rfl rfl)
  obtain ⟨ls3, t3, c3⟩ := rel_arg tokA (n := 9) rfl h3 (hval 3 22 v3 rfl rfl)
  obtain ⟨ls4, t4, c4⟩ := rel_arg tokA (n := 9) rfl h4 (hval 4 22 v4 rfl rfl)
  obtain ⟨ls5, t5, c5⟩ := rel_arg tokA (n := 9) rfl h5 (hval 5 5 v5 rfl rfl)
  obtain ⟨ls6, t6, c6⟩ := rel_arg tokA (n := 9) rfl h6 (hval 6 5 v6 rfl rfl)
  obtain ⟨ls7, t7, c7⟩ := rel_arg tokA (n := 9) rfl h7 (hval 7 5 v7 rfl rfl)
  have lt0 : ∀ x ∈ p0, x.block < W.heap.size := by obtain ⟨m, hm⟩ := h0; exact DataW.trod_lt m _ _ _ hm
  have lt1 : ∀ x ∈ p1, x.block < W.heap.size := by obtain ⟨m, hm⟩ := h1; exact DataW.trod_lt m _ _ _ hm
  have lt2 : ∀ x ∈ p2, x.block < W.heap.size := by obtain ⟨m, hm⟩ := h2; exact DataW.trod_lt m _ _ _ hm
  have lt3 : ∀ x ∈ p3, x.block < W.heap.size := by obtain ⟨m, hm⟩ := h3; exact DataW.trod_lt m _ _ _ hm
  have lt4 : ∀ x ∈ p4, x.block < W.heap.size := by obtain ⟨m, hm⟩ := h4; exact DataW.trod_lt m _ _ _ hm
  have lt5 : ∀ x ∈ p5, x.block < W.heap.size := by obtain ⟨m, hm⟩ := h5; exact DataW.trod_lt m _ _ _ hm
  have lt6 : ∀ x ∈ p6, x.block < W.heap.size := by obtain ⟨m, hm⟩ := h6; exact DataW.trod_lt m _ _ _ hm
  have lt7 : ∀ x ∈ p7, x.block < W.heap.size := by obtain ⟨m, hm⟩ := h7; exact DataW.trod_lt m _ _ _ hm
  clear hA0 hval0
  refine (walk W v0 v1 v2 v3 v4 v5 v6 v7 ls0 ls1 ls2 ls3 ls4 ls5 ls6 ls7 t0 t1 t2 t3 t4 t5 t6 t7 c0 c1 c2 c3 c4 c5 c6 c7).mono fun e W' ⟨he, bel⟩ => ?_
  subst he
  exact ⟨_, rfl, _, _, _, [], _, [], hW', trodAll_mk1 (shut_bool Try.underlying4 _), (trodAll_cons_mk (Below.trod laidOutA (by kernel_rfl) (of_decide_eq_true (by kernel_rfl)) h0 bel lt0) (trodAll_cons_mk (Below.trod laidOutA (by kernel_rfl) (of_decide_eq_true (by kernel_rfl)) h1 bel lt1) (trodAll_cons_mk (Below.trod laidOutA (by kernel_rfl) (of_decide_eq_true (by kernel_rfl)) h2 bel lt2) (trodAll_cons_mk (Below.trod laidOutA (by kernel_rfl) (of_decide_eq_true (by kernel_rfl)) h3 bel lt3) (trodAll_cons_mk (Below.trod laidOutA (by kernel_rfl) (of_decide_eq_true (by kernel_rfl)) h4 bel lt4) (trodAll_cons_mk (Below.trod laidOutA (by kernel_rfl) (of_decide_eq_true (by kernel_rfl)) h5 bel lt5) (trodAll_cons_mk (Below.trod laidOutA (by kernel_rfl) (of_decide_eq_true (by kernel_rfl)) h6 bel lt6) (trodAll_cons_mk (Below.trod laidOutA (by kernel_rfl) (of_decide_eq_true (by kernel_rfl)) h7 bel lt7) trodAll_mk0)))))))), rfl, bel.frame _, fun h => by cases h⟩

theorem over : Rows.fiveArrivesRow.holds Try.pinned (OpenSpec.ofChange Rows.fiveArrivesSpec) :=
  OpenClaim.holds_of_wide 3 Try.f3 rfl rfl rfl rfl rfl rfl rfl ⟨rfl, rfl, rfl, rfl, rfl⟩ rfl rfl rfl rfl rfl (by kernel_rfl) Try.func3 (by kernel_rfl)
    (of_decide_eq_true (by kernel_rfl)) (by unfold Func.isWrapper; first | (rw [if_pos (by decide +kernel)]; kernel_rfl) | (rw [if_neg (by decide +kernel)]; exact ⟨rfl, rfl⟩))
    (fun os started H enc _ => lifted os started H enc)
end FiveArrivesProof

theorem fiveArrives_proved : Rows.FiveArrivesSaid := FiveArrivesProof.over
#print axioms fiveArrives_proved
end Go.Proofs.Ytcnemhfgpldplab

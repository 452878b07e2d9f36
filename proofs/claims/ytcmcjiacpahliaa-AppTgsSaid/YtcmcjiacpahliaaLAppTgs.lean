/-
  The statement AppTgs: the law returns true for every input; no conditions.
-/
import Derived.Test.YtcmcjiacpahliaaCAppL
import Derived.Test.YtcmcjiacpahliaaLOwn
import Derived.Test.YtcmcjiacpahliaaCTickL
set_option linter.all false
namespace Go.Sx
open Go.Proofs
noncomputable def g13 : Par := par 113 (nthLL [[2, 3, 4], [2, 3, 4, 20], [6], [2, 3, 4, 40], [6], [3, 4, 7], [3, 8], [3, 8, 9], [3, 8, 9, 55], [3, 8, 9], [3, 8, 9, 10], [3, 8, 9, 10, 66], [3, 8, 9, 10], [3, 8, 9, 10, 11, 12], [3, 8, 9, 10, 11, 12, 13, 14], [3, 8, 9, 10, 11, 12, 88], [6], [3, 8, 9, 10, 11, 90], [3, 8, 9, 10, 11, 15, 16], [3, 8, 9, 10, 15, 16, 18], [3, 8, 9, 112], [6], [6]]) [6] (nthLL [[], [], [], [], [], [], [0, 1, 0, 4, 0, 16, 0, 64, 0, 256, 1023, 0, 4095]])
set_option maxRecDepth 10000
set_option maxHeartbeats 16000000
theorem c_AppTgs (li mu : Bool) (kv : Int) (re t u : List UInt8) (tm lf : Int) (sv si : List UInt8) (xl xm : Bool) (xk xr : UInt8) (xt xu : List UInt8) (q : List UInt8) : Fn Try.prog 13 [.a [.b li, .b mu, .i .i64 kv, .s re, .sl (t.map u8) t.length, .sl (u.map u8) u.length, .i .i64 tm, .i .i64 lf, .s sv, .s si], .a [.b xl, .b xm, .i .u8 (xk.toNat : Int), .i .u8 (xr.toNat : Int), .sl (xt.map u8) xt.length, .sl (xu.map u8) xu.length], .o (.sl (q.map u8) q.length)] [] (.one (.c (.o (.b true)))) [] := by
  refine Fn_intro (G := g13) (goodA rfl) (fn := Try.f13) rfl rfl rfl rfl rfl ?_
  by_cases hl : re.length > 100 ∨ t.length > 400 ∨ u.length > 400 ∨ sv.length > 100 ∨ si.length > 100 ∨ q.length > 40
  · (repeat' ((conv => whnf) <;> first | exact rfl | with_reducible refine boolK_dec (fun _ => ?_) (fun _ => ?_) <;> try (exfalso; omega) | refine boolK_beq (fun _ => ?_) (fun _ => ?_) <;> try (exfalso; first | omega | contradiction) | refine boolK_bne (fun _ => ?_) (fun _ => ?_) <;> try (exfalso; first | omega | contradiction) | (with_reducible first | refine boolK_not ?_ | refine boolK_and ?_ | refine boolK_or ?_ | refine boolK_true ?_ | refine boolK_false ?_) | refine boolK_intro (fun _ => ?_) (fun _ => ?_) <;> try (exfalso; simp_all; done) | refine jA ?_ | refine jB ?_ | refine jC ?_ | refine jD ?_ | refine jE ?_ | refine jF ?_ | refine jG ?_ | refine jH ?_ | refine jI ?_ | refine jJ ?_ | refine jK ?_ | with_reducible refine natK_lit ?_ | refine natK_of rfl ?_ | refine natK_any ?_ | refine jP ?_ | refine jQ ?_ | refine jR ?_ | refine jS ?_ | refine jT ?_ | refine jU (fun _ => ?_) | refine jV ?_ | refine jW ?_ | refine jX ?_ | refine jY ?_ | refine jZ ?_ | refine ja ?_ | refine jb ?_ | refine jc ?_ | refine jd ?_ | refine je ?_ | refine jf ?_ | refine jg ?_ | refine jh ?_ | refine ji ?_ | refine jj ?_ | refine jk ?_ | refine jn ?_ | refine jo ?_ | refine jp ?_ | refine jq ?_ | refine jr ?_ | refine js ?_ | refine callK_intro (c_awake10) ?_ | refine callK_intro (c_long10 _ _ _ _ _ _) ?_ | refine jt ?_ | refine jx ?_ | refine jy ?_ | refine ju ?_ | refine jv ?_)) <;> (try (conv => whnf))
  · obtain ⟨t', u', h1, h2, _, _, cQ⟩ := c_request xl xm xk xr xt xu
    obtain ⟨tli, tx, ty, tz, tad, tse, tlf, tis, tsn, tsi, tv, _, cT⟩ := c_Ticket q rfl (by omega)
    obtain ⟨_, v2, v3, _, _, v6, v7⟩ := tickC_ok tv
    have l4 := name_len v2
    have l5 := inst_len v3
    have hv := request_ok (kv := xk) (re := xr) h1 h2
    have hr := realm_len (realm_valid (xr.toNat : Int))
    have hk := byte_lt xk
    generalize realmN (xr.toNat : Int) = rr at *
    have e3 := c_EncodeTgs xl false (xk.toNat : Int) tis tlf rr t' u' tsn tsi (by omega) (by omega) (by omega) (by omega) (by omega)
    have f3 := c_rEncodeTgs xl false (xk.toNat : Int) tis tlf rr t' u' tsn tsi (by omega) (by omega) (by omega) (by omega) (by omega)
    have n3 := tgN_len ((xl, false, (xk.toNat : Int), rr, t', u'), tis, tlf, tsn, tsi)
    have m3 := tgN_ok (li := xl) (tgC_0 (mu := false) rfl hv v2 v3 v7 v6)
    rw [m3] at e3 f3 n3
    dsimp only at e3 f3 n3
    generalize tgB xl false (xk.toNat : Int) rr t' u' tis tlf tsn tsi = B3 at *
    have d3 := c_DecodeTgs B3 rfl (by omega)
    have g3 := c_DecodeAp B3 rfl (by omega)
    rw [tgD_trip m3] at d3
    have z3 := tg_noap m3
    generalize apD B3 = G3 at *
    have s3 := c_SameTgs xl false (xk.toNat : Int) tis tlf rr t' u' tsn tsi
    dsimp only at d3
    clear m3 n3
    have e2 := c_EncodeTgs xl true (xk.toNat : Int) tis tlf rr t' u' tsn tsi (by omega) (by omega) (by omega) (by omega) (by omega)
    have f2 := c_rEncodeTgs xl true (xk.toNat : Int) tis tlf rr t' u' tsn tsi (by omega) (by omega) (by omega) (by omega) (by omega)
    rw [tgN_no (by rw [tgC_mu rfl]; decide), tgC_mu rfl] at e2 f2
    dsimp only at e2 f2
    clear hv tv v2 v3
    have e1 := c_EncodeTgs li mu kv tm lf re t u sv si (by omega) (by omega) (by omega) (by omega) (by omega)
    have f1 := c_rEncodeTgs li mu kv tm lf re t u sv si (by omega) (by omega) (by omega) (by omega) (by omega)
    have n1 := tgN_len ((li, mu, kv, re, t, u), tm, lf, sv, si)
    have s1 := c_SameTgs li mu kv tm lf re t u sv si
    cases xm
    · by_cases hz : (tgN ((li, mu, kv, re, t, u), tm, lf, sv, si)).2 = 0
      · obtain ⟨B1, m1⟩ : ∃ b, tgN ((li, mu, kv, re, t, u), tm, lf, sv, si) = (b, 0) := ⟨_, pair_of hz rfl⟩
        rw [m1] at e1 f1 n1
        dsimp only at e1 f1 n1
        have d1 := c_DecodeTgs B1 rfl (by omega)
        have g1 := c_DecodeAp B1 rfl (by omega)
        rw [tgD_trip m1] at d1
        have z1 := tg_noap m1
        generalize apD B1 = G1 at *
        dsimp only at d1
        clear m1 hz n1
        (repeat' ((conv => whnf) <;> first | with_reducible refine boolK_refl ?_ | exact rfl | with_reducible refine boolK_dec (fun _ => ?_) (fun _ => ?_) <;> try (exfalso; omega) | refine boolK_beq (fun _ => ?_) (fun _ => ?_) <;> try (exfalso; first | omega | contradiction) | refine boolK_bne (fun _ => ?_) (fun _ => ?_) <;> try (exfalso; first | omega | contradiction) | (with_reducible first | refine boolK_not ?_ | refine boolK_and ?_ | refine boolK_or ?_ | refine boolK_true ?_ | refine boolK_false ?_) | refine boolK_intro (fun _ => ?_) (fun _ => ?_) <;> try (exfalso; simp_all; done) | refine jA ?_ | refine jB ?_ | refine jC ?_ | refine jD ?_ | refine jE ?_ | refine jF ?_ | refine jG ?_ | refine jH ?_ | refine jI ?_ | refine jJ ?_ | refine jK ?_ | with_reducible refine natK_lit ?_ | refine natK_of rfl ?_ | refine natK_any ?_ | refine jP ?_ | refine jQ ?_ | refine jR ?_ | refine jS ?_ | refine jT ?_ | refine jU (fun _ => ?_) | refine jV ?_ | refine jW ?_ | refine jX ?_ | refine jY ?_ | refine jZ ?_ | refine ja ?_ | refine jb ?_ | refine jc ?_ | refine jd ?_ | refine je ?_ | refine jf ?_ | refine jg ?_ | refine jh ?_ | refine ji ?_ | refine jj ?_ | refine jk ?_ | refine jn ?_ | refine jo ?_ | refine jp ?_ | refine jq ?_ | refine jr ?_ | refine js ?_ | refine callK_intro (c_awake10) ?_ | refine callK_intro (c_long10 _ _ _ _ _ _) ?_ | refine callK_intro (cQ) ?_ | refine callK_intro (cT) ?_ | refine callK_intro (e1) ?_ | refine callK_intro (f1) ?_ | refine callK_intro (d1) ?_ | refine callK_intro (g1) ?_ | refine callK_intro (s1) ?_ | refine callK_intro (e2) ?_ | refine callK_intro (f2) ?_ | refine callK_intro (e3) ?_ | refine callK_intro (f3) ?_ | refine callK_intro (d3) ?_ | refine callK_intro (g3) ?_ | refine callK_intro (s3) ?_ | refine loopK_step (G := g13) ?_ | refine jt ?_ | refine jx ?_ | refine jy ?_ | refine ju ?_ | refine jv ?_)) <;> (try (conv => whnf))
      · generalize tgN ((li, mu, kv, re, t, u), tm, lf, sv, si) = V1 at *
        (repeat' ((conv => whnf) <;> first | with_reducible refine boolK_refl ?_ | exact rfl | with_reducible refine boolK_dec (fun _ => ?_) (fun _ => ?_) <;> try (exfalso; omega) | refine boolK_beq (fun _ => ?_) (fun _ => ?_) <;> try (exfalso; first | omega | contradiction) | refine boolK_bne (fun _ => ?_) (fun _ => ?_) <;> try (exfalso; first | omega | contradiction) | (with_reducible first | refine boolK_not ?_ | refine boolK_and ?_ | refine boolK_or ?_ | refine boolK_true ?_ | refine boolK_false ?_) | refine boolK_intro (fun _ => ?_) (fun _ => ?_) <;> try (exfalso; simp_all; done) | refine jA ?_ | refine jB ?_ | refine jC ?_ | refine jD ?_ | refine jE ?_ | refine jF ?_ | refine jG ?_ | refine jH ?_ | refine jI ?_ | refine jJ ?_ | refine jK ?_ | with_reducible refine natK_lit ?_ | refine natK_of rfl ?_ | refine natK_any ?_ | refine jP ?_ | refine jQ ?_ | refine jR ?_ | refine jS ?_ | refine jT ?_ | refine jU (fun _ => ?_) | refine jV ?_ | refine jW ?_ | refine jX ?_ | refine jY ?_ | refine jZ ?_ | refine ja ?_ | refine jb ?_ | refine jc ?_ | refine jd ?_ | refine je ?_ | refine jf ?_ | refine jg ?_ | refine jh ?_ | refine ji ?_ | refine jj ?_ | refine jk ?_ | refine jn ?_ | refine jo ?_ | refine jp ?_ | refine jq ?_ | refine jr ?_ | refine js ?_ | refine callK_intro (c_awake10) ?_ | refine callK_intro (c_long10 _ _ _ _ _ _) ?_ | refine callK_intro (cQ) ?_ | refine callK_intro (cT) ?_ | refine callK_intro (e1) ?_ | refine callK_intro (f1) ?_ | refine callK_intro (e2) ?_ | refine callK_intro (f2) ?_ | refine callK_intro (e3) ?_ | refine callK_intro (f3) ?_ | refine callK_intro (d3) ?_ | refine callK_intro (g3) ?_ | refine callK_intro (s3) ?_ | refine loopK_step (G := g13) ?_ | refine jt ?_ | refine jx ?_ | refine jy ?_ | refine ju ?_ | refine jv ?_)) <;> (try (conv => whnf))
    · by_cases hz : (tgN ((li, mu, kv, re, t, u), tm, lf, sv, si)).2 = 0
      · obtain ⟨B1, m1⟩ : ∃ b, tgN ((li, mu, kv, re, t, u), tm, lf, sv, si) = (b, 0) := ⟨_, pair_of hz rfl⟩
        rw [m1] at e1 f1 n1
        dsimp only at e1 f1 n1
        have d1 := c_DecodeTgs B1 rfl (by omega)
        have g1 := c_DecodeAp B1 rfl (by omega)
        rw [tgD_trip m1] at d1
        have z1 := tg_noap m1
        generalize apD B1 = G1 at *
        dsimp only at d1
        clear m1 hz n1
        (repeat' ((conv => whnf) <;> first | with_reducible refine boolK_refl ?_ | exact rfl | with_reducible refine boolK_dec (fun _ => ?_) (fun _ => ?_) <;> try (exfalso; omega) | refine boolK_beq (fun _ => ?_) (fun _ => ?_) <;> try (exfalso; first | omega | contradiction) | refine boolK_bne (fun _ => ?_) (fun _ => ?_) <;> try (exfalso; first | omega | contradiction) | (with_reducible first | refine boolK_not ?_ | refine boolK_and ?_ | refine boolK_or ?_ | refine boolK_true ?_ | refine boolK_false ?_) | refine boolK_intro (fun _ => ?_) (fun _ => ?_) <;> try (exfalso; simp_all; done) | refine jA ?_ | refine jB ?_ | refine jC ?_ | refine jD ?_ | refine jE ?_ | refine jF ?_ | refine jG ?_ | refine jH ?_ | refine jI ?_ | refine jJ ?_ | refine jK ?_ | with_reducible refine natK_lit ?_ | refine natK_of rfl ?_ | refine natK_any ?_ | refine jP ?_ | refine jQ ?_ | refine jR ?_ | refine jS ?_ | refine jT ?_ | refine jU (fun _ => ?_) | refine jV ?_ | refine jW ?_ | refine jX ?_ | refine jY ?_ | refine jZ ?_ | refine ja ?_ | refine jb ?_ | refine jc ?_ | refine jd ?_ | refine je ?_ | refine jf ?_ | refine jg ?_ | refine jh ?_ | refine ji ?_ | refine jj ?_ | refine jk ?_ | refine jn ?_ | refine jo ?_ | refine jp ?_ | refine jq ?_ | refine jr ?_ | refine js ?_ | refine callK_intro (c_awake10) ?_ | refine callK_intro (c_long10 _ _ _ _ _ _) ?_ | refine callK_intro (cQ) ?_ | refine callK_intro (cT) ?_ | refine callK_intro (e1) ?_ | refine callK_intro (f1) ?_ | refine callK_intro (d1) ?_ | refine callK_intro (g1) ?_ | refine callK_intro (s1) ?_ | refine callK_intro (e2) ?_ | refine callK_intro (f2) ?_ | refine callK_intro (e3) ?_ | refine callK_intro (f3) ?_ | refine callK_intro (d3) ?_ | refine callK_intro (g3) ?_ | refine callK_intro (s3) ?_ | refine loopK_step (G := g13) ?_ | refine jt ?_ | refine jx ?_ | refine jy ?_ | refine ju ?_ | refine jv ?_)) <;> (try (conv => whnf))
      · generalize tgN ((li, mu, kv, re, t, u), tm, lf, sv, si) = V1 at *
        (repeat' ((conv => whnf) <;> first | with_reducible refine boolK_refl ?_ | exact rfl | with_reducible refine boolK_dec (fun _ => ?_) (fun _ => ?_) <;> try (exfalso; omega) | refine boolK_beq (fun _ => ?_) (fun _ => ?_) <;> try (exfalso; first | omega | contradiction) | refine boolK_bne (fun _ => ?_) (fun _ => ?_) <;> try (exfalso; first | omega | contradiction) | (with_reducible first | refine boolK_not ?_ | refine boolK_and ?_ | refine boolK_or ?_ | refine boolK_true ?_ | refine boolK_false ?_) | refine boolK_intro (fun _ => ?_) (fun _ => ?_) <;> try (exfalso; simp_all; done) | refine jA ?_ | refine jB ?_ | refine jC ?_ | refine jD ?_ | refine jE ?_ | refine jF ?_ | refine jG ?_ | refine jH ?_ | refine jI ?_ | refine jJ ?_ | refine jK ?_ | with_reducible refine natK_lit ?_ | refine natK_of rfl ?_ | refine natK_any ?_ | refine jP ?_ | refine jQ ?_ | refine jR ?_ | refine jS ?_ | refine jT ?_ | refine jU (fun _ => ?_) | refine jV ?_ | refine jW ?_ | refine jX ?_ | refine jY ?_ | refine jZ ?_ | refine ja ?_ | refine jb ?_ | refine jc ?_ | refine jd ?_ | refine je ?_ | refine jf ?_ | refine jg ?_ | refine jh ?_ | refine ji ?_ | refine jj ?_ | refine jk ?_ | refine jn ?_ | refine jo ?_ | refine jp ?_ | refine jq ?_ | refine jr ?_ | refine js ?_ | refine callK_intro (c_awake10) ?_ | refine callK_intro (c_long10 _ _ _ _ _ _) ?_ | refine callK_intro (cQ) ?_ | refine callK_intro (cT) ?_ | refine callK_intro (e1) ?_ | refine callK_intro (f1) ?_ | refine callK_intro (e2) ?_ | refine callK_intro (f2) ?_ | refine callK_intro (e3) ?_ | refine callK_intro (f3) ?_ | refine callK_intro (d3) ?_ | refine callK_intro (g3) ?_ | refine callK_intro (s3) ?_ | refine loopK_step (G := g13) ?_ | refine jt ?_ | refine jx ?_ | refine jy ?_ | refine ju ?_ | refine jv ?_)) <;> (try (conv => whnf))
end Go.Sx
namespace Go.Proofs.Ytcmcjiacpahliaa
open Go.ChangeShapes Go.WideShapes Go.ChangeAt Go.RowKit Go.Sx
namespace AppTgsProof
set_option maxRecDepth 100000 in
theorem walk (W : World) (v0 v1 v2 : Value) (ls0 ls1 ls2 : List L)
    (t0 : Typ (tabF tab) 103 ls0) (t1 : Typ (tabF tab) 95 ls1) (t2 : Typ (tabF tab) 41 ls2)
    (r0 : RelC (fun _ => False) W noMu (argC (tabF tab 103).agg ls0) v0) (r1 : RelC (fun _ => False) W noMu (argC (tabF tab 95).agg ls1) v1) (r2 : RelC (fun _ => False) W noMu (argC (tabF tab 41).agg ls2) v2) :
    Calls Try.prog 13 #[v0, v1, v2] W fun e w' => e = .returned (.bool true) ∧ Below W.heap.size W w' := by
  obtain ⟨partsa0, rfl, hla0, hpa0⟩ := typ_struct t0 rfl
  obtain ⟨qa0_0, qa0_1, qa0_2, qa0_3, qa0_4, rfl⟩ : ∃ qa0_0 qa0_1 qa0_2 qa0_3 qa0_4, partsa0 = [qa0_0, qa0_1, qa0_2, qa0_3, qa0_4] := by
    match partsa0, hla0 with
    | [qa0_0, qa0_1, qa0_2, qa0_3, qa0_4], _ => exact ⟨qa0_0, qa0_1, qa0_2, qa0_3, qa0_4, rfl⟩
  have ta0_0 := hpa0 0 _ qa0_0 rfl rfl
  obtain ⟨partsa0_0, rfl, hla0_0, hpa0_0⟩ := typ_struct ta0_0 rfl
  obtain ⟨qa0_0_0, qa0_0_1, qa0_0_2, qa0_0_3, qa0_0_4, qa0_0_5, rfl⟩ : ∃ qa0_0_0 qa0_0_1 qa0_0_2 qa0_0_3 qa0_0_4 qa0_0_5, partsa0_0 = [qa0_0_0, qa0_0_1, qa0_0_2, qa0_0_3, qa0_0_4, qa0_0_5] := by
    match partsa0_0, hla0_0 with
    | [qa0_0_0, qa0_0_1, qa0_0_2, qa0_0_3, qa0_0_4, qa0_0_5], _ => exact ⟨qa0_0_0, qa0_0_1, qa0_0_2, qa0_0_3, qa0_0_4, qa0_0_5, rfl⟩
  have ta0_0_0 := hpa0_0 0 _ qa0_0_0 rfl rfl
  obtain ⟨a0_0_0, rfl⟩ := typ_bool ta0_0_0 rfl
  have ta0_0_1 := hpa0_0 1 _ qa0_0_1 rfl rfl
  obtain ⟨a0_0_1, rfl⟩ := typ_bool ta0_0_1 rfl
  have ta0_0_2 := hpa0_0 2 _ qa0_0_2 rfl rfl
  obtain ⟨a0_0_2, rfl, wa0_0_2⟩ := typ_int ta0_0_2 rfl
  have ta0_0_3 := hpa0_0 3 _ qa0_0_3 rfl rfl
  obtain ⟨a0_0_3, rfl⟩ := typ_str ta0_0_3 rfl
  have ta0_0_4 := hpa0_0 4 _ qa0_0_4 rfl rfl
  obtain ⟨a0_0_4, rfl⟩ := typ_bytes ta0_0_4 rfl rfl
  have ta0_0_5 := hpa0_0 5 _ qa0_0_5 rfl rfl
  obtain ⟨a0_0_5, rfl⟩ := typ_bytes ta0_0_5 rfl rfl
  have ta0_1 := hpa0 1 _ qa0_1 rfl rfl
  obtain ⟨a0_1, rfl, wa0_1⟩ := typ_int ta0_1 rfl
  have ta0_2 := hpa0 2 _ qa0_2 rfl rfl
  obtain ⟨a0_2, rfl, wa0_2⟩ := typ_int ta0_2 rfl
  have ta0_3 := hpa0 3 _ qa0_3 rfl rfl
  obtain ⟨a0_3, rfl⟩ := typ_str ta0_3 rfl
  have ta0_4 := hpa0 4 _ qa0_4 rfl rfl
  obtain ⟨a0_4, rfl⟩ := typ_str ta0_4 rfl
  obtain ⟨partsa1, rfl, hla1, hpa1⟩ := typ_struct t1 rfl
  obtain ⟨qa1_0, qa1_1, qa1_2, qa1_3, qa1_4, qa1_5, rfl⟩ : ∃ qa1_0 qa1_1 qa1_2 qa1_3 qa1_4 qa1_5, partsa1 = [qa1_0, qa1_1, qa1_2, qa1_3, qa1_4, qa1_5] := by
    match partsa1, hla1 with
    | [qa1_0, qa1_1, qa1_2, qa1_3, qa1_4, qa1_5], _ => exact ⟨qa1_0, qa1_1, qa1_2, qa1_3, qa1_4, qa1_5, rfl⟩
  have ta1_0 := hpa1 0 _ qa1_0 rfl rfl
  obtain ⟨a1_0, rfl⟩ := typ_bool ta1_0 rfl
  have ta1_1 := hpa1 1 _ qa1_1 rfl rfl
  obtain ⟨a1_1, rfl⟩ := typ_bool ta1_1 rfl
  have ta1_2 := hpa1 2 _ qa1_2 rfl rfl
  obtain ⟨a1_2, rfl⟩ := typ_u8 ta1_2 rfl
  have ta1_3 := hpa1 3 _ qa1_3 rfl rfl
  obtain ⟨a1_3, rfl⟩ := typ_u8 ta1_3 rfl
  have ta1_4 := hpa1 4 _ qa1_4 rfl rfl
  obtain ⟨a1_4, rfl⟩ := typ_bytes ta1_4 rfl rfl
  have ta1_5 := hpa1 5 _ qa1_5 rfl rfl
  obtain ⟨a1_5, rfl⟩ := typ_bytes ta1_5 rfl rfl
  obtain ⟨a2, rfl⟩ := typ_bytes t2 rfl rfl
  exact calls_of_fn Try.func13 rfl rfl (c_AppTgs a0_0_0 a0_0_1 a0_0_2 a0_0_3 a0_0_4 a0_0_5 a0_1 a0_2 a0_3 a0_4 a1_0 a1_1 a1_2 a1_3 a1_4 a1_5 a2) (relCs_cons r0 (relCs_cons r1 (relCs_cons r2 relCs_nil)))

set_option maxRecDepth 100000 in
theorem lifted (os : Os) (started : os.Started) (H : Type) (enc : TypeId × Value → H) :
    ReturnsInHanded {} Try.checked os 13 .any (Rows.appTgsSpec.pre6 enc Try.prog Try.f13 Rows.appTgsRow.domain false) (Rows.appTgsSpec.post enc Try.prog Try.f13 false true false false) := by
  refine returnsInHanded_of_change (C := Try.checked) ownA started (by kernel_rfl) Try.func13
    (ChangeSpec.witness6 (enc := enc) (C := Try.checked) false ⟨#[], #[.agg #[.bool false, .bool false, .int .i64 0, .string ByteArray.empty, .slice none 0 0, .slice none 0 0, .int .i64 0, .int .i64 0, .string ByteArray.empty, .string ByteArray.empty], .agg #[.bool false, .bool false, .int .u8 0, .int .u8 0, .slice none 0 0, .slice none 0 0], .slice none 0 0], []⟩ 8 (by kernel_rfl) (by kernel_rfl) (by kernel_rfl) (by kernel_rfl)) ?_
  intro W base args ds gs before hval0 hW hcnd _
  have hval : ∀ (j : Nat) t v, Try.f13.params[j]? = some t → args[j]? = some v → Value.okWide Try.prog W .any base t v := hval0
  have hW' := hW
  obtain ⟨p, q, hA0, hV, rfl, hfz, hnd⟩ := hW
  have hA : DataW.TrodAll enc Try.prog W 0 (fun _ => true) true Try.f13.params.toList args.toList ds p := hA0
  rw [Try.params13] at hA hval
  obtain ⟨v0, vs0, d0, ds0, p0, q0, hargs, rfl, rfl, h0, r0⟩ := trodAll_cons hA
  obtain ⟨v1, vs1, d1, ds1, p1, q1, rfl, rfl, rfl, h1, r1⟩ := trodAll_cons r0
  obtain ⟨v2, vs2, d2, ds2, p2, q2, rfl, rfl, rfl, h2, r2⟩ := trodAll_cons r1
  obtain ⟨rfl, rfl, rfl⟩ := trodAll_nil r2
  obtain rfl : args = #[v0, v1, v2] := by cases args; simp_all
  obtain ⟨rfl, rfl⟩ := trodVars_none hV
  obtain ⟨ls0, t0, c0⟩ := rel_arg tokA (n := 9) rfl h0 (hval 0 103 v0 rfl rfl)
  obtain ⟨ls1, t1, c1⟩ := rel_arg tokA (n := 9) rfl h1 (hval 1 95 v1 rfl rfl)
  obtain ⟨ls2, t2, c2⟩ := rel_arg tokA (n := 9) rfl h2 (hval 2 41 v2 rfl rfl)
  have lt0 : ∀ x ∈ p0, x.block < W.heap.size := by obtain ⟨m, hm⟩ := h0; exact DataW.trod_lt m _ _ _ hm
  have lt1 : ∀ x ∈ p1, x.block < W.heap.size := by obtain ⟨m, hm⟩ := h1; exact DataW.trod_lt m _ _ _ hm
  have lt2 : ∀ x ∈ p2, x.block < W.heap.size := by obtain ⟨m, hm⟩ := h2; exact DataW.trod_lt m _ _ _ hm
  clear hA0 hval0
  refine (walk W v0 v1 v2 ls0 ls1 ls2 t0 t1 t2 c0 c1 c2).mono fun e W' ⟨he, bel⟩ => ?_
  subst he
  exact ⟨_, rfl, _, _, _, [], _, [], hW', trodAll_mk1 (shut_bool Try.underlying4 _), (trodAll_cons_mk (Below.trod laidOutA (by kernel_rfl) (of_decide_eq_true (by kernel_rfl)) h0 bel lt0) (trodAll_cons_mk (Below.trod laidOutA (by kernel_rfl) (of_decide_eq_true (by kernel_rfl)) h1 bel lt1) (trodAll_cons_mk (Below.trod laidOutA (by kernel_rfl) (of_decide_eq_true (by kernel_rfl)) h2 bel lt2) trodAll_mk0))), rfl, bel.frame _, fun h => by cases h⟩

theorem over : Rows.appTgsRow.holds Try.pinned (OpenSpec.ofChange Rows.appTgsSpec) :=
  OpenClaim.holds_of_wide 13 Try.f13 rfl rfl rfl rfl rfl rfl rfl ⟨rfl, rfl, rfl, rfl, rfl⟩ rfl rfl rfl rfl rfl (by kernel_rfl) Try.func13 (by kernel_rfl)
    (of_decide_eq_true (by kernel_rfl)) (by unfold Func.isWrapper; first | (rw [if_pos (by decide +kernel)]; kernel_rfl) | (rw [if_neg (by decide +kernel)]; exact ⟨rfl, rfl⟩))
    (fun os started H enc _ => lifted os started H enc)
end AppTgsProof

theorem appTgs_proved : Rows.AppTgsSaid := AppTgsProof.over
#print axioms appTgs_proved
end Go.Proofs.Ytcmcjiacpahliaa

/-
  The statement CcacheExpires: the law returns true for every input; no conditions.
-/
import Derived.Test.YtcmcjiacpahliabCCcL
import Derived.Test.YtcmcjiacpahliabPCcF
import Derived.Test.YtcmcjiacpahliabLOwn
set_option linter.all false
namespace Go.Sx
open Go.Proofs Go.RowKit
noncomputable def g9 : Par := par 93 (nthLL [[0, 1, 2], [0, 1, 2, 18], [6], [0, 1, 2, 21], [6], [7, 8], [7, 8, 9, 10], [7, 8, 9, 50], [6], [7, 8, 9, 11], [7, 8, 9, 11, 55], [7, 8, 9, 11], [7, 8, 9, 11, 12], [7, 8, 9, 11, 12, 14], [7, 8, 9, 11, 12, 14, 16], [7, 8, 9, 11, 92], [6], [6]]) [6] (nthLL [])
set_option maxRecDepth 10000
set_option maxHeartbeats 16000000
theorem c_CcacheExpires (l : List UInt8) (w : UInt8) (sm : Int) (hsm : 0 ≤ sm ∧ sm ≤ 65535) : Fn Try.prog 9 [.o (.sl (l.map u8) l.length), .o (.i .u8 (w.toNat : Int)), .o (.i .u16 sm)] [] (.one (.c (.o (.b true)))) [] := by
  have hw := byte_lt w
  refine Fn_intro (G := g9) (goodA rfl) (fn := Try.f9) rfl rfl rfl rfl rfl ?_
  by_cases hlong : l.length > 300
  · (repeat' ((conv => whnf) <;> first | exact rfl | with_reducible refine boolK_dec (fun _ => ?_) (fun _ => ?_) <;> try (exfalso; omega) | refine boolK_beq (fun _ => ?_) (fun _ => ?_) <;> try (exfalso; first | omega | contradiction) | refine boolK_bne (fun _ => ?_) (fun _ => ?_) <;> try (exfalso; first | omega | contradiction) | (with_reducible first | refine boolK_not ?_ | refine boolK_and ?_ | refine boolK_or ?_ | refine boolK_true ?_ | refine boolK_false ?_) | refine boolK_intro (fun _ => ?_) (fun _ => ?_) <;> try (exfalso; simp_all; done) | refine jA ?_ | refine jB ?_ | refine jC ?_ | refine jD ?_ | refine jE ?_ | refine jF ?_ | refine jG ?_ | refine jH ?_ | refine jI ?_ | refine jJ ?_ | refine jK ?_ | with_reducible refine natK_lit ?_ | refine natK_of rfl ?_ | refine natK_any ?_ | refine jP ?_ | refine jQ ?_ | refine jR ?_ | refine jS ?_ | refine jT ?_ | refine jU (fun _ => ?_) | refine jV ?_ | refine jW ?_ | refine jX ?_ | refine jY ?_ | refine jZ ?_ | refine ja ?_ | refine jb ?_ | refine jc ?_ | refine jd ?_ | refine je ?_ | refine jf ?_ | refine jg ?_ | refine jh ?_ | refine ji ?_ | refine jj ?_ | refine jk ?_ | refine jn ?_ | refine jo ?_ | refine jp ?_ | refine jq ?_ | refine jr ?_ | refine js ?_ | refine callK_intro (c_awake15) ?_ | refine jt ?_ | refine jx ?_ | refine jy ?_ | refine ju ?_ | refine jv ?_)) <;> (try (conv => whnf))
  · have cC := c_Cache l rfl (by omega) (w.toNat : Int) (by omega)
    have hG := cachS_good l
    have h9 := crGood_len hG
    have hs := crV_mem hG
    generalize userN (w.toNat : Int) = U at *
    generalize realmN ((w.toNat : Int) / 3) = R at *
    generalize cachS l = O at *
    have cE := c_crExpire U [] R O rfl (by omega) hs (sm * 2)
    have hfl := fres_len (sm * 2) O
    (repeat' ((conv => whnf) <;> first | exact rfl | with_reducible refine boolK_dec (fun _ => ?_) (fun _ => ?_) <;> try (exfalso; omega) | refine boolK_beq (fun _ => ?_) (fun _ => ?_) <;> try (exfalso; first | omega | contradiction) | refine boolK_bne (fun _ => ?_) (fun _ => ?_) <;> try (exfalso; first | omega | contradiction) | (with_reducible first | refine boolK_not ?_ | refine boolK_and ?_ | refine boolK_or ?_ | refine boolK_true ?_ | refine boolK_false ?_) | refine boolK_intro (fun _ => ?_) (fun _ => ?_) <;> try (exfalso; simp_all; done) | refine jA ?_ | refine jB ?_ | refine jC ?_ | refine jD ?_ | refine jE ?_ | refine jF ?_ | refine jG ?_ | refine jH ?_ | refine jI ?_ | refine jJ ?_ | refine jK ?_ | with_reducible refine natK_lit ?_ | refine natK_of rfl ?_ | refine natK_any ?_ | refine jP ?_ | refine jQ ?_ | refine jR ?_ | refine jS ?_ | refine jT ?_ | refine jU (fun _ => ?_) | refine jV ?_ | refine jW ?_ | refine jX ?_ | refine jY ?_ | refine jZ ?_ | refine ja ?_ | refine jb ?_ | refine jc ?_ | refine jd ?_ | refine je ?_ | refine jf ?_ | refine jg ?_ | refine jh ?_ | refine ji ?_ | refine jj ?_ | refine jk ?_ | refine jn ?_ | refine jo ?_ | refine jp ?_ | refine jq ?_ | refine jr ?_ | refine js ?_ | refine callK_intro (c_awake15) ?_ | refine callK_intro (cC) ?_ | refine callK_intro (cE) ?_ | refine jt ?_ | refine jx ?_ | refine jy ?_ | refine ju ?_ | refine jv ?_)) <;> (try (conv => whnf))
    refine loopK_inv (G := g9) (fun k st => ∃ j : Nat, k + j = O.length ∧
      st = ⟨[(7, .c (.o (.p 7 0))), (8, .c (.o (.i .i64 (sm * 2)))), (9, .c (.o (.p 9 0))), (11, .c (.o (.i .i64 (j : Int))))], [(7, .st [.s U, .s [], .s R, .sl (flat crR O) O.length]), (9, .st [.s U, .s [], .s R, .sl (flat crR (fresS (sm * 2) O)) (fresS (sm * 2) O).length])]⟩) (n := O.length) ⟨0, by omega, rfl⟩ ?_
    rintro k st ⟨j, hj, rfl⟩
    by_cases hjl : j < O.length
    · have cF := c_crGet U [] R (fresS (sm * 2) O) rfl (by omega) (fres_mem hs) (O.getD j cr0).x (O.getD j cr0).y (O.getD j cr0).z
      have cL := c_crLive U [] R O rfl (by omega) hs (O.getD j cr0).x (O.getD j cr0).y (O.getD j cr0).z (sm * 2)
      have cD := c_End (O.getD j cr0).is (O.getD j cr0).lf
      rw [crG_fres hG hjl, crR] at cF
      rw [crG_at hG hjl, crR] at cL
      have e2 := @live_2 (sm * 2) (O.getD j cr0, true) rfl
      have e3 := @live_3 (sm * 2) (O.getD j cr0, true) rfl
      by_cases hx : sm * 2 ≤ endS (O.getD j cr0).is (O.getD j cr0).lf
      · have hx' : expS (sm * 2) (O.getD j cr0) = false := decide_eq_false (by omega)
        rw [hx'] at cF
        rw [e3 hx'] at cL
        generalize crG (fresS (sm * 2) O) (O.getD j cr0).x (O.getD j cr0).y (O.getD j cr0).z = Q at *
        generalize endS (O.getD j cr0).is (O.getD j cr0).lf = E at *
        (repeat' ((conv => whnf) <;> first | exact rfl | with_reducible refine boolK_dec (fun _ => ?_) (fun _ => ?_) <;> try (exfalso; omega) | refine boolK_beq (fun _ => ?_) (fun _ => ?_) <;> try (exfalso; first | omega | contradiction) | refine boolK_bne (fun _ => ?_) (fun _ => ?_) <;> try (exfalso; first | omega | contradiction) | (with_reducible first | refine boolK_not ?_ | refine boolK_and ?_ | refine boolK_or ?_ | refine boolK_true ?_ | refine boolK_false ?_) | refine boolK_intro (fun _ => ?_) (fun _ => ?_) <;> try (exfalso; simp_all; done) | refine jA ?_ | refine jB ?_ | refine jC ?_ | refine jD ?_ | refine jE ?_ | refine jF ?_ | refine jG ?_ | refine jH ?_ | refine jI ?_ | refine jJ ?_ | refine jK ?_ | with_reducible refine natK_lit ?_ | refine natK_of rfl ?_ | refine natK_any ?_ | refine jP ?_ | refine jQ ?_ | refine jR ?_ | refine jS ?_ | refine jT ?_ | refine jU (fun _ => ?_) | refine jV ?_ | refine jW ?_ | refine jX ?_ | refine jY ?_ | refine jZ ?_ | refine ja ?_ | refine jb ?_ | refine jc ?_ | refine jd ?_ | refine je ?_ | refine jf ?_ | refine jg ?_ | refine jh ?_ | refine ji ?_ | refine jj ?_ | refine jk ?_ | refine jn ?_ | refine jo ?_ | refine jp ?_ | refine jq ?_ | refine jr ?_ | refine js ?_ | refine callK_intro (cF) ?_ | refine callK_intro (cL) ?_ | refine callK_intro (cD) ?_ | refine headS_cr hjl ?_ | exact ⟨k - 1, by omega, j + 1, by omega, rfl⟩ | refine jt ?_ | refine jx ?_ | refine jy ?_ | refine ju ?_ | refine sideK_intro (by first | (exfalso; simp_all; done)) ?_ | refine jv ?_)) <;> (try (conv => whnf))
      · have hx' : expS (sm * 2) (O.getD j cr0) = true := decide_eq_true (by omega)
        rw [hx'] at cF
        rw [e2 hx'] at cL
        generalize crG (fresS (sm * 2) O) (O.getD j cr0).x (O.getD j cr0).y (O.getD j cr0).z = Q at *
        generalize endS (O.getD j cr0).is (O.getD j cr0).lf = E at *
        (repeat' ((conv => whnf) <;> first | exact rfl | with_reducible refine boolK_dec (fun _ => ?_) (fun _ => ?_) <;> try (exfalso; omega) | refine boolK_beq (fun _ => ?_) (fun _ => ?_) <;> try (exfalso; first | omega | contradiction) | refine boolK_bne (fun _ => ?_) (fun _ => ?_) <;> try (exfalso; first | omega | contradiction) | (with_reducible first | refine boolK_not ?_ | refine boolK_and ?_ | refine boolK_or ?_ | refine boolK_true ?_ | refine boolK_false ?_) | refine boolK_intro (fun _ => ?_) (fun _ => ?_) <;> try (exfalso; simp_all; done) | refine jA ?_ | refine jB ?_ | refine jC ?_ | refine jD ?_ | refine jE ?_ | refine jF ?_ | refine jG ?_ | refine jH ?_ | refine jI ?_ | refine jJ ?_ | refine jK ?_ | with_reducible refine natK_lit ?_ | refine natK_of rfl ?_ | refine natK_any ?_ | refine jP ?_ | refine jQ ?_ | refine jR ?_ | refine jS ?_ | refine jT ?_ | refine jU (fun _ => ?_) | refine jV ?_ | refine jW ?_ | refine jX ?_ | refine jY ?_ | refine jZ ?_ | refine ja ?_ | refine jb ?_ | refine jc ?_ | refine jd ?_ | refine je ?_ | refine jf ?_ | refine jg ?_ | refine jh ?_ | refine ji ?_ | refine jj ?_ | refine jk ?_ | refine jn ?_ | refine jo ?_ | refine jp ?_ | refine jq ?_ | refine jr ?_ | refine js ?_ | refine callK_intro (cF) ?_ | refine callK_intro (cL) ?_ | refine callK_intro (cD) ?_ | refine headS_cr hjl ?_ | exact ⟨k - 1, by omega, j + 1, by omega, rfl⟩ | refine jt ?_ | refine jx ?_ | refine jy ?_ | refine ju ?_ | refine sideK_intro (by first | (exfalso; simp_all; done)) ?_ | refine jv ?_)) <;> (try (conv => whnf))
    · (repeat' ((conv => whnf) <;> first | exact rfl | with_reducible refine boolK_dec (fun _ => ?_) (fun _ => ?_) <;> try (exfalso; omega) | refine boolK_beq (fun _ => ?_) (fun _ => ?_) <;> try (exfalso; first | omega | contradiction) | refine boolK_bne (fun _ => ?_) (fun _ => ?_) <;> try (exfalso; first | omega | contradiction) | (with_reducible first | refine boolK_not ?_ | refine boolK_and ?_ | refine boolK_or ?_ | refine boolK_true ?_ | refine boolK_false ?_) | refine boolK_intro (fun _ => ?_) (fun _ => ?_) <;> try (exfalso; simp_all; done) | refine jA ?_ | refine jB ?_ | refine jC ?_ | refine jD ?_ | refine jE ?_ | refine jF ?_ | refine jG ?_ | refine jH ?_ | refine jI ?_ | refine jJ ?_ | refine jK ?_ | with_reducible refine natK_lit ?_ | refine natK_of rfl ?_ | refine natK_any ?_ | refine jP ?_ | refine jQ ?_ | refine jR ?_ | refine jS ?_ | refine jT ?_ | refine jU (fun _ => ?_) | refine jV ?_ | refine jW ?_ | refine jX ?_ | refine jY ?_ | refine jZ ?_ | refine ja ?_ | refine jb ?_ | refine jc ?_ | refine jd ?_ | refine je ?_ | refine jf ?_ | refine jg ?_ | refine jh ?_ | refine ji ?_ | refine jj ?_ | refine jk ?_ | refine jn ?_ | refine jo ?_ | refine jp ?_ | refine jq ?_ | refine jr ?_ | refine js ?_ | refine jt ?_ | refine jx ?_ | refine jy ?_ | refine ju ?_ | refine jv ?_)) <;> (try (conv => whnf))
end Go.Sx
namespace Go.Proofs.Ytcmcjiacpahliab
open Go.ChangeShapes Go.WideShapes Go.ChangeAt Go.RowKit Go.Sx
namespace CcacheExpiresProof
set_option maxRecDepth 100000 in
theorem walk (W : World) (v0 v1 v2 : Value) (ls0 ls1 ls2 : List L)
    (t0 : Typ (tabF tab) 23 ls0) (t1 : Typ (tabF tab) 5 ls1) (t2 : Typ (tabF tab) 42 ls2)
    (r0 : RelC (fun _ => False) W noMu (argC (tabF tab 23).agg ls0) v0) (r1 : RelC (fun _ => False) W noMu (argC (tabF tab 5).agg ls1) v1) (r2 : RelC (fun _ => False) W noMu (argC (tabF tab 42).agg ls2) v2) :
    Calls Try.prog 9 #[v0, v1, v2] W fun e w' => e = .returned (.bool true) ∧ Below W.heap.size W w' := by
  obtain ⟨a0, rfl⟩ := typ_bytes t0 rfl rfl
  obtain ⟨a1, rfl⟩ := typ_u8 t1 rfl
  obtain ⟨a2, rfl, wa2⟩ := typ_int t2 rfl
  exact calls_of_fn Try.func9 rfl rfl (c_CcacheExpires a0 a1 a2 (wf_u16 wa2)) (relCs_cons r0 (relCs_cons r1 (relCs_cons r2 relCs_nil)))

set_option maxRecDepth 100000 in
theorem lifted (os : Os) (started : os.Started) (H : Type) (enc : TypeId × Value → H) :
    ReturnsInHanded {} Try.checked os 9 .any (Rows.ccacheExpiresSpec.pre6 enc Try.prog Try.f9 Rows.ccacheExpiresRow.domain false) (Rows.ccacheExpiresSpec.post enc Try.prog Try.f9 false true false false) := by
  refine returnsInHanded_of_change (C := Try.checked) ownA started (by kernel_rfl) Try.func9
    (ChangeSpec.witness6 (enc := enc) (C := Try.checked) false ⟨#[], #[.slice none 0 0, .int .u8 0, .int .u16 0], []⟩ 8 (by kernel_rfl) (by kernel_rfl) (by kernel_rfl) (by kernel_rfl)) ?_
  intro W base args ds gs before hval0 hW hcnd _
  have hval : ∀ (j : Nat) t v, Try.f9.params[j]? = some t → args[j]? = some v → Value.okWide Try.prog W .any base t v := hval0
  have hW' := hW
  obtain ⟨p, q, hA0, hV, rfl, hfz, hnd⟩ := hW
  have hA : DataW.TrodAll enc Try.prog W 0 (fun _ => true) true Try.f9.params.toList args.toList ds p := hA0
  rw [Try.params9] at hA hval
  obtain ⟨v0, vs0, d0, ds0, p0, q0, hargs, rfl, rfl, h0, r0⟩ := trodAll_cons hA
  obtain ⟨v1, vs1, d1, ds1, p1, q1, rfl, rfl, rfl, h1, r1⟩ := trodAll_cons r0
  obtain ⟨v2, vs2, d2, ds2, p2, q2, rfl, rfl, rfl, h2, r2⟩ := trodAll_cons r1
  obtain ⟨rfl, rfl, rfl⟩ := trodAll_nil r2
  obtain rfl : args = #[v0, v1, v2] := by cases args; simp_all
  obtain ⟨rfl, rfl⟩ := trodVars_none hV
  obtain ⟨ls0, t0, c0⟩ := rel_arg tokA (n := 9) rfl h0 (hval 0 23 v0 rfl rfl)
  obtain ⟨ls1, t1, c1⟩ := rel_arg tokA (n := 9) rfl h1 (hval 1 5 v1 rfl rfl)
  obtain ⟨ls2, t2, c2⟩ := rel_arg tokA (n := 9) rfl h2 (hval 2 42 v2 rfl rfl)
  have lt0 : ∀ x ∈ p0, x.block < W.heap.size := by obtain ⟨m, hm⟩ := h0; exact DataW.trod_lt m _ _ _ hm
  have lt1 : ∀ x ∈ p1, x.block < W.heap.size := by obtain ⟨m, hm⟩ := h1; exact DataW.trod_lt m _ _ _ hm
  have lt2 : ∀ x ∈ p2, x.block < W.heap.size := by obtain ⟨m, hm⟩ := h2; exact DataW.trod_lt m _ _ _ hm
  clear hA0 hval0
  refine (walk W v0 v1 v2 ls0 ls1 ls2 t0 t1 t2 c0 c1 c2).mono fun e W' ⟨he, bel⟩ => ?_
  subst he
  exact ⟨_, rfl, _, _, _, [], _, [], hW', trodAll_mk1 (shut_bool Try.underlying4 _), (trodAll_cons_mk (Below.trod laidOutA (by kernel_rfl) (of_decide_eq_true (by kernel_rfl)) h0 bel lt0) (trodAll_cons_mk (Below.trod laidOutA (by kernel_rfl) (of_decide_eq_true (by kernel_rfl)) h1 bel lt1) (trodAll_cons_mk (Below.trod laidOutA (by kernel_rfl) (of_decide_eq_true (by kernel_rfl)) h2 bel lt2) trodAll_mk0))), rfl, bel.frame _, fun h => by cases h⟩

theorem over : Rows.ccacheExpiresRow.holds Try.pinned (OpenSpec.ofChange Rows.ccacheExpiresSpec) :=
  OpenClaim.holds_of_wide 9 Try.f9 rfl rfl rfl rfl rfl rfl rfl ⟨rfl, rfl, rfl, rfl, rfl⟩ rfl rfl rfl rfl rfl (by kernel_rfl) Try.func9 (by kernel_rfl)
    (of_decide_eq_true (by kernel_rfl)) (by unfold Func.isWrapper; first | (rw [if_pos (by decide +kernel)]; kernel_rfl) | (rw [if_neg (by decide +kernel)]; exact ⟨rfl, rfl⟩))
    (fun os started H enc _ => lifted os started H enc)
end CcacheExpiresProof

theorem ccacheExpires_proved : Rows.CcacheExpiresSaid := CcacheExpiresProof.over
#print axioms ccacheExpires_proved
end Go.Proofs.Ytcmcjiacpahliab

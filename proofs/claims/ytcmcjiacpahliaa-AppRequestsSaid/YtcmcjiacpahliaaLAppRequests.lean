/-
  The statement AppRequests: the law returns true for every input; no conditions.
-/
import Derived.Test.YtcmcjiacpahliaaCAppL
import Derived.Test.YtcmcjiacpahliaaLOwn
set_option linter.all false
namespace Go.Sx
open Go.Proofs
noncomputable def g12 : Par := par 74 (nthLL [[2, 3], [2, 3, 16], [4], [2, 3, 18], [4], [2, 3, 5], [2, 3, 5, 20], [2, 3, 5], [2, 3, 5, 6], [2, 3, 5, 6, 7, 8], [2, 3, 5, 6, 7, 8, 9, 10], [2, 3, 5, 6, 7, 8, 49], [4], [2, 3, 5, 6, 7, 51], [2, 3, 5, 6, 7, 11, 12], [2, 3, 5, 6, 11, 12, 14], [2, 3, 5, 73], [4], [4]]) [4] (nthLL [[], [], [], [], [], [], [], [], [0, 0, 2, 7, 0, 31, 63, 0, 255]])
set_option maxRecDepth 10000
set_option maxHeartbeats 16000000
theorem c_AppRequests (li mu : Bool) (kv : Int) (re t u : List UInt8) (xl xm : Bool) (xk xr : UInt8) (xt xu : List UInt8) : Fn Try.prog 12 [.a [.b li, .b mu, .i .i64 kv, .s re, .sl (t.map u8) t.length, .sl (u.map u8) u.length], .a [.b xl, .b xm, .i .u8 (xk.toNat : Int), .i .u8 (xr.toNat : Int), .sl (xt.map u8) xt.length, .sl (xu.map u8) xu.length]] [] (.one (.c (.o (.b true)))) [] := by
  refine Fn_intro (G := g12) (goodA rfl) (fn := Try.f12) rfl rfl rfl rfl rfl ?_
  by_cases hl : re.length > 100 ∨ t.length > 400 ∨ u.length > 400
  · (repeat' ((conv => whnf) <;> first | exact rfl | with_reducible refine boolK_dec (fun _ => ?_) (fun _ => ?_) <;> try (exfalso; omega) | refine boolK_beq (fun _ => ?_) (fun _ => ?_) <;> try (exfalso; first | omega | contradiction) | refine boolK_bne (fun _ => ?_) (fun _ => ?_) <;> try (exfalso; first | omega | contradiction) | (with_reducible first | refine boolK_not ?_ | refine boolK_and ?_ | refine boolK_or ?_ | refine boolK_true ?_ | refine boolK_false ?_) | refine boolK_intro (fun _ => ?_) (fun _ => ?_) <;> try (exfalso; simp_all; done) | refine jA ?_ | refine jB ?_ | refine jC ?_ | refine jD ?_ | refine jE ?_ | refine jF ?_ | refine jG ?_ | refine jH ?_ | refine jI ?_ | refine jJ ?_ | refine jK ?_ | with_reducible refine natK_lit ?_ | refine natK_of rfl ?_ | refine natK_any ?_ | refine jP ?_ | refine jQ ?_ | refine jR ?_ | refine jS ?_ | refine jT ?_ | refine jU (fun _ => ?_) | refine jV ?_ | refine jW ?_ | refine jX ?_ | refine jY ?_ | refine jZ ?_ | refine ja ?_ | refine jb ?_ | refine jc ?_ | refine jd ?_ | refine je ?_ | refine jf ?_ | refine jg ?_ | refine jh ?_ | refine ji ?_ | refine jj ?_ | refine jk ?_ | refine jn ?_ | refine jo ?_ | refine jp ?_ | refine jq ?_ | refine jr ?_ | refine js ?_ | refine callK_intro (c_awake10) ?_ | refine callK_intro (c_long10 _ _ _ _ _ _) ?_ | refine jt ?_ | refine jx ?_ | refine jy ?_ | refine ju ?_ | refine jv ?_)) <;> (try (conv => whnf))
  · obtain ⟨t', u', h1, h2, _, _, cQ⟩ := c_request xl xm xk xr xt xu
    have hv := request_ok (kv := xk) (re := xr) h1 h2
    have hr := realm_len (realm_valid (xr.toNat : Int))
    have hk := byte_lt xk
    generalize realmN (xr.toNat : Int) = rr at *
    have e2 := c_EncodeAp xl xm (xk.toNat : Int) rr t' u' (by omega) (by omega) (by omega)
    have f2 := c_rEncodeAp xl xm (xk.toNat : Int) rr t' u' (by omega) (by omega) (by omega)
    have n2 := apN_len (xl, xm, (xk.toNat : Int), rr, t', u')
    have m2 := apN_ok (li := xl) (mu := xm) hv
    rw [m2] at e2 f2 n2
    dsimp only at e2 f2 n2
    generalize apB xl xm (xk.toNat : Int) rr t' u' = B2 at *
    have d2 := c_DecodeAp B2 rfl (by omega)
    have g2 := c_DecodeTgs B2 rfl (by omega)
    rw [apD_trip m2] at d2
    have z2 := ap_notg m2
    generalize tgD B2 = G2 at *
    have s2 := c_SameAp xl xm (xk.toNat : Int) rr t' u'
    dsimp only at d2
    clear m2 hv n2
    have e1 := c_EncodeAp li mu kv re t u (by omega) (by omega) (by omega)
    have f1 := c_rEncodeAp li mu kv re t u (by omega) (by omega) (by omega)
    have n1 := apN_len (li, mu, kv, re, t, u)
    have s1 := c_SameAp li mu kv re t u
    by_cases hz : (apN (li, mu, kv, re, t, u)).2 = 0
    · obtain ⟨B1, m1⟩ : ∃ b, apN (li, mu, kv, re, t, u) = (b, 0) := ⟨_, pair_of hz rfl⟩
      rw [m1] at e1 f1 n1
      dsimp only at e1 f1 n1
      have d1 := c_DecodeAp B1 rfl (by omega)
      have g1 := c_DecodeTgs B1 rfl (by omega)
      rw [apD_trip m1] at d1
      have z1 := ap_notg m1
      generalize tgD B1 = G1 at *
      dsimp only at d1
      clear m1 hz n1
      (repeat' ((conv => whnf) <;> first | with_reducible refine boolK_refl ?_ | exact rfl | with_reducible refine boolK_dec (fun _ => ?_) (fun _ => ?_) <;> try (exfalso; omega) | refine boolK_beq (fun _ => ?_) (fun _ => ?_) <;> try (exfalso; first | omega | contradiction) | refine boolK_bne (fun _ => ?_) (fun _ => ?_) <;> try (exfalso; first | omega | contradiction) | (with_reducible first | refine boolK_not ?_ | refine boolK_and ?_ | refine boolK_or ?_ | refine boolK_true ?_ | refine boolK_false ?_) | refine boolK_intro (fun _ => ?_) (fun _ => ?_) <;> try (exfalso; simp_all; done) | refine jA ?_ | refine jB ?_ | refine jC ?_ | refine jD ?_ | refine jE ?_ | refine jF ?_ | refine jG ?_ | refine jH ?_ | refine jI ?_ | refine jJ ?_ | refine jK ?_ | with_reducible refine natK_lit ?_ | refine natK_of rfl ?_ | refine natK_any ?_ | refine jP ?_ | refine jQ ?_ | refine jR ?_ | refine jS ?_ | refine jT ?_ | refine jU (fun _ => ?_) | refine jV ?_ | refine jW ?_ | refine jX ?_ | refine jY ?_ | refine jZ ?_ | refine ja ?_ | refine jb ?_ | refine jc ?_ | refine jd ?_ | refine je ?_ | refine jf ?_ | refine jg ?_ | refine jh ?_ | refine ji ?_ | refine jj ?_ | refine jk ?_ | refine jn ?_ | refine jo ?_ | refine jp ?_ | refine jq ?_ | refine jr ?_ | refine js ?_ | refine callK_intro (c_awake10) ?_ | refine callK_intro (c_long10 _ _ _ _ _ _) ?_ | refine callK_intro (cQ) ?_ | refine callK_intro (e1) ?_ | refine callK_intro (f1) ?_ | refine callK_intro (d1) ?_ | refine callK_intro (g1) ?_ | refine callK_intro (s1) ?_ | refine callK_intro (e2) ?_ | refine callK_intro (f2) ?_ | refine callK_intro (d2) ?_ | refine callK_intro (g2) ?_ | refine callK_intro (s2) ?_ | refine loopK_step (G := g12) ?_ | refine jt ?_ | refine jx ?_ | refine jy ?_ | refine ju ?_ | refine jv ?_)) <;> (try (conv => whnf))
    · generalize apN (li, mu, kv, re, t, u) = V1 at *
      (repeat' ((conv => whnf) <;> first | with_reducible refine boolK_refl ?_ | exact rfl | with_reducible refine boolK_dec (fun _ => ?_) (fun _ => ?_) <;> try (exfalso; omega) | refine boolK_beq (fun _ => ?_) (fun _ => ?_) <;> try (exfalso; first | omega | contradiction) | refine boolK_bne (fun _ => ?_) (fun _ => ?_) <;> try (exfalso; first | omega | contradiction) | (with_reducible first | refine boolK_not ?_ | refine boolK_and ?_ | refine boolK_or ?_ | refine boolK_true ?_ | refine boolK_false ?_) | refine boolK_intro (fun _ => ?_) (fun _ => ?_) <;> try (exfalso; simp_all; done) | refine jA ?_ | refine jB ?_ | refine jC ?_ | refine jD ?_ | refine jE ?_ | refine jF ?_ | refine jG ?_ | refine jH ?_ | refine jI ?_ | refine jJ ?_ | refine jK ?_ | with_reducible refine natK_lit ?_ | refine natK_of rfl ?_ | refine natK_any ?_ | refine jP ?_ | refine jQ ?_ | refine jR ?_ | refine jS ?_ | refine jT ?_ | refine jU (fun _ => ?_) | refine jV ?_ | refine jW ?_ | refine jX ?_ | refine jY ?_ | refine jZ ?_ | refine ja ?_ | refine jb ?_ | refine jc ?_ | refine jd ?_ | refine je ?_ | refine jf ?_ | refine jg ?_ | refine jh ?_ | refine ji ?_ | refine jj ?_ | refine jk ?_ | refine jn ?_ | refine jo ?_ | refine jp ?_ | refine jq ?_ | refine jr ?_ | refine js ?_ | refine callK_intro (c_awake10) ?_ | refine callK_intro (c_long10 _ _ _ _ _ _) ?_ | refine callK_intro (cQ) ?_ | refine callK_intro (e1) ?_ | refine callK_intro (f1) ?_ | refine callK_intro (e2) ?_ | refine callK_intro (f2) ?_ | refine callK_intro (d2) ?_ | refine callK_intro (g2) ?_ | refine callK_intro (s2) ?_ | refine loopK_step (G := g12) ?_ | refine jt ?_ | refine jx ?_ | refine jy ?_ | refine ju ?_ | refine jv ?_)) <;> (try (conv => whnf))
end Go.Sx
namespace Go.Proofs.Ytcmcjiacpahliaa
open Go.ChangeShapes Go.WideShapes Go.ChangeAt Go.RowKit Go.Sx
namespace AppRequestsProof
set_option maxRecDepth 100000 in
theorem walk (W : World) (v0 v1 : Value) (ls0 ls1 : List L)
    (t0 : Typ (tabF tab) 93 ls0) (t1 : Typ (tabF tab) 95 ls1)
    (r0 : RelC (fun _ => False) W noMu (argC (tabF tab 93).agg ls0) v0) (r1 : RelC (fun _ => False) W noMu (argC (tabF tab 95).agg ls1) v1) :
    Calls Try.prog 12 #[v0, v1] W fun e w' => e = .returned (.bool true) ∧ Below W.heap.size W w' := by
  obtain ⟨partsa0, rfl, hla0, hpa0⟩ := typ_struct t0 rfl
  obtain ⟨qa0_0, qa0_1, qa0_2, qa0_3, qa0_4, qa0_5, rfl⟩ : ∃ qa0_0 qa0_1 qa0_2 qa0_3 qa0_4 qa0_5, partsa0 = [qa0_0, qa0_1, qa0_2, qa0_3, qa0_4, qa0_5] := by
    match partsa0, hla0 with
    | [qa0_0, qa0_1, qa0_2, qa0_3, qa0_4, qa0_5], _ => exact ⟨qa0_0, qa0_1, qa0_2, qa0_3, qa0_4, qa0_5, rfl⟩
  have ta0_0 := hpa0 0 _ qa0_0 rfl rfl
  obtain ⟨a0_0, rfl⟩ := typ_bool ta0_0 rfl
  have ta0_1 := hpa0 1 _ qa0_1 rfl rfl
  obtain ⟨a0_1, rfl⟩ := typ_bool ta0_1 rfl
  have ta0_2 := hpa0 2 _ qa0_2 rfl rfl
  obtain ⟨a0_2, rfl, wa0_2⟩ := typ_int ta0_2 rfl
  have ta0_3 := hpa0 3 _ qa0_3 rfl rfl
  obtain ⟨a0_3, rfl⟩ := typ_str ta0_3 rfl
  have ta0_4 := hpa0 4 _ qa0_4 rfl rfl
  obtain ⟨a0_4, rfl⟩ := typ_bytes ta0_4 rfl rfl
  have ta0_5 := hpa0 5 _ qa0_5 rfl rfl
  obtain ⟨a0_5, rfl⟩ := typ_bytes ta0_5 rfl rfl
  obtain ⟨partsa1, rfl, hla1, hpa1⟩ := typ_struct t1 rfl
  obtain ⟨qa1_0, qa1_1, qa1_2, qa1_3, qa1_4, qa1_5, rfl⟩ : ∃ qa1_0 qa1_1 qa1_2 qa1_3 qa1_4 qa1_5, partsa1 = [qa1_0, qa1_1, qa1_2, qa1_3, qa1_4, qa1_5] := by
    match partsa1, hla1 with
    | [qa1_0, qa1_1, qa1_2, qa1_3, qa1_4, qa1_5], _ => exact ⟨qa1_0, qa1_1, qa1_2, qa1_3, qa1_4, qa1_5, rfl⟩
  have ta1_0 := hpa1 0 _ qa1_0 rfl rfl
  obtain ⟨a1_0, rfl⟩ := typ_bool ta1_0 rfl
  have ta1_1 := hpa1 1 _ qa1_1 rfl rfl
  obtain ⟨a1_1, rfl⟩ := typ_bool ta1_1 rfl
  have ta1_2 := hpa1 2 _ qa1_2 rfl rfl
  obtain ⟨a1_2, rfl⟩ := typ_u8 ta1_2 rfl
  have ta1_3 := hpa1 3 _ qa1_3 rfl rfl
  obtain ⟨a1_3, rfl⟩ := typ_u8 ta1_3 rfl
  have ta1_4 := hpa1 4 _ qa1_4 rfl rfl
  obtain ⟨a1_4, rfl⟩ := typ_bytes ta1_4 rfl rfl
  have ta1_5 := hpa1 5 _ qa1_5 rfl rfl
  obtain ⟨a1_5, rfl⟩ := typ_bytes ta1_5 rfl rfl
  exact calls_of_fn Try.func12 rfl rfl (c_AppRequests a0_0 a0_1 a0_2 a0_3 a0_4 a0_5 a1_0 a1_1 a1_2 a1_3 a1_4 a1_5) (relCs_cons r0 (relCs_cons r1 relCs_nil))

set_option maxRecDepth 100000 in
theorem lifted (os : Os) (started : os.Started) (H : Type) (enc : TypeId × Value → H) :
    ReturnsInHanded {} Try.checked os 12 .any (Rows.appRequestsSpec.pre6 enc Try.prog Try.f12 Rows.appRequestsRow.domain false) (Rows.appRequestsSpec.post enc Try.prog Try.f12 false true false false) := by
  refine returnsInHanded_of_change (C := Try.checked) ownA started (by kernel_rfl) Try.func12
    (ChangeSpec.witness6 (enc := enc) (C := Try.checked) false ⟨#[], #[.agg #[.bool false, .bool false, .int .i64 0, .string ByteArray.empty, .slice none 0 0, .slice none 0 0], .agg #[.bool false, .bool false, .int .u8 0, .int .u8 0, .slice none 0 0, .slice none 0 0]], []⟩ 8 (by kernel_rfl) (by kernel_rfl) (by kernel_rfl) (by kernel_rfl)) ?_
  intro W base args ds gs before hval0 hW hcnd _
  have hval : ∀ (j : Nat) t v, Try.f12.params[j]? = some t → args[j]? = some v → Value.okWide Try.prog W .any base t v := hval0
  have hW' := hW
  obtain ⟨p, q, hA0, hV, rfl, hfz, hnd⟩ := hW
  have hA : DataW.TrodAll enc Try.prog W 0 (fun _ => true) true Try.f12.params.toList args.toList ds p := hA0
  rw [Try.params12] at hA hval
  obtain ⟨v0, vs0, d0, ds0, p0, q0, hargs, rfl, rfl, h0, r0⟩ := trodAll_cons hA
  obtain ⟨v1, vs1, d1, ds1, p1, q1, rfl, rfl, rfl, h1, r1⟩ := trodAll_cons r0
  obtain ⟨rfl, rfl, rfl⟩ := trodAll_nil r1
  obtain rfl : args = #[v0, v1] := by cases args; simp_all
  obtain ⟨rfl, rfl⟩ := trodVars_none hV
  obtain ⟨ls0, t0, c0⟩ := rel_arg tokA (n := 9) rfl h0 (hval 0 93 v0 rfl rfl)
  obtain ⟨ls1, t1, c1⟩ := rel_arg tokA (n := 9) rfl h1 (hval 1 95 v1 rfl rfl)
  have lt0 : ∀ x ∈ p0, x.block < W.heap.size := by obtain ⟨m, hm⟩ := h0; exact DataW.trod_lt m _ _ _ hm
  have lt1 : ∀ x ∈ p1, x.block < W.heap.size := by obtain ⟨m, hm⟩ := h1; exact DataW.trod_lt m _ _ _ hm
  clear hA0 hval0
  refine (walk W v0 v1 ls0 ls1 t0 t1 c0 c1).mono fun e W' ⟨he, bel⟩ => ?_
  subst he
  exact ⟨_, rfl, _, _, _, [], _, [], hW', trodAll_mk1 (shut_bool Try.underlying4 _), (trodAll_cons_mk (Below.trod laidOutA (by kernel_rfl) (of_decide_eq_true (by kernel_rfl)) h0 bel lt0) (trodAll_cons_mk (Below.trod laidOutA (by kernel_rfl) (of_decide_eq_true (by kernel_rfl)) h1 bel lt1) trodAll_mk0)), rfl, bel.frame _, fun h => by cases h⟩

theorem over : Rows.appRequestsRow.holds Try.pinned (OpenSpec.ofChange Rows.appRequestsSpec) :=
  OpenClaim.holds_of_wide 12 Try.f12 rfl rfl rfl rfl rfl rfl rfl ⟨rfl, rfl, rfl, rfl, rfl⟩ rfl rfl rfl rfl rfl (by kernel_rfl) Try.func12 (by kernel_rfl)
    (of_decide_eq_true (by kernel_rfl)) (by unfold Func.isWrapper; first | (rw [if_pos (by decide +kernel)]; kernel_rfl) | (rw [if_neg (by decide +kernel)]; exact ⟨rfl, rfl⟩))
    (fun os started H enc _ => lifted os started H enc)
end AppRequestsProof

theorem appRequests_proved : Rows.AppRequestsSaid := AppRequestsProof.over
#print axioms appRequests_proved
end Go.Proofs.Ytcmcjiacpahliaa

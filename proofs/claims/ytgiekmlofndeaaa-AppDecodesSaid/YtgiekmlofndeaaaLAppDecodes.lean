/-
  The statement AppDecodes: the law returns true for every input; no conditions.
-/
import Derived.Test.YtgiekmlofndeaaaCAppL
import Derived.Test.YtgiekmlofndeaaaCAppR
import Derived.Test.YtgiekmlofndeaaaLOwn
import Derived.Test.YtgiekmlofndeaaaCTickL
set_option linter.all false
namespace Go.Sx
open Go.Proofs
noncomputable def g4 : Par := par 194 (nthLL [[0, 2, 3, 4, 5, 6, 8], [0, 2, 3, 4, 5, 6, 8, 33], [14], [0, 2, 3, 4, 5, 6, 8, 41], [14], [0, 3, 4, 5, 6, 8, 15], [0, 3, 4, 5, 6, 15, 16], [0, 3, 4, 5, 6, 15, 16], [0, 3, 5, 6, 15, 16, 47], [0, 5, 6, 17], [0, 3, 5, 6, 15, 16, 47, 56], [0, 5, 6, 17], [0, 3, 5, 6, 15, 16, 47, 63], [0, 5, 6, 15, 16], [0, 5, 6, 17], [0, 3, 5, 6, 15, 16, 80], [0, 5, 6, 17], [0, 5, 6, 17, 18], [0, 5, 6, 17, 18, 97], [0, 5, 6, 17, 18], [0, 5, 6, 17, 18, 19], [0, 5, 6, 17, 18, 19, 20, 21], [0, 5, 6, 17, 18, 19, 20, 21, 22, 23], [0, 5, 6, 17, 18, 19, 127], [14], [0, 5, 6, 17, 18, 19, 21, 24], [0, 5, 6, 17, 18, 19, 21, 23, 24, 25], [0, 5, 6, 17, 18, 19, 146], [14], [0, 5, 6, 17, 18, 19, 21, 26], [0, 5, 6, 17, 18, 19, 21, 23, 26, 27], [0, 5, 6, 17, 18, 19, 166], [14], [0, 5, 6, 17, 18, 19, 21, 28, 29], [0, 5, 6, 17, 18, 21, 23, 28, 29, 30, 31], [0, 5, 6, 17, 18, 193], [14], [14]]) [14] (nthLL [])
set_option maxRecDepth 10000
set_option maxHeartbeats 16000000
theorem c_AppDecodes (b : List UInt8) (xl xm : Bool) (xk xr : UInt8) (xt xu : List UInt8) (q : List UInt8) (a : Int) (ha : 0 ≤ a ∧ a ≤ 4294967295) (kd : UInt8) (o : Bool) (h : Int) (hh : 0 ≤ h ∧ h ≤ 65535) : Fn Try.prog 4 [.o (.sl (b.map u8) b.length), .a [.b xl, .b xm, .i .u8 (xk.toNat : Int), .i .u8 (xr.toNat : Int), .sl (xt.map u8) xt.length, .sl (xu.map u8) xu.length], .o (.sl (q.map u8) q.length), .o (.i .u32 a), .o (.i .u8 (kd.toNat : Int)), .o (.b o), .o (.i .u16 h)] [] (.one (.c (.o (.b true)))) [] := by
  refine Fn_intro (G := g4) (goodA rfl) (fn := Try.f4) rfl rfl rfl rfl rfl ?_
  have hkd := byte_lt kd
  by_cases hl : b.length > 600 ∨ q.length > 40
  · (repeat' ((conv => whnf) <;> first | exact rfl | with_reducible refine boolK_dec (fun _ => ?_) (fun _ => ?_) <;> try (exfalso; omega) | refine boolK_beq (fun _ => ?_) (fun _ => ?_) <;> try (exfalso; first | omega | contradiction) | refine boolK_bne (fun _ => ?_) (fun _ => ?_) <;> try (exfalso; first | omega | contradiction) | (with_reducible first | refine boolK_not ?_ | refine boolK_and ?_ | refine boolK_or ?_ | refine boolK_true ?_ | refine boolK_false ?_) | refine boolK_intro (fun _ => ?_) (fun _ => ?_) <;> try (exfalso; simp_all; done) | refine jA ?_ | refine jB ?_ | refine jC ?_ | refine jD ?_ | refine jE ?_ | refine jF ?_ | refine jG ?_ | refine jH ?_ | refine jI ?_ | refine jJ ?_ | refine jK ?_ | with_reducible refine natK_lit ?_ | refine natK_of rfl ?_ | refine natK_any ?_ | refine jO ?_ | refine jP ?_ | refine jQ ?_ | refine jR ?_ | refine jS ?_ | refine jT ?_ | refine jU (fun _ => ?_) | refine jV ?_ | refine jW ?_ | refine jX ?_ | refine jY ?_ | refine jZ ?_ | refine ja ?_ | refine jb ?_ | refine jc ?_ | refine jd ?_ | refine je ?_ | refine jf ?_ | refine jg ?_ | refine jh ?_ | refine ji ?_ | refine jj ?_ | refine jk ?_ | refine jn ?_ | refine jo ?_ | refine jp ?_ | refine jq ?_ | refine jr ?_ | refine js ?_ | refine callK_intro (c_awake10) ?_ | refine jt ?_ | refine jx ?_ | refine jy ?_ | refine ju ?_ | refine jv ?_)) <;> (try (conv => whnf))
  · obtain ⟨t', u', h1, h2, _, _, cQ⟩ := c_request xl xm xk xr xt xu
    obtain ⟨tli, tx, ty, tz, tad, tse, tlf, tis, tsn, tsi, tv, _, cT⟩ := c_Ticket q rfl (by omega)
    obtain ⟨_, v2, v3, _, _, v6, v7⟩ := tickC_ok tv
    have l4 := name_len v2
    have l5 := inst_len v3
    have hr := realm_len (realm_valid (xr.toNat : Int))
    have hk := byte_lt xk
    generalize realmN (xr.toNat : Int) = rr at *
    have e0 := c_rEncodeAp xl xm (xk.toNat : Int) rr t' u' (by omega) (by omega) (by omega)
    have n0 := apN_len (xl, xm, (xk.toNat : Int), rr, t', u')
    have e1 := c_rEncodeTgs xl false (xk.toNat : Int) tis tlf rr t' u' tsn tsi (by omega) (by omega) (by omega) (by omega) (by omega)
    have n1 := tgN_len ((xl, false, (xk.toNat : Int), rr, t', u'), tis, tlf, tsn, tsi)
    have e2 := c_rEncodeMutual xl a (tlf % 200) tis
    have n2 := mtN_len xl (a, tlf % 200, tis)
    have e3 := c_rEncodeAnswer t' rfl (by omega) xl
    have n3 := anN_len (t', xl)
    generalize apN (xl, xm, (xk.toNat : Int), rr, t', u') = V0 at *
    generalize tgN ((xl, false, (xk.toNat : Int), rr, t', u'), tis, tlf, tsn, tsi) = V1 at *
    generalize mtN xl (a, tlf % 200, tis) = V2 at *
    generalize anN (t', xl) = V3 at *
    obtain ⟨r0, p0, s0⟩ := c_Spoil V0.1 rfl (by omega) h hh
    obtain ⟨r1, p1, s1⟩ := c_Spoil V1.1 rfl (by omega) h hh
    obtain ⟨r2, p2, s2⟩ := c_Spoil V2.1 rfl (by omega) h hh
    obtain ⟨r3, p3, s3⟩ := c_Spoil V3.1 rfl (by omega) h hh
    clear tv v2 v3
    (repeat' ((conv => whnf) <;> first | with_reducible refine boolK_refl ?_ | exact rfl | with_reducible refine boolK_dec (fun _ => ?_) (fun _ => ?_) <;> try (exfalso; omega) | refine boolK_beq (fun _ => ?_) (fun _ => ?_) <;> try (exfalso; first | omega | contradiction) | refine boolK_bne (fun _ => ?_) (fun _ => ?_) <;> try (exfalso; first | omega | contradiction) | (with_reducible first | refine boolK_not ?_ | refine boolK_and ?_ | refine boolK_or ?_ | refine boolK_true ?_ | refine boolK_false ?_) | refine boolK_intro (fun _ => ?_) (fun _ => ?_) <;> try (exfalso; simp_all; done) | refine jA ?_ | refine jB ?_ | refine jC ?_ | refine jD ?_ | refine jE ?_ | refine jF ?_ | refine jG ?_ | refine jH ?_ | refine jI ?_ | refine jJ ?_ | refine jK ?_ | with_reducible refine natK_lit ?_ | refine natK_of rfl ?_ | refine natK_any ?_ | refine jO ?_ | refine jP ?_ | refine jQ ?_ | refine jR ?_ | refine jS ?_ | refine jT ?_ | refine jU (fun _ => ?_) | refine jV ?_ | refine jW ?_ | refine jX ?_ | refine jY ?_ | refine jZ ?_ | refine ja ?_ | refine jb ?_ | refine jc ?_ | refine jd ?_ | refine je ?_ | refine jf ?_ | refine jg ?_ | refine jh ?_ | refine ji ?_ | refine jj ?_ | refine jk ?_ | refine jn ?_ | refine jo ?_ | refine jp ?_ | refine jq ?_ | refine jr ?_ | refine js ?_ | refine callK_intro (c_awake10) ?_ | refine callK_intro (cQ) ?_ | refine callK_intro (cT) ?_ | refine callK_intro (e0) ?_ | refine callK_intro (e1) ?_ | refine callK_intro (e2) ?_ | refine callK_intro (e3) ?_ | refine callK_intro (s0) ?_ | refine callK_intro (s1) ?_ | refine callK_intro (s2) ?_ | refine callK_intro (s3) ?_ | refine callK_intro (c_DecodeAp _ rfl (by omega)) ?_ | refine callK_intro (c_rDecodeAp _ rfl (by omega)) ?_ | refine callK_intro (c_DecodeTgs _ rfl (by omega)) ?_ | refine callK_intro (c_rDecodeTgs _ rfl (by omega)) ?_ | refine callK_intro (c_DecodeMutual _ rfl (by omega) _) ?_ | refine callK_intro (c_rDecodeMutual _ rfl (by omega) _) ?_ | refine callK_intro (c_DecodeAnswer _ rfl (by omega)) ?_ | refine callK_intro (c_rDecodeAnswer _ rfl (by omega)) ?_ | refine callK_intro (c_SameAp _ _ _ _ _ _) ?_ | refine callK_intro (c_SameTgs _ _ _ _ _ _ _ _ _ _) ?_ | refine loopK_step (G := g4) ?_ | refine jt ?_ | refine jx ?_ | refine jy ?_ | refine ju ?_ | refine jv ?_)) <;> (try (conv => whnf))
end Go.Sx
namespace Go.Proofs.Ytgiekmlofndeaaa
open Go.ChangeShapes Go.WideShapes Go.ChangeAt Go.RowKit Go.Sx
namespace AppDecodesProof
set_option maxRecDepth 100000 in
theorem walk (W : World) (v0 v1 v2 v3 v4 v5 v6 : Value) (ls0 ls1 ls2 ls3 ls4 ls5 ls6 : List L)
    (t0 : Typ (tabF tab) 27 ls0) (t1 : Typ (tabF tab) 46 ls1) (t2 : Typ (tabF tab) 27 ls2) (t3 : Typ (tabF tab) 47 ls3) (t4 : Typ (tabF tab) 5 ls4) (t5 : Typ (tabF tab) 4 ls5) (t6 : Typ (tabF tab) 48 ls6)
    (r0 : RelC (fun _ => False) W noMu (argC (tabF tab 27).agg ls0) v0) (r1 : RelC (fun _ => False) W noMu (argC (tabF tab 46).agg ls1) v1) (r2 : RelC (fun _ => False) W noMu (argC (tabF tab 27).agg ls2) v2) (r3 : RelC (fun _ => False) W noMu (argC (tabF tab 47).agg ls3) v3) (r4 : RelC (fun _ => False) W noMu (argC (tabF tab 5).agg ls4) v4) (r5 : RelC (fun _ => False) W noMu (argC (tabF tab 4).agg ls5) v5) (r6 : RelC (fun _ => False) W noMu (argC (tabF tab 48).agg ls6) v6) :
    Calls Try.prog 4 #[v0, v1, v2, v3, v4, v5, v6] W fun e w' => e = .returned (.bool true) ∧ Below W.heap.size W w' := by
  obtain ⟨a0, rfl⟩ := typ_bytes t0 rfl rfl
  obtain ⟨partsa1, rfl, hla1, hpa1⟩ := typ_struct t1 rfl
  obtain ⟨qa1_0, qa1_1, qa1_2, qa1_3, qa1_4, qa1_5, rfl⟩ : ∃ qa1_0 qa1_1 qa1_2 qa1_3 qa1_4 qa1_5, partsa1 = [qa1_0, qa1_1, qa1_2, qa1_3, qa1_4, qa1_5] := by
    match partsa1, hla1 with
    | [qa1_0, qa1_1, qa1_2, qa1_3, qa1_4, qa1_5], _ => exact ⟨qa1_0, qa1_1, qa1_2, qa1_3, qa1_4, qa1_5, rfl⟩
  have ta1_0 := hpa1 0 _ qa1_0 rfl rfl
  obtain ⟨a1_0, rfl⟩ := typ_bool ta1_0 rfl
  have ta1_1 := hpa1 1 _ qa1_1 rfl rfl
  obtain ⟨a1_1, rfl⟩ := typ_bool ta1_1 rfl
  have ta1_2 := hpa1 2 _ qa1_2 rfl rfl
  obtain ⟨a1_2, rfl⟩ := typ_u8 ta1_2 rfl
  have ta1_3 := hpa1 3 _ qa1_3 rfl rfl
  obtain ⟨a1_3, rfl⟩ := typ_u8 ta1_3 rfl
  have ta1_4 := hpa1 4 _ qa1_4 rfl rfl
  obtain ⟨a1_4, rfl⟩ := typ_bytes ta1_4 rfl rfl
  have ta1_5 := hpa1 5 _ qa1_5 rfl rfl
  obtain ⟨a1_5, rfl⟩ := typ_bytes ta1_5 rfl rfl
  obtain ⟨a2, rfl⟩ := typ_bytes t2 rfl rfl
  obtain ⟨a3, rfl, wa3⟩ := typ_int t3 rfl
  obtain ⟨a4, rfl⟩ := typ_u8 t4 rfl
  obtain ⟨a5, rfl⟩ := typ_bool t5 rfl
  obtain ⟨a6, rfl, wa6⟩ := typ_int t6 rfl
  exact calls_of_fn Try.func4 rfl rfl (c_AppDecodes a0 a1_0 a1_1 a1_2 a1_3 a1_4 a1_5 a2 a3 (wf_u32 wa3) a4 a5 a6 (wf_u16 wa6)) (relCs_cons r0 (relCs_cons r1 (relCs_cons r2 (relCs_cons r3 (relCs_cons r4 (relCs_cons r5 (relCs_cons r6 relCs_nil)))))))

set_option maxRecDepth 100000 in
theorem lifted (os : Os) (started : os.Started) (H : Type) (enc : TypeId × Value → H) :
    ReturnsInHanded {} Try.checked os 4 .any (Rows.appDecodesSpec.pre6 enc Try.prog Try.f4 Rows.appDecodesRow.domain false) (Rows.appDecodesSpec.post enc Try.prog Try.f4 false true false false) := by
  refine returnsInHanded_of_change (C := Try.checked) ownA started (by kernel_rfl) Try.func4
    (ChangeSpec.witness6 (enc := enc) (C := Try.checked) false ⟨#[], #[.slice none 0 0, .agg #[.bool false, .bool false, .int .u8 0, .int .u8 0, .slice none 0 0, .slice none 0 0], .slice none 0 0, .int .u32 0, .int .u8 0, .bool false, .int .u16 0], []⟩ 8 (by kernel_rfl) (by kernel_rfl) (by kernel_rfl) (by kernel_rfl)) ?_
  intro W base args ds gs before hval0 hW hcnd _
  have hval : ∀ (j : Nat) t v, Try.f4.params[j]? = some t → args[j]? = some v → Value.okWide Try.prog W .any base t v := hval0
  have hW' := hW
  obtain ⟨p, q, hA0, hV, rfl, hfz, hnd⟩ := hW
  have hA : DataW.TrodAll enc Try.prog W 0 (fun _ => true) true Try.f4.params.toList args.toList ds p := hA0
  rw [Try.params4] at hA hval
  obtain ⟨v0, vs0, d0, ds0, p0, q0, hargs, rfl, rfl, h0, r0⟩ := trodAll_cons hA
  obtain ⟨v1, vs1, d1, ds1, p1, q1, rfl, rfl, rfl, h1, r1⟩ := trodAll_cons r0
  obtain ⟨v2, vs2, d2, ds2, p2, q2, rfl, rfl, rfl, h2, r2⟩ := trodAll_cons r1
  obtain ⟨v3, vs3, d3, ds3, p3, q3, rfl, rfl, rfl, h3, r3⟩ := trodAll_cons r2
  obtain ⟨v4, vs4, d4, ds4, p4, q4, rfl, rfl, rfl, h4, r4⟩ := trodAll_cons r3
  obtain ⟨v5, vs5, d5, ds5, p5, q5, rfl, rfl, rfl, h5, r5⟩ := trodAll_cons r4
  obtain ⟨v6, vs6, d6, ds6, p6, q6, rfl, rfl, rfl, h6, r6⟩ := trodAll_cons r5
  obtain ⟨rfl, rfl, rfl⟩ := trodAll_nil r6
  obtain rfl : args = #[v0, v1, v2, v3, v4, v5, v6] := by cases args; simp_all
  obtain ⟨rfl, rfl⟩ := trodVars_none hV
  obtain ⟨ls0, t0, c0⟩ := rel_arg tokA (n := 9) rfl h0 (hval 0 27 v0 rfl rfl)
  obtain ⟨ls1, t1, c1⟩ := rel_arg tokA (n := 9) rfl h1 (hval 1 46 v1 rfl rfl)
  obtain ⟨ls2, t2, c2⟩ := rel_arg tokA (n := 9) rfl h2 (hval 2 27 v2 rfl rfl)
  obtain ⟨ls3, t3, c3⟩ := rel_arg tokA (n := 9) rfl h3 (hval 3 47 v3 rfl rfl)
  obtain ⟨ls4, t4, c4⟩ := rel_arg tokA (n := 9) rfl h4 (hval 4 5 v4 rfl rfl)
  obtain ⟨ls5, t5, c5⟩ := rel_arg tokA (n := 9) rfl h5 (hval 5 4 v5 rfl rfl)
  obtain ⟨ls6, t6, c6⟩ := rel_arg tokA (n := 9) rfl h6 (hval 6 48 v6 rfl rfl)
  have lt0 : ∀ x ∈ p0, x.block < W.heap.size := by obtain ⟨m, hm⟩ := h0; exact DataW.trod_lt m _ _ _ hm
  have lt1 : ∀ x ∈ p1, x.block < W.heap.size := by obtain ⟨m, hm⟩ := h1; exact DataW.trod_lt m _ _ _ hm
  have lt2 : ∀ x ∈ p2, x.block < W.heap.size := by obtain ⟨m, hm⟩ := h2; exact DataW.trod_lt m _ _ _ hm
  have lt3 : ∀ x ∈ p3, x.block < W.heap.size := by obtain ⟨m, hm⟩ := h3; exact DataW.trod_lt m _ _ _ hm
  have lt4 : ∀ x ∈ p4, x.block < W.heap.size := by obtain ⟨m, hm⟩ := h4; exact DataW.trod_lt m _ _ _ hm
  have lt5 : ∀ x ∈ p5, x.block < W.heap.size := by obtain ⟨m, hm⟩ := h5; exact DataW.trod_lt m _ _ _ hm
  have lt6 : ∀ x ∈ p6, x.block < W.heap.size := by obtain ⟨m, hm⟩ := h6; exact DataW.trod_lt m _ _ _ hm
  clear hA0 hval0
  refine (walk W v0 v1 v2 v3 v4 v5 v6 ls0 ls1 ls2 ls3 ls4 ls5 ls6 t0 t1 t2 t3 t4 t5 t6 c0 c1 c2 c3 c4 c5 c6).mono fun e W' ⟨he, bel⟩ => ?_
  subst he
  exact ⟨_, rfl, _, _, _, [], _, [], hW', trodAll_mk1 (shut_bool Try.underlying4 _), (trodAll_cons_mk (Below.trod laidOutA (by kernel_rfl) (of_decide_eq_true (by kernel_rfl)) h0 bel lt0) (trodAll_cons_mk (Below.trod laidOutA (by kernel_rfl) (of_decide_eq_true (by kernel_rfl)) h1 bel lt1) (trodAll_cons_mk (Below.trod laidOutA (by kernel_rfl) (of_decide_eq_true (by kernel_rfl)) h2 bel lt2) (trodAll_cons_mk (Below.trod laidOutA (by kernel_rfl) (of_decide_eq_true (by kernel_rfl)) h3 bel lt3) (trodAll_cons_mk (Below.trod laidOutA (by kernel_rfl) (of_decide_eq_true (by kernel_rfl)) h4 bel lt4) (trodAll_cons_mk (Below.trod laidOutA (by kernel_rfl) (of_decide_eq_true (by kernel_rfl)) h5 bel lt5) (trodAll_cons_mk (Below.trod laidOutA (by kernel_rfl) (of_decide_eq_true (by kernel_rfl)) h6 bel lt6) trodAll_mk0))))))), rfl, bel.frame _, fun h => by cases h⟩

theorem over : Rows.appDecodesRow.holds Try.pinned (OpenSpec.ofChange Rows.appDecodesSpec) :=
  OpenClaim.holds_of_wide 4 Try.f4 rfl rfl rfl rfl rfl rfl rfl ⟨rfl, rfl, rfl, rfl, rfl⟩ rfl rfl rfl rfl rfl (by kernel_rfl) Try.func4 (by kernel_rfl)
    (of_decide_eq_true (by kernel_rfl)) (by unfold Func.isWrapper; first | (rw [if_pos (by decide +kernel)]; kernel_rfl) | (rw [if_neg (by decide +kernel)]; exact ⟨rfl, rfl⟩))
    (fun os started H enc _ => lifted os started H enc)
end AppDecodesProof

theorem appDecodes_proved : Rows.AppDecodesSaid := AppDecodesProof.over
#print axioms appDecodes_proved
end Go.Proofs.Ytgiekmlofndeaaa

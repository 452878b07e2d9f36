/-
  The statement ProtectMakes: the law returns true for every input; no conditions.
-/
import Derived.Test.YtcmcjiacpahliabCProtL
import Derived.Test.YtcmcjiacpahliabLOwn
set_option linter.all false
namespace Go.Sx
open Go.Proofs Go.RowKit
noncomputable def g12 : Par := par 112 (nthLL [[1, 2, 3, 4, 5, 6], [1, 2, 3, 4, 5, 6, 25], [12], [1, 2, 3, 4, 5, 6, 39], [12], [1, 2, 3, 4, 5, 6, 13], [1, 2, 3, 4, 5, 6, 13, 41], [1, 2, 3, 4, 5, 6, 13], [1, 2, 3, 4, 5, 6, 13, 14], [1, 2, 3, 4, 5, 6, 13, 14, 15], [1, 2, 3, 4, 5, 6, 13, 14, 15, 16, 17], [1, 2, 3, 4, 5, 6, 13, 14, 15, 16, 17, 18, 19], [1, 2, 3, 4, 5, 6, 13, 14, 15, 16, 17, 18, 19, 20, 21], [1, 2, 3, 4, 5, 6, 13, 16, 17, 18, 19, 20, 21, 22, 23], [1, 2, 3, 4, 5, 6, 13, 111], [12], [12]]) [12] (nthLL [[], [], [], [], [], [], [], [], [0, 0, 0, 6, 15, 0, 32, 127, 255, 0, 1023]])
set_option maxRecDepth 10000
set_option maxHeartbeats 16000000
theorem c_ProtectMakes (d : List UInt8) (tk ad tm : Int) (dt q : List UInt8) (l : Bool) (k : Int) (hk : 0 ≤ k ∧ k ≤ 18446744073709551615) (n : UInt8) : Fn Try.prog 12 [.a [.sl (d.map u8) d.length, .i .i64 tk, .i .i64 ad, .i .i64 tm], .o (.sl (dt.map u8) dt.length), .o (.sl (q.map u8) q.length), .o (.b l), .o (.i .u64 k), .o (.i .u8 (n.toNat : Int))] [] (.one (.c (.o (.b true)))) [] := by
  have hn := byte_lt n
  refine Fn_intro (G := g12) (goodA rfl) (fn := Try.f12) rfl rfl rfl rfl rfl ?_
  by_cases hl : d.length > 600 ∨ dt.length > 500 ∨ q.length > 40
  · (repeat' ((conv => whnf) <;> first | exact rfl | with_reducible refine boolK_dec (fun _ => ?_) (fun _ => ?_) <;> try (exfalso; omega) | refine boolK_beq (fun _ => ?_) (fun _ => ?_) <;> try (exfalso; first | omega | contradiction) | refine boolK_bne (fun _ => ?_) (fun _ => ?_) <;> try (exfalso; first | omega | contradiction) | (with_reducible first | refine boolK_not ?_ | refine boolK_and ?_ | refine boolK_or ?_ | refine boolK_true ?_ | refine boolK_false ?_) | refine boolK_intro (fun _ => ?_) (fun _ => ?_) <;> try (exfalso; simp_all; done) | refine jA ?_ | refine jB ?_ | refine jC ?_ | refine jD ?_ | refine jE ?_ | refine jF ?_ | refine jG ?_ | refine jH ?_ | refine jI ?_ | refine jJ ?_ | refine jK ?_ | with_reducible refine natK_lit ?_ | refine natK_of rfl ?_ | refine natK_any ?_ | refine jL ?_ | refine jM ?_ | refine jN ?_ | refine jO ?_ | refine jP ?_ | refine jQ ?_ | refine jR ?_ | refine jS ?_ | refine jT ?_ | refine jU (fun _ => ?_) | refine jV ?_ | refine jW ?_ | refine jX ?_ | refine jY ?_ | refine jZ ?_ | refine ja ?_ | refine jb ?_ | refine jc ?_ | refine jd ?_ | refine je ?_ | refine jf ?_ | refine jg ?_ | refine jh ?_ | refine ji ?_ | refine jj ?_ | refine jk ?_ | refine jn ?_ | refine jo ?_ | refine jp ?_ | refine jq ?_ | refine jr ?_ | refine js ?_ | refine callK_intro (c_awake11) ?_ | refine jt ?_ | refine jx ?_ | refine jy ?_ | refine ju ?_ | refine jv ?_)) <;> (try (conv => whnf))
  · obtain ⟨tk1, ad1, tm1, _, c1⟩ := c_content11 dt q rfl (by omega)
    have c1 := c1 _ rfl
    have cK := c_Session (n.toNat : Int) (by omega)
    have hk' := sess_range' (n := (n.toNat : Int)) (by omega)
    generalize sessN (n.toNat : Int) = k' at *
    have p1 := c_MakePrivate l d tk ad tm (by omega) k hk
    have rp1 := c_rMakePrivate l d tk ad tm (by omega) k hk
    generalize mk6 l k (prN l (d, tk, ad, tm)) = P1 at *
    have s1 := c_MakeSafe l d tk ad tm (by omega) k hk
    have rs1 := c_rMakeSafe l d tk ad tm (by omega) k hk
    generalize mk7 l k (prN l (d, tk, ad, tm)) = S1 at *
    have p2 := c_MakePrivate l d tk ad tm (by omega) k' hk'
    have rp2 := c_rMakePrivate l d tk ad tm (by omega) k' hk'
    generalize mk6 l k' (prN l (d, tk, ad, tm)) = P2 at *
    have s2 := c_MakeSafe l d tk ad tm (by omega) k' hk'
    have rs2 := c_rMakeSafe l d tk ad tm (by omega) k' hk'
    generalize mk7 l k' (prN l (d, tk, ad, tm)) = S2 at *
    have p3 := c_MakePrivate l dt tk1 ad1 tm1 (by omega) k hk
    have rp3 := c_rMakePrivate l dt tk1 ad1 tm1 (by omega) k hk
    generalize mk6 l k (prN l (dt, tk1, ad1, tm1)) = P3 at *
    have s3 := c_MakeSafe l dt tk1 ad1 tm1 (by omega) k hk
    have rs3 := c_rMakeSafe l dt tk1 ad1 tm1 (by omega) k hk
    generalize mk7 l k (prN l (dt, tk1, ad1, tm1)) = S3 at *
    have p4 := c_MakePrivate l dt tk1 ad1 tm1 (by omega) k' hk'
    have rp4 := c_rMakePrivate l dt tk1 ad1 tm1 (by omega) k' hk'
    generalize mk6 l k' (prN l (dt, tk1, ad1, tm1)) = P4 at *
    have s4 := c_MakeSafe l dt tk1 ad1 tm1 (by omega) k' hk'
    have rs4 := c_rMakeSafe l dt tk1 ad1 tm1 (by omega) k' hk'
    generalize mk7 l k' (prN l (dt, tk1, ad1, tm1)) = S4 at *
    (repeat' ((conv => whnf) <;> first | with_reducible refine boolK_refl ?_ | refine natK_of (j := 0) (by omega) ?_ | refine natK_of (j := 1) (by omega) ?_ | exact rfl | with_reducible refine boolK_dec (fun _ => ?_) (fun _ => ?_) <;> try (exfalso; omega) | refine boolK_beq (fun _ => ?_) (fun _ => ?_) <;> try (exfalso; first | omega | contradiction) | refine boolK_bne (fun _ => ?_) (fun _ => ?_) <;> try (exfalso; first | omega | contradiction) | (with_reducible first | refine boolK_not ?_ | refine boolK_and ?_ | refine boolK_or ?_ | refine boolK_true ?_ | refine boolK_false ?_) | refine boolK_intro (fun _ => ?_) (fun _ => ?_) <;> try (exfalso; simp_all; done) | refine jA ?_ | refine jB ?_ | refine jC ?_ | refine jD ?_ | refine jE ?_ | refine jF ?_ | refine jG ?_ | refine jH ?_ | refine jI ?_ | refine jJ ?_ | refine jK ?_ | with_reducible refine natK_lit ?_ | refine natK_of rfl ?_ | refine natK_any ?_ | refine jL ?_ | refine jM ?_ | refine jN ?_ | refine jO ?_ | refine jP ?_ | refine jQ ?_ | refine jR ?_ | refine jS ?_ | refine jT ?_ | refine jU (fun _ => ?_) | refine jV ?_ | refine jW ?_ | refine jX ?_ | refine jY ?_ | refine jZ ?_ | refine ja ?_ | refine jb ?_ | refine jc ?_ | refine jd ?_ | refine je ?_ | refine jf ?_ | refine jg ?_ | refine jh ?_ | refine ji ?_ | refine jj ?_ | refine jk ?_ | refine jn ?_ | refine jo ?_ | refine jp ?_ | refine jq ?_ | refine jr ?_ | refine js ?_ | refine callK_intro (c_awake11) ?_ | refine callK_intro (c1) ?_ | refine callK_intro (cK) ?_ | refine callK_intro (p1) ?_ | refine callK_intro (rp1) ?_ | refine callK_intro (s1) ?_ | refine callK_intro (rs1) ?_ | refine callK_intro (p2) ?_ | refine callK_intro (rp2) ?_ | refine callK_intro (s2) ?_ | refine callK_intro (rs2) ?_ | refine callK_intro (p3) ?_ | refine callK_intro (rp3) ?_ | refine callK_intro (s3) ?_ | refine callK_intro (rs3) ?_ | refine callK_intro (p4) ?_ | refine callK_intro (rp4) ?_ | refine callK_intro (s4) ?_ | refine callK_intro (rs4) ?_ | refine loopK_step (G := g12) ?_ | refine jt ?_ | refine jx ?_ | refine jy ?_ | refine ju ?_ | refine jv ?_)) <;> (try (conv => whnf))
end Go.Sx
namespace Go.Proofs.Ytcmcjiacpahliab
open Go.ChangeShapes Go.WideShapes Go.ChangeAt Go.RowKit Go.Sx
namespace ProtectMakesProof
set_option maxRecDepth 100000 in
theorem walk (W : World) (v0 v1 v2 v3 v4 v5 : Value) (ls0 ls1 ls2 ls3 ls4 ls5 : List L)
    (t0 : Typ (tabF tab) 85 ls0) (t1 : Typ (tabF tab) 23 ls1) (t2 : Typ (tabF tab) 23 ls2) (t3 : Typ (tabF tab) 4 ls3) (t4 : Typ (tabF tab) 30 ls4) (t5 : Typ (tabF tab) 5 ls5)
    (r0 : RelC (fun _ => False) W noMu (argC (tabF tab 85).agg ls0) v0) (r1 : RelC (fun _ => False) W noMu (argC (tabF tab 23).agg ls1) v1) (r2 : RelC (fun _ => False) W noMu (argC (tabF tab 23).agg ls2) v2) (r3 : RelC (fun _ => False) W noMu (argC (tabF tab 4).agg ls3) v3) (r4 : RelC (fun _ => False) W noMu (argC (tabF tab 30).agg ls4) v4) (r5 : RelC (fun _ => False) W noMu (argC (tabF tab 5).agg ls5) v5) :
    Calls Try.prog 12 #[v0, v1, v2, v3, v4, v5] W fun e w' => e = .returned (.bool true) ∧ Below W.heap.size W w' := by
  obtain ⟨partsa0, rfl, hla0, hpa0⟩ := typ_struct t0 rfl
  obtain ⟨qa0_0, qa0_1, qa0_2, qa0_3, rfl⟩ : ∃ qa0_0 qa0_1 qa0_2 qa0_3, partsa0 = [qa0_0, qa0_1, qa0_2, qa0_3] := by
    match partsa0, hla0 with
    | [qa0_0, qa0_1, qa0_2, qa0_3], _ => exact ⟨qa0_0, qa0_1, qa0_2, qa0_3, rfl⟩
  have ta0_0 := hpa0 0 _ qa0_0 rfl rfl
  obtain ⟨a0_0, rfl⟩ := typ_bytes ta0_0 rfl rfl
  have ta0_1 := hpa0 1 _ qa0_1 rfl rfl
  obtain ⟨a0_1, rfl, wa0_1⟩ := typ_int ta0_1 rfl
  have ta0_2 := hpa0 2 _ qa0_2 rfl rfl
  obtain ⟨a0_2, rfl, wa0_2⟩ := typ_int ta0_2 rfl
  have ta0_3 := hpa0 3 _ qa0_3 rfl rfl
  obtain ⟨a0_3, rfl, wa0_3⟩ := typ_int ta0_3 rfl
  obtain ⟨a1, rfl⟩ := typ_bytes t1 rfl rfl
  obtain ⟨a2, rfl⟩ := typ_bytes t2 rfl rfl
  obtain ⟨a3, rfl⟩ := typ_bool t3 rfl
  obtain ⟨a4, rfl, wa4⟩ := typ_int t4 rfl
  obtain ⟨a5, rfl⟩ := typ_u8 t5 rfl
  exact calls_of_fn Try.func12 rfl rfl (c_ProtectMakes a0_0 a0_1 a0_2 a0_3 a1 a2 a3 a4 (wf_u64 wa4) a5) (relCs_cons r0 (relCs_cons r1 (relCs_cons r2 (relCs_cons r3 (relCs_cons r4 (relCs_cons r5 relCs_nil))))))

set_option maxRecDepth 100000 in
theorem lifted (os : Os) (started : os.Started) (H : Type) (enc : TypeId × Value → H) :
    ReturnsInHanded {} Try.checked os 12 .any (Rows.protectMakesSpec.pre6 enc Try.prog Try.f12 Rows.protectMakesRow.domain false) (Rows.protectMakesSpec.post enc Try.prog Try.f12 false true false false) := by
  refine returnsInHanded_of_change (C := Try.checked) ownA started (by kernel_rfl) Try.func12
    (ChangeSpec.witness6 (enc := enc) (C := Try.checked) false ⟨#[], #[.agg #[.slice none 0 0, .int .i64 0, .int .i64 0, .int .i64 0], .slice none 0 0, .slice none 0 0, .bool false, .int .u64 0, .int .u8 0], []⟩ 8 (by kernel_rfl) (by kernel_rfl) (by kernel_rfl) (by kernel_rfl)) ?_
  intro W base args ds gs before hval0 hW hcnd _
  have hval : ∀ (j : Nat) t v, Try.f12.params[j]? = some t → args[j]? = some v → Value.okWide Try.prog W .any base t v := hval0
  have hW' := hW
  obtain ⟨p, q, hA0, hV, rfl, hfz, hnd⟩ := hW
  have hA : DataW.TrodAll enc Try.prog W 0 (fun _ => true) true Try.f12.params.toList args.toList ds p := hA0
  rw [Try.params12] at hA hval
  obtain ⟨v0, vs0, d0, ds0, p0, q0, hargs, rfl, rfl, h0, r0⟩ := trodAll_cons hA
  obtain ⟨v1, vs1, d1, ds1, p1, q1, rfl, rfl, rfl, h1, r1⟩ := trodAll_cons r0
  obtain ⟨v2, vs2, d2, ds2, p2, q2, rfl, rfl, rfl, h2, r2⟩ := trodAll_cons r1
  obtain ⟨v3, vs3, d3, ds3, p3, q3, rfl, rfl, rfl, h3, r3⟩ := trodAll_cons r2
  obtain ⟨v4, vs4, d4, ds4, p4, q4, rfl, rfl, rfl, h4, r4⟩ := trodAll_cons r3
  obtain ⟨v5, vs5, d5, ds5, p5, q5, rfl, rfl, rfl, h5, r5⟩ := trodAll_cons r4
  obtain ⟨rfl, rfl, rfl⟩ := trodAll_nil r5
  obtain rfl : args = #[v0, v1, v2, v3, v4, v5] := by cases args; simp_all
  obtain ⟨rfl, rfl⟩ := trodVars_none hV
  obtain ⟨ls0, t0, c0⟩ := rel_arg tokA (n := 9) rfl h0 (hval 0 85 v0 rfl rfl)
  obtain ⟨ls1, t1, c1⟩ := rel_arg tokA (n := 9) rfl h1 (hval 1 23 v1 rfl rfl)
  obtain ⟨ls2, t2, c2⟩ := rel_arg tokA (n := 9) rfl h2 (hval 2 23 v2 rfl rfl)
  obtain ⟨ls3, t3, c3⟩ := rel_arg tokA (n := 9) rfl h3 (hval 3 4 v3 rfl rfl)
  obtain ⟨ls4, t4, c4⟩ := rel_arg tokA (n := 9) rfl h4 (hval 4 30 v4 rfl rfl)
  obtain ⟨ls5, t5, c5⟩ := rel_arg tokA (n := 9) rfl h5 (hval 5 5 v5 rfl rfl)
  have lt0 : ∀ x ∈ p0, x.block < W.heap.size := by obtain ⟨m, hm⟩ := h0; exact DataW.trod_lt m _ _ _ hm
  have lt1 : ∀ x ∈ p1, x.block < W.heap.size := by obtain ⟨m, hm⟩ := h1; exact DataW.trod_lt m _ _ _ hm
  have lt2 : ∀ x ∈ p2, x.block < W.heap.size := by obtain ⟨m, hm⟩ := h2; exact DataW.trod_lt m _ _ _ hm
  have lt3 : ∀ x ∈ p3, x.block < W.heap.size := by obtain ⟨m, hm⟩ := h3; exact DataW.trod_lt m _ _ _ hm
  have lt4 : ∀ x ∈ p4, x.block < W.heap.size := by obtain ⟨m, hm⟩ := h4; exact DataW.trod_lt m _ _ _ hm
  have lt5 : ∀ x ∈ p5, x.block < W.heap.size := by obtain ⟨m, hm⟩ := h5; exact DataW.trod_lt m _ _ _ hm
  clear hA0 hval0
  refine (walk W v0 v1 v2 v3 v4 v5 ls0 ls1 ls2 ls3 ls4 ls5 t0 t1 t2 t3 t4 t5 c0 c1 c2 c3 c4 c5).mono fun e W' ⟨he, bel⟩ => ?_
  subst he
  exact ⟨_, rfl, _, _, _, [], _, [], hW', trodAll_mk1 (shut_bool Try.underlying4 _), (trodAll_cons_mk (Below.trod laidOutA (by kernel_rfl) (of_decide_eq_true (by kernel_rfl)) h0 bel lt0) (trodAll_cons_mk (Below.trod laidOutA (by kernel_rfl) (of_decide_eq_true (by kernel_rfl)) h1 bel lt1) (trodAll_cons_mk (Below.trod laidOutA (by kernel_rfl) (of_decide_eq_true (by kernel_rfl)) h2 bel lt2) (trodAll_cons_mk (Below.trod laidOutA (by kernel_rfl) (of_decide_eq_true (by kernel_rfl)) h3 bel lt3) (trodAll_cons_mk (Below.trod laidOutA (by kernel_rfl) (of_decide_eq_true (by kernel_rfl)) h4 bel lt4) (trodAll_cons_mk (Below.trod laidOutA (by kernel_rfl) (of_decide_eq_true (by kernel_rfl)) h5 bel lt5) trodAll_mk0)))))), rfl, bel.frame _, fun h => by cases h⟩

theorem over : Rows.protectMakesRow.holds Try.pinned (OpenSpec.ofChange Rows.protectMakesSpec) :=
  OpenClaim.holds_of_wide 12 Try.f12 rfl rfl rfl rfl rfl rfl rfl ⟨rfl, rfl, rfl, rfl, rfl⟩ rfl rfl rfl rfl rfl (by kernel_rfl) Try.func12 (by kernel_rfl)
    (of_decide_eq_true (by kernel_rfl)) (by unfold Func.isWrapper; first | (rw [if_pos (by decide +kernel)]; kernel_rfl) | (rw [if_neg (by decide +kernel)]; exact ⟨rfl, rfl⟩))
    (fun os started H enc _ => lifted os started H enc)
end ProtectMakesProof

theorem protectMakes_proved : Rows.ProtectMakesSaid := ProtectMakesProof.over
#print axioms protectMakes_proved
end Go.Proofs.Ytcmcjiacpahliab

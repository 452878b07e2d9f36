/-
  The statement ChannelOpens: the law returns true for every input; no conditions.
-/
import Derived.Test.YtkphcbogdmblnaaCChanK
import Derived.Test.YtkphcbogdmblnaaLOwn
set_option linter.all false
namespace Go.Sx
open Go.Proofs Go.RowKit
noncomputable def g3 : Par := par 140 (nthLL [[1, 2, 3, 4, 5, 6, 7, 8], [1, 2, 3, 4, 5, 6, 7, 8, 31], [16], [1, 2, 3, 4, 5, 6, 7, 8, 17], [1, 2, 3, 4, 5, 6, 7, 8, 17, 33], [1, 2, 3, 4, 5, 6, 7, 8, 17], [1, 2, 3, 4, 5, 6, 7, 8, 17, 18], [1, 2, 3, 4, 5, 6, 7, 8, 17, 18, 19, 20], [1, 2, 3, 4, 5, 6, 7, 8, 17, 18, 19, 20, 21, 22], [1, 2, 3, 4, 5, 6, 7, 8, 17, 18, 19, 20, 21, 22, 23, 24], [1, 2, 3, 4, 5, 6, 7, 8, 17, 18, 19, 20, 21, 22, 23, 24, 25, 26], [1, 2, 3, 4, 5, 6, 7, 8, 17, 21, 22, 23, 24, 25, 26, 27, 28], [1, 2, 3, 4, 5, 6, 7, 8, 17, 111], [16], [8, 29], [16]]) [16] (nthLL [[], [], [], [], [], [], [], [0, 0, 2, 6, 15, 0, 63, 127, 0, 0, 512, 1536, 3840, 0, 16128, 32512, 255, 131071], [], [], [], [], [], [], [0, 0, 2, 0, 8, 24, 62, 126, 0, 256, 0, 1024, 3072, 7936, 16128, 32767, 0, 131071], [0, 1, 0, 7, 15, 31, 63, 127, 63, 511, 1023, 2047, 4095]])
set_option maxRecDepth 10000
set_option maxHeartbeats 16000000
theorem c_ChannelOpens (s mi pe sk lt lk : Int) (hs : 0 ≤ s ∧ s ≤ 18446744073709551615) (ses : Int) (hk : 0 ≤ ses ∧ ses ≤ 18446744073709551615) (x y z : Int) (n a b : UInt8) : Fn Try.prog 3 [.a [.i .u64 s, .i .i64 mi, .i .i64 pe, .i .i64 sk, .i .i64 lt, .i .i64 lk], .o (.i .u64 ses), .o (.i .i64 x), .o (.i .i64 y), .o (.i .i64 z), .o (.i .u8 (n.toNat : Int)), .o (.i .u8 (a.toNat : Int)), .o (.i .u8 (b.toNat : Int))] [] (.one (.c (.o (.b true)))) [] := by
  have hn := byte_lt n
  have ha := byte_lt a
  have hb := byte_lt b
  have cK := c_Session (n.toNat : Int) (by omega)
  have cK1 := c_Session 1 (by omega)
  have rk := sess_range' (n := (n.toNat : Int)) (by omega)
  have rk1 := sess_range' (n := 1) (by omega)
  generalize sessN (n.toNat : Int) = k at *
  generalize sessN 1 = k1 at *
  have o1 := c_chOpen ses x y z hk
  have q1 := c_rchOpen ses x y z hk
  generalize chO ses x y z = O1 at *
  have o2 := c_chOpen ses x y (n.toNat : Int) hk
  have q2 := c_rchOpen ses x y (n.toNat : Int) hk
  generalize chO ses x y (n.toNat : Int) = O2 at *
  have o3 := c_chOpen k ((a.toNat : Int) % 4) ((b.toNat : Int) % 4) z rk
  have q3 := c_rchOpen k ((a.toNat : Int) % 4) ((b.toNat : Int) % 4) z rk
  generalize chO k ((a.toNat : Int) % 4) ((b.toNat : Int) % 4) z = O3 at *
  have o4 := c_chOpen k ((a.toNat : Int) % 4) ((b.toNat : Int) % 4) (n.toNat : Int) rk
  have q4 := c_rchOpen k ((a.toNat : Int) % 4) ((b.toNat : Int) % 4) (n.toNat : Int) rk
  generalize chO k ((a.toNat : Int) % 4) ((b.toNat : Int) % 4) (n.toNat : Int) = O4 at *
  have k1' := c_chCheck s mi pe sk lt lk hs
  have k2' := c_rchCheck s mi pe sk lt lk hs
  generalize chC ⟨s, mi, pe, sk, lt, lk⟩ = E1 at *
  refine Fn_intro (G := g3) (goodA rfl) (fn := Try.f3) rfl rfl rfl rfl rfl ?_
  (repeat' ((conv => whnf) <;> first | with_reducible refine boolK_refl ?_ | refine natK_of (j := 0) (by omega) ?_ | refine natK_of (j := 1) (by omega) ?_ | refine natK_of (j := ((a.toNat : Int) % 5).toNat) (by omega) ?_ | refine natK_of (j := ((b.toNat : Int) % 5).toNat) (by omega) ?_ | refine headI_ints (l := [x, -1, -2, 4294967295, 4294967296]) (by simp; omega) ?_ | refine headI_ints (l := [y, -1, -2, 199, 200]) (by simp; omega) ?_ | exact rfl | with_reducible refine boolK_dec (fun _ => ?_) (fun _ => ?_) <;> try (exfalso; omega) | refine boolK_beq (fun _ => ?_) (fun _ => ?_) <;> try (exfalso; first | omega | contradiction) | refine boolK_bne (fun _ => ?_) (fun _ => ?_) <;> try (exfalso; first | omega | contradiction) | (with_reducible first | refine boolK_not ?_ | refine boolK_and ?_ | refine boolK_or ?_ | refine boolK_true ?_ | refine boolK_false ?_) | refine boolK_intro (fun _ => ?_) (fun _ => ?_) <;> try (exfalso; simp_all; done) | refine jA ?_ | refine jB ?_ | refine jC ?_ | refine jD ?_ | refine jE ?_ | refine jF ?_ | refine jG ?_ | refine jH ?_ | refine jI ?_ | refine jJ ?_ | refine jK ?_ | with_reducible refine natK_lit ?_ | refine natK_of rfl ?_ | refine natK_any ?_ | refine jO ?_ | refine jP ?_ | refine jQ ?_ | refine jR ?_ | refine jS ?_ | refine jT ?_ | refine jU (fun _ => ?_) | refine jV ?_ | refine jW ?_ | refine jX ?_ | refine jY ?_ | refine jZ ?_ | refine ja ?_ | refine jb ?_ | refine jc ?_ | refine jd ?_ | refine je ?_ | refine jf ?_ | refine jg ?_ | refine jh ?_ | refine ji ?_ | refine jj ?_ | refine jk ?_ | refine jn ?_ | refine jo ?_ | refine jp ?_ | refine jq ?_ | refine jr ?_ | refine js ?_ | refine callK_intro (c_awake21) ?_ | refine callK_intro (cK) ?_ | refine callK_intro (cK1) ?_ | refine callK_intro (o1) ?_ | refine callK_intro (q1) ?_ | refine callK_intro (o2) ?_ | refine callK_intro (q2) ?_ | refine callK_intro (o3) ?_ | refine callK_intro (q3) ?_ | refine callK_intro (o4) ?_ | refine callK_intro (q4) ?_ | refine callK_intro (k1') ?_ | refine callK_intro (k2') ?_ | refine callK_intro (c_chCheck k1 1 2 9 _ _ rk1) ?_ | refine callK_intro (c_rchCheck k1 1 2 9 _ _ rk1) ?_ | refine loopK_step (G := g3) ?_ | refine jt ?_ | refine jx ?_ | refine jy ?_ | refine ju ?_ | refine jv ?_)) <;> (try (conv => whnf))
end Go.Sx
namespace Go.Proofs.Ytkphcbogdmblnaa
open Go.ChangeShapes Go.WideShapes Go.ChangeAt Go.RowKit Go.Sx
namespace ChannelOpensProof
set_option maxRecDepth 100000 in
theorem walk (W : World) (v0 v1 v2 v3 v4 v5 v6 v7 : Value) (ls0 ls1 ls2 ls3 ls4 ls5 ls6 ls7 : List L)
    (t0 : Typ (tabF tab) 25 ls0) (t1 : Typ (tabF tab) 23 ls1) (t2 : Typ (tabF tab) 3 ls2) (t3 : Typ (tabF tab) 3 ls3) (t4 : Typ (tabF tab) 3 ls4) (t5 : Typ (tabF tab) 5 ls5) (t6 : Typ (tabF tab) 5 ls6) (t7 : Typ (tabF tab) 5 ls7)
    (r0 : RelC (fun _ => False) W noMu (argC (tabF tab 25).agg ls0) v0) (r1 : RelC (fun _ => False) W noMu (argC (tabF tab 23).agg ls1) v1) (r2 : RelC (fun _ => False) W noMu (argC (tabF tab 3).agg ls2) v2) (r3 : RelC (fun _ => False) W noMu (argC (tabF tab 3).agg ls3) v3) (r4 : RelC (fun _ => False) W noMu (argC (tabF tab 3).agg ls4) v4) (r5 : RelC (fun _ => False) W noMu (argC (tabF tab 5).agg ls5) v5) (r6 : RelC (fun _ => False) W noMu (argC (tabF tab 5).agg ls6) v6) (r7 : RelC (fun _ => False) W noMu (argC (tabF tab 5).agg ls7) v7) :
    Calls Try.prog 3 #[v0, v1, v2, v3, v4, v5, v6, v7] W fun e w' => e = .returned (.bool true) ∧ Below W.heap.size W w' := by
  obtain ⟨partsa0, rfl, hla0, hpa0⟩ := typ_struct t0 rfl
  obtain ⟨qa0_0, qa0_1, qa0_2, qa0_3, qa0_4, qa0_5, rfl⟩ : ∃ qa0_0 qa0_1 qa0_2 qa0_3 qa0_4 qa0_5, partsa0 = [qa0_0, qa0_1, qa0_2, qa0_3, qa0_4, qa0_5] := by
    match partsa0, hla0 with
    | [qa0_0, qa0_1, qa0_2, qa0_3, qa0_4, qa0_5], _ => exact ⟨qa0_0, qa0_1, qa0_2, qa0_3, qa0_4, qa0_5, rfl⟩
  have ta0_0 := hpa0 0 _ qa0_0 rfl rfl
  obtain ⟨a0_0, rfl, wa0_0⟩ := typ_int ta0_0 rfl
  have ta0_1 := hpa0 1 _ qa0_1 rfl rfl
  obtain ⟨a0_1, rfl, wa0_1⟩ := typ_int ta0_1 rfl
  have ta0_2 := hpa0 2 _ qa0_2 rfl rfl
  obtain ⟨a0_2, rfl, wa0_2⟩ := typ_int ta0_2 rfl
  have ta0_3 := hpa0 3 _ qa0_3 rfl rfl
  obtain ⟨a0_3, rfl, wa0_3⟩ := typ_int ta0_3 rfl
  have ta0_4 := hpa0 4 _ qa0_4 rfl rfl
  obtain ⟨a0_4, rfl, wa0_4⟩ := typ_int ta0_4 rfl
  have ta0_5 := hpa0 5 _ qa0_5 rfl rfl
  obtain ⟨a0_5, rfl, wa0_5⟩ := typ_int ta0_5 rfl
  obtain ⟨a1, rfl, wa1⟩ := typ_int t1 rfl
  obtain ⟨a2, rfl, wa2⟩ := typ_int t2 rfl
  obtain ⟨a3, rfl, wa3⟩ := typ_int t3 rfl
  obtain ⟨a4, rfl, wa4⟩ := typ_int t4 rfl
  obtain ⟨a5, rfl⟩ := typ_u8 t5 rfl
  obtain ⟨a6, rfl⟩ := typ_u8 t6 rfl
  obtain ⟨a7, rfl⟩ := typ_u8 t7 rfl
  exact calls_of_fn Try.func3 rfl rfl (c_ChannelOpens a0_0 a0_1 a0_2 a0_3 a0_4 a0_5 (wf_u64 wa0_0) a1 (wf_u64 wa1) a2 a3 a4 a5 a6 a7) (relCs_cons r0 (relCs_cons r1 (relCs_cons r2 (relCs_cons r3 (relCs_cons r4 (relCs_cons r5 (relCs_cons r6 (relCs_cons r7 relCs_nil))))))))

set_option maxRecDepth 100000 in
theorem lifted (os : Os) (started : os.Started) (H : Type) (enc : TypeId × Value → H) :
    ReturnsInHanded {} Try.checked os 3 .any (Rows.channelOpensSpec.pre6 enc Try.prog Try.f3 Rows.channelOpensRow.domain false) (Rows.channelOpensSpec.post enc Try.prog Try.f3 false true false false) := by
  refine returnsInHanded_of_change (C := Try.checked) ownA started (by kernel_rfl) Try.func3
    (ChangeSpec.witness6 (enc := enc) (C := Try.checked) false ⟨#[], #[.agg #[.int .u64 0, .int .i64 0, .int .i64 0, .int .i64 0, .int .i64 0, .int .i64 0], .int .u64 0, .int .i64 0, .int .i64 0, .int .i64 0, .int .u8 0, .int .u8 0, .int .u8 0], []⟩ 8 (by kernel_rfl) (by kernel_rfl) (by kernel_rfl) (by kernel_rfl)) ?_
  intro W base args ds gs before hval0 hW hcnd _
  have hval : ∀ (j : Nat) t v, Try.f3.params[j]? = some t → args[j]? = some v → Value.okWide Try.prog W .any base t v := hval0
  have hW' := hW
  obtain ⟨p, q, hA0, hV, rfl, hfz, hnd⟩ := hW
  have hA : DataW.TrodAll enc Try.prog W 0 (fun _ => true) true Try.f3.params.toList args.toList ds p := hA0
  rw [Try.params3] at hA hval
  obtain ⟨v0, vs0, d0, ds0, p0, q0, hargs, rfl, rfl, h0, r0⟩ := trodAll_cons hA
  obtain ⟨v1, vs1, d1, ds1, p1, q1, rfl, rfl, rfl, h1, r1⟩ := trodAll_cons r0
  obtain ⟨v2, vs2, d2, ds2, p2, q2, rfl, rfl, rfl, h2, r2⟩ := trodAll_cons r1
  obtain ⟨v3, vs3, d3, ds3, p3, q3, rfl, rfl, rfl, h3, r3⟩ := trodAll_cons r2
  obtain ⟨v4, vs4, d4, ds4, p4, q4, rfl, rfl, rfl, h4, r4⟩ := trodAll_cons r3
  obtain ⟨v5, vs5, d5, ds5, p5, q5, rfl, rfl, rfl, h5, r5⟩ := trodAll_cons r4
  obtain ⟨v6, vs6, d6, ds6, p6, q6, rfl, rfl, rfl, h6, r6⟩ := trodAll_cons r5
  obtain ⟨v7, vs7, d7, ds7, p7, q7, rfl, rfl, rfl, h7, r7⟩ := trodAll_cons r6
  obtain ⟨rfl, rfl, rfl⟩ := trodAll_nil r7
  obtain rfl : args = #[v0, v1, v2, v3, v4, v5, v6, v7] := by cases args; simp_all
  obtain ⟨rfl, rfl⟩ := trodVars_none hV
  obtain ⟨ls0, t0, c0⟩ := rel_arg tokA (n := 9) rfl h0 (hval 0 25 v0 rfl rfl)
  obtain ⟨ls1, t1, c1⟩ := rel_arg tokA (n := 9) rfl h1 (hval 1 23 v1 rfl rfl)
  obtain ⟨ls2, t2, c2⟩ := rel_arg tokA (n := 9) rfl h2 (hval 2 3 v2 rfl rfl)
  obtain ⟨ls3, t3, c3⟩ := rel_arg tokA (n := 9) rfl h3 (hval 3 3 v3 rfl rfl)
  obtain ⟨ls4, t4, c4⟩ := rel_arg tokA (n := 9) rfl h4 (hval 4 3 v4 rfl rfl)
  obtain ⟨ls5, t5, c5⟩ := rel_arg tokA (n := 9) rfl h5 (hval 5 5 v5 rfl rfl)
  obtain ⟨ls6, t6, c6⟩ := rel_arg tokA (n := 9) rfl h6 (hval 6 5 v6 rfl rfl)
  obtain ⟨ls7, t7, c7⟩ := rel_arg tokA (n := 9) rfl h7 (hval 7 5 v7 rfl rfl)
  have lt0 : ∀ x ∈ p0, x.block < W.heap.size := by obtain ⟨m, hm⟩ := h0; exact DataW.trod_lt m _ _ _ hm
  have lt1 : ∀ x ∈ p1, x.block < W.heap.size := by obtain ⟨m, hm⟩ := h1; exact DataW.trod_lt m _ _ _ hm
  have lt2 : ∀ x ∈ p2, x.block < W.heap.size := by obtain ⟨m, hm⟩ := h2; exact DataW.trod_lt m _ _ _ hm
  have lt3 : ∀ x ∈ p3, x.block < W.heap.size := by obtain ⟨m, hm⟩ := h3; exact DataW.trod_lt m _ _ _ hm
  have lt4 : ∀ x ∈ p4, x.block < W.heap.size := by obtain ⟨m, hm⟩ := h4; exact DataW.trod_lt m _ _ _ hm
  have lt5 : ∀ x ∈ p5, x.block < W.heap.size := by obtain ⟨m, hm⟩ := h5; exact DataW.trod_lt m _ _ _ hm
  have lt6 : ∀ x ∈ p6, x.block < W.heap.size := by obtain ⟨m, hm⟩ := h6; exact DataW.trod_lt m _ _ _ hm
  have lt7 : ∀ x ∈ p7, x.block < W.heap.size := by obtain ⟨m, hm⟩ := h7; exact DataW.trod_lt m _ _ _ hm
  clear hA0 hval0
  refine (walk W v0 v1 v2 v3 v4 v5 v6 v7 ls0 ls1 ls2 ls3 ls4 ls5 ls6 ls7 t0 t1 t2 t3 t4 t5 t6 t7 c0 c1 c2 c3 c4 c5 c6 c7).mono fun e W' ⟨he, bel⟩ => ?_
  subst he
  exact ⟨_, rfl, _, _, _, [], _, [], hW', trodAll_mk1 (shut_bool Try.underlying4 _), (trodAll_cons_mk (Below.trod laidOutA (by kernel_rfl) (of_decide_eq_true (by kernel_rfl)) h0 bel lt0) (trodAll_cons_mk (Below.trod laidOutA (by kernel_rfl) (of_decide_eq_true (by kernel_rfl)) h1 bel lt1) (trodAll_cons_mk (Below.trod laidOutA (by kernel_rfl) (of_decide_eq_true (by kernel_rfl)) h2 bel lt2) (trodAll_cons_mk (Below.trod laidOutA (by kernel_rfl) (of_decide_eq_true (by kernel_rfl)) h3 bel lt3) (trodAll_cons_mk (Below.trod laidOutA (by kernel_rfl) (of_decide_eq_true (by kernel_rfl)) h4 bel lt4) (trodAll_cons_mk (Below.trod laidOutA (by kernel_rfl) (of_decide_eq_true (by kernel_rfl)) h5 bel lt5) (trodAll_cons_mk (Below.trod laidOutA (by kernel_rfl) (of_decide_eq_true (by kernel_rfl)) h6 bel lt6) (trodAll_cons_mk (Below.trod laidOutA (by kernel_rfl) (of_decide_eq_true (by kernel_rfl)) h7 bel lt7) trodAll_mk0)))))))), rfl, bel.frame _, fun h => by cases h⟩

theorem over : Rows.channelOpensRow.holds Try.pinned (OpenSpec.ofChange Rows.channelOpensSpec) :=
  OpenClaim.holds_of_wide 3 Try.f3 rfl rfl rfl rfl rfl rfl rfl ⟨rfl, rfl, rfl, rfl, rfl⟩ rfl rfl rfl rfl rfl (by kernel_rfl) Try.func3 (by kernel_rfl)
    (of_decide_eq_true (by kernel_rfl)) (by unfold Func.isWrapper; first | (rw [if_pos (by decide +kernel)]; kernel_rfl) | (rw [if_neg (by decide +kernel)]; exact ⟨rfl, rfl⟩))
    (fun os started H enc _ => lifted os started H enc)
end ChannelOpensProof

theorem channelOpens_proved : Rows.ChannelOpensSaid := ChannelOpensProof.over
#print axioms channelOpens_proved
end Go.Proofs.Ytkphcbogdmblnaa

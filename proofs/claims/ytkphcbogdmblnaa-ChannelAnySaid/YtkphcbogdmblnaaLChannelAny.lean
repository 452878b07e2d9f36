/-
  The statement ChannelAny: the law returns true for every input; no conditions.
-/
import Derived.Test.YtkphcbogdmblnaaCChanK
import Derived.Test.YtkphcbogdmblnaaLOwn
set_option linter.all false
namespace Go.Sx
open Go.Proofs Go.RowKit
noncomputable def g5 : Par := par 155 (nthLL [[1, 2, 3, 4, 5, 6, 8, 15], [1, 2, 3, 4, 5, 6, 8, 15, 36], [16], [1, 2, 3, 4, 5, 6, 8, 15, 44], [16], [1, 2, 3, 4, 5, 6, 8, 15, 17, 18], [1, 2, 3, 4, 5, 6, 8, 15, 17, 18, 19, 20], [1, 2, 3, 4, 5, 6, 8, 15, 17, 18, 19, 20, 21, 22], [1, 2, 3, 4, 5, 6, 8, 15, 17, 18, 19, 20, 21, 22, 23, 24], [2, 3, 8, 15, 17, 18, 19, 20, 21, 22, 23, 24, 25, 26], [2, 3, 8, 15, 17, 18, 110], [16], [2, 3, 8, 15, 17, 18, 27], [2, 3, 8, 15, 17, 18, 27, 112], [2, 3, 8, 15, 17, 18, 27], [2, 3, 8, 15, 17, 18, 27, 28], [2, 3, 8, 15, 17, 18, 27, 28, 29, 30, 31], [2, 3, 8, 15, 17, 18, 27, 29, 30, 31, 32, 33, 34], [2, 3, 8, 15, 17, 18, 27, 154], [16], [16]]) [16] (nthLL [])
set_option maxRecDepth 10000
set_option maxHeartbeats 16000000
theorem c_ChannelAny (s mi pe sk lt lk : Int) (hs : 0 ≤ s ∧ s ≤ 18446744073709551615) (d e : List UInt8) (now tk : Int) (sf li : Bool) (wb ws wl : Bool) (wd : List UInt8) (n t a y : UInt8) (how : Int) (hh : 0 ≤ how ∧ how ≤ 65535) : Fn Try.prog 5 [.a [.i .u64 s, .i .i64 mi, .i .i64 pe, .i .i64 sk, .i .i64 lt, .i .i64 lk], .o (.sl (d.map u8) d.length), .o (.sl (e.map u8) e.length), .o (.i .i64 now), .o (.i .i64 tk), .o (.b sf), .o (.b li), .a [.b wb, .b ws, .b wl, .sl (wd.map u8) wd.length, .i .u8 (n.toNat : Int), .i .u8 (t.toNat : Int), .i .u8 (a.toNat : Int), .i .u8 (y.toNat : Int), .i .u16 how]] [] (.one (.c (.o (.b true)))) [] := by
  have hn := byte_lt n
  have ht := byte_lt t
  have ha := byte_lt a
  have hy := byte_lt y
  have rk := sess_range' (n := 1) (by omega)
  have cE := c_ends21 9 (by omega)
  rw [show (9 : Int) / 8 = 1 from rfl] at cE
  generalize sessN 1 = k at *
  refine Fn_intro (G := g5) (goodA rfl) (fn := Try.f5) rfl rfl rfl rfl rfl ?_
  by_cases hl : d.length > 600 ∨ e.length > 400
  · (repeat' ((conv => whnf) <;> first | exact rfl | with_reducible refine boolK_dec (fun _ => ?_) (fun _ => ?_) <;> try (exfalso; omega) | refine boolK_beq (fun _ => ?_) (fun _ => ?_) <;> try (exfalso; first | omega | contradiction) | refine boolK_bne (fun _ => ?_) (fun _ => ?_) <;> try (exfalso; first | omega | contradiction) | (with_reducible first | refine boolK_not ?_ | refine boolK_and ?_ | refine boolK_or ?_ | refine boolK_true ?_ | refine boolK_false ?_) | refine boolK_intro (fun _ => ?_) (fun _ => ?_) <;> try (exfalso; simp_all; done) | refine jA ?_ | refine jB ?_ | refine jC ?_ | refine jD ?_ | refine jE ?_ | refine jF ?_ | refine jG ?_ | refine jH ?_ | refine jI ?_ | refine jJ ?_ | refine jK ?_ | with_reducible refine natK_lit ?_ | refine natK_of rfl ?_ | refine natK_any ?_ | refine jP ?_ | refine jQ ?_ | refine jR ?_ | refine jS ?_ | refine jT ?_ | refine jU (fun _ => ?_) | refine jV ?_ | refine jW ?_ | refine jX ?_ | refine jY ?_ | refine jZ ?_ | refine ja ?_ | refine jb ?_ | refine jc ?_ | refine jd ?_ | refine je ?_ | refine jf ?_ | refine jg ?_ | refine jh ?_ | refine ji ?_ | refine jj ?_ | refine jk ?_ | refine jn ?_ | refine jo ?_ | refine jp ?_ | refine jq ?_ | refine jr ?_ | refine js ?_ | refine callK_intro (c_awake21) ?_ | refine jt ?_ | refine jx ?_ | refine jy ?_ | refine ju ?_ | refine jv ?_)) <;> (try (conv => whnf))
  · obtain ⟨r, hr, -, cW⟩ := c_sendP ⟨k, 1, 2, 1, -1, -1⟩ ⟨k, 2, 1, 1, -1, -1⟩ rk rk wb ws wl wd rfl (n.toNat : Int) (t.toNat : Int) (a.toNat : Int) (y.toNat : Int) how ⟨by omega, by omega, by omega, hh⟩
    dsimp only at cW
    have s1 := c_chSend s mi pe sk lt lk hs sf d rfl now tk li
    have s2 := c_rchSend s mi pe sk lt lk hs sf d rfl now tk li
    generalize chS ⟨s, mi, pe, sk, lt, lk⟩ sf d now tk li = S1 at *
    have s3 := c_chSend k 1 2 1 (-1) (-1) rk sf d rfl now tk li
    have s4 := c_rchSend k 1 2 1 (-1) (-1) rk sf d rfl now tk li
    generalize chS ⟨k, 1, 2, 1, -1, -1⟩ sf d now tk li = S2 at *
    have r1 := c_chRead s mi pe sk lt lk hs e rfl (by omega) now
    have r2 := c_rchRead s mi pe sk lt lk hs e rfl (by omega) now
    generalize chR ⟨s, mi, pe, sk, lt, lk⟩ e now = R1 at *
    have r3 := c_chRead s mi pe sk lt lk hs r rfl (by omega) now
    have r4 := c_rchRead s mi pe sk lt lk hs r rfl (by omega) now
    generalize chR ⟨s, mi, pe, sk, lt, lk⟩ r now = R2 at *
    (repeat' ((conv => whnf) <;> first | with_reducible refine boolK_refl ?_ | refine natK_of (j := 0) (by omega) ?_ | refine natK_of (j := 1) (by omega) ?_ | exact rfl | with_reducible refine boolK_dec (fun _ => ?_) (fun _ => ?_) <;> try (exfalso; omega) | refine boolK_beq (fun _ => ?_) (fun _ => ?_) <;> try (exfalso; first | omega | contradiction) | refine boolK_bne (fun _ => ?_) (fun _ => ?_) <;> try (exfalso; first | omega | contradiction) | (with_reducible first | refine boolK_not ?_ | refine boolK_and ?_ | refine boolK_or ?_ | refine boolK_true ?_ | refine boolK_false ?_) | refine boolK_intro (fun _ => ?_) (fun _ => ?_) <;> try (exfalso; simp_all; done) | refine jA ?_ | refine jB ?_ | refine jC ?_ | refine jD ?_ | refine jE ?_ | refine jF ?_ | refine jG ?_ | refine jH ?_ | refine jI ?_ | refine jJ ?_ | refine jK ?_ | with_reducible refine natK_lit ?_ | refine natK_of rfl ?_ | refine natK_any ?_ | refine jP ?_ | refine jQ ?_ | refine jR ?_ | refine jS ?_ | refine jT ?_ | refine jU (fun _ => ?_) | refine jV ?_ | refine jW ?_ | refine jX ?_ | refine jY ?_ | refine jZ ?_ | refine ja ?_ | refine jb ?_ | refine jc ?_ | refine jd ?_ | refine je ?_ | refine jf ?_ | refine jg ?_ | refine jh ?_ | refine ji ?_ | refine jj ?_ | refine jk ?_ | refine jn ?_ | refine jo ?_ | refine jp ?_ | refine jq ?_ | refine jr ?_ | refine js ?_ | refine callK_intro (c_awake21) ?_ | refine callK_intro (cE) ?_ | refine callK_intro (cW) ?_ | refine callK_intro (s1) ?_ | refine callK_intro (s2) ?_ | refine callK_intro (s3) ?_ | refine callK_intro (s4) ?_ | refine callK_intro (r1) ?_ | refine callK_intro (r2) ?_ | refine callK_intro (r3) ?_ | refine callK_intro (r4) ?_ | refine loopK_step (G := g5) ?_ | refine jt ?_ | refine jx ?_ | refine jy ?_ | refine ju ?_ | refine jv ?_)) <;> (try (conv => whnf))
end Go.Sx
namespace Go.Proofs.Ytkphcbogdmblnaa
open Go.ChangeShapes Go.WideShapes Go.ChangeAt Go.RowKit Go.Sx
namespace ChannelAnyProof
set_option maxRecDepth 100000 in
theorem walk (W : World) (v0 v1 v2 v3 v4 v5 v6 v7 : Value) (ls0 ls1 ls2 ls3 ls4 ls5 ls6 ls7 : List L)
    (t0 : Typ (tabF tab) 25 ls0) (t1 : Typ (tabF tab) 36 ls1) (t2 : Typ (tabF tab) 36 ls2) (t3 : Typ (tabF tab) 3 ls3) (t4 : Typ (tabF tab) 3 ls4) (t5 : Typ (tabF tab) 4 ls5) (t6 : Typ (tabF tab) 4 ls6) (t7 : Typ (tabF tab) 41 ls7)
    (r0 : RelC (fun _ => False) W noMu (argC (tabF tab 25).agg ls0) v0) (r1 : RelC (fun _ => False) W noMu (argC (tabF tab 36).agg ls1) v1) (r2 : RelC (fun _ => False) W noMu (argC (tabF tab 36).agg ls2) v2) (r3 : RelC (fun _ => False) W noMu (argC (tabF tab 3).agg ls3) v3) (r4 : RelC (fun _ => False) W noMu (argC (tabF tab 3).agg ls4) v4) (r5 : RelC (fun _ => False) W noMu (argC (tabF tab 4).agg ls5) v5) (r6 : RelC (fun _ => False) W noMu (argC (tabF tab 4).agg ls6) v6) (r7 : RelC (fun _ => False) W noMu (argC (tabF tab 41).agg ls7) v7) :
    Calls Try.prog 5 #[v0, v1, v2, v3, v4, v5, v6, v7] W fun e w' => e = .returned (.bool true) ∧ Below W.heap.size W w' := by
  obtain ⟨partsa0, rfl, hla0, hpa0⟩ := typ_struct t0 rfl
  obtain ⟨qa0_0, qa0_1, qa0_2, qa0_3, qa0_4, qa0_5, rfl⟩ : ∃ qa0_0 qa0_1 qa0_2 qa0_3 qa0_4 qa0_5, partsa0 = [qa0_0, qa0_1, qa0_2, qa0_3, qa0_4, qa0_5] := by
    match partsa0, hla0 with
    | [qa0_0, qa0_1, qa0_2, qa0_3, qa0_4, qa0_5], _ => exact ⟨qa0_0, qa0_1, qa0_2, qa0_3, qa0_4, qa0_5, rfl⟩
  have ta0_0 := hpa0 0 _ qa0_0 rfl rfl
  obtain ⟨a0_0, rfl, wa0_0⟩ := typ_int ta0_0 rfl
  have ta0_1 := hpa0 1 _ qa0_1 rfl rfl
  obtain ⟨a0_1, rfl, wa0_1⟩ := typ_int ta0_1 rfl
  have ta0_2 := hpa0 2 _ qa0_2 rfl rfl
  obtain ⟨a0_2, rfl, wa0_2⟩ := typ_int ta0_2 rfl
  have ta0_3 := hpa0 3 _ qa0_3 rfl rfl
  obtain ⟨a0_3, rfl, wa0_3⟩ := typ_int ta0_3 rfl
  have ta0_4 := hpa0 4 _ qa0_4 rfl rfl
  obtain ⟨a0_4, rfl, wa0_4⟩ := typ_int ta0_4 rfl
  have ta0_5 := hpa0 5 _ qa0_5 rfl rfl
  obtain ⟨a0_5, rfl, wa0_5⟩ := typ_int ta0_5 rfl
  obtain ⟨a1, rfl⟩ := typ_bytes t1 rfl rfl
  obtain ⟨a2, rfl⟩ := typ_bytes t2 rfl rfl
  obtain ⟨a3, rfl, wa3⟩ := typ_int t3 rfl
  obtain ⟨a4, rfl, wa4⟩ := typ_int t4 rfl
  obtain ⟨a5, rfl⟩ := typ_bool t5 rfl
  obtain ⟨a6, rfl⟩ := typ_bool t6 rfl
  obtain ⟨partsa7, rfl, hla7, hpa7⟩ := typ_struct t7 rfl
  obtain ⟨qa7_0, qa7_1, qa7_2, qa7_3, qa7_4, qa7_5, qa7_6, qa7_7, qa7_8, rfl⟩ : ∃ qa7_0 qa7_1 qa7_2 qa7_3 qa7_4 qa7_5 qa7_6 qa7_7 qa7_8, partsa7 = [qa7_0, qa7_1, qa7_2, qa7_3, qa7_4, qa7_5, qa7_6, qa7_7, qa7_8] := by
    match partsa7, hla7 with
    | [qa7_0, qa7_1, qa7_2, qa7_3, qa7_4, qa7_5, qa7_6, qa7_7, qa7_8], _ => exact ⟨qa7_0, qa7_1, qa7_2, qa7_3, qa7_4, qa7_5, qa7_6, qa7_7, qa7_8, rfl⟩
  have ta7_0 := hpa7 0 _ qa7_0 rfl rfl
  obtain ⟨a7_0, rfl⟩ := typ_bool ta7_0 rfl
  have ta7_1 := hpa7 1 _ qa7_1 rfl rfl
  obtain ⟨a7_1, rfl⟩ := typ_bool ta7_1 rfl
  have ta7_2 := hpa7 2 _ qa7_2 rfl rfl
  obtain ⟨a7_2, rfl⟩ := typ_bool ta7_2 rfl
  have ta7_3 := hpa7 3 _ qa7_3 rfl rfl
  obtain ⟨a7_3, rfl⟩ := typ_bytes ta7_3 rfl rfl
  have ta7_4 := hpa7 4 _ qa7_4 rfl rfl
  obtain ⟨a7_4, rfl⟩ := typ_u8 ta7_4 rfl
  have ta7_5 := hpa7 5 _ qa7_5 rfl rfl
  obtain ⟨a7_5, rfl⟩ := typ_u8 ta7_5 rfl
  have ta7_6 := hpa7 6 _ qa7_6 rfl rfl
  obtain ⟨a7_6, rfl⟩ := typ_u8 ta7_6 rfl
  have ta7_7 := hpa7 7 _ qa7_7 rfl rfl
  obtain ⟨a7_7, rfl⟩ := typ_u8 ta7_7 rfl
  have ta7_8 := hpa7 8 _ qa7_8 rfl rfl
  obtain ⟨a7_8, rfl, wa7_8⟩ := typ_int ta7_8 rfl
  exact calls_of_fn Try.func5 rfl rfl (c_ChannelAny a0_0 a0_1 a0_2 a0_3 a0_4 a0_5 (wf_u64 wa0_0) a1 a2 a3 a4 a5 a6 a7_0 a7_1 a7_2 a7_3 a7_4 a7_5 a7_6 a7_7 a7_8 (wf_u16 wa7_8)) (relCs_cons r0 (relCs_cons r1 (relCs_cons r2 (relCs_cons r3 (relCs_cons r4 (relCs_cons r5 (relCs_cons r6 (relCs_cons r7 relCs_nil))))))))

set_option maxRecDepth 100000 in
theorem lifted (os : Os) (started : os.Started) (H : Type) (enc : TypeId × Value → H) :
    ReturnsInHanded {} Try.checked os 5 .any (Rows.channelAnySpec.pre6 enc Try.prog Try.f5 Rows.channelAnyRow.domain false) (Rows.channelAnySpec.post enc Try.prog Try.f5 false true false false) := by
  refine returnsInHanded_of_change (C := Try.checked) ownA started (by kernel_rfl) Try.func5
    (ChangeSpec.witness6 (enc := enc) (C := Try.checked) false ⟨#[], #[.agg #[.int .u64 0, .int .i64 0, .int .i64 0, .int .i64 0, .int .i64 0, .int .i64 0], .slice none 0 0, .slice none 0 0, .int .i64 0, .int .i64 0, .bool false, .bool false, .agg #[.bool false, .bool false, .bool false, .slice none 0 0, .int .u8 0, .int .u8 0, .int .u8 0, .int .u8 0, .int .u16 0]], []⟩ 8 (by kernel_rfl) (by kernel_rfl) (by kernel_rfl) (by kernel_rfl)) ?_
  intro W base args ds gs before hval0 hW hcnd _
  have hval : ∀ (j : Nat) t v, Try.f5.params[j]? = some t → args[j]? = some v → Value.okWide Try.prog W .any base t v := hval0
  have hW' := hW
  obtain ⟨p, q, hA0, hV, rfl, hfz, hnd⟩ := hW
  have hA : DataW.TrodAll enc Try.prog W 0 (fun _ => true) true Try.f5.params.toList args.toList ds p := hA0
  rw [Try.params5] at hA hval
  obtain ⟨v0, vs0, d0, ds0, p0, q0, hargs, rfl, rfl, h0, r0⟩ := trodAll_cons hA
  obtain ⟨v1, vs1, d1, ds1, p1, q1, rfl, rfl, rfl, h1, r1⟩ := trodAll_cons r0
  obtain ⟨v2, vs2, d2, ds2, p2, q2, rfl, rfl, rfl, h2, r2⟩ := trodAll_cons r1
  obtain ⟨v3, vs3, d3, ds3, p3, q3, rfl, rfl, rfl, h3, r3⟩ := trodAll_cons r2
  obtain ⟨v4, vs4, d4, ds4, p4, q4, rfl, rfl, rfl, h4, r4⟩ := trodAll_cons r3
  obtain ⟨v5, vs5, d5, ds5, p5, q5, rfl, rfl, rfl, h5, r5⟩ := trodAll_cons r4
  obtain ⟨v6, vs6, d6, ds6, p6, q6, rfl, rfl, rfl, h6, r6⟩ := trodAll_cons r5
  obtain ⟨v7, vs7, d7, ds7, p7, q7, rfl, rfl, rfl, h7, r7⟩ := trodAll_cons r6
  obtain ⟨rfl, rfl, rfl⟩ := trodAll_nil r7
  obtain rfl : args = #[v0, v1, v2, v3, v4, v5, v6, v7] := by cases args; simp_all
  obtain ⟨rfl, rfl⟩ := trodVars_none hV
  obtain ⟨ls0, t0, c0⟩ := rel_arg tokA (n := 9) rfl h0 (hval 0 25 v0 rfl rfl)
  obtain ⟨ls1, t1, c1⟩ := rel_arg tokA (n := 9) rfl h1 (hval 1 36 v1 rfl rfl)
  obtain ⟨ls2, t2, c2⟩ := rel_arg tokA (n := 9) rfl h2 (hval 2 36 v2 rfl rfl)
  obtain ⟨ls3, t3, c3⟩ := rel_arg tokA (n := 9) rfl h3 (hval 3 3 v3 rfl rfl)
  obtain ⟨ls4, t4, c4⟩ := rel_arg tokA (n := 9) rfl h4 (hval 4 3 v4 rfl rfl)
  obtain ⟨ls5, t5, c5⟩ := rel_arg tokA (n := 9) rfl h5 (hval 5 4 v5 rfl rfl)
  obtain ⟨ls6, t6, c6⟩ := rel_arg tokA (n := 9) rfl h6 (hval 6 4 v6 rfl rfl)
  obtain ⟨ls7, t7, c7⟩ := rel_arg tokA (n := 9) rfl h7 (hval 7 41 v7 rfl rfl)
  have lt0 : ∀ x ∈ p0, x.block < W.heap.size := by obtain ⟨m, hm⟩ := h0; exact DataW.trod_lt m _ _ _ hm
  have lt1 : ∀ x ∈ p1, x.block < W.heap.size := by obtain ⟨m, hm⟩ := h1; exact DataW.trod_lt m _ _ _ hm
  have lt2 : ∀ x ∈ p2, x.block < W.heap.size := by obtain ⟨m, hm⟩ := h2; exact DataW.trod_lt m _ _ _ hm
  have lt3 : ∀ x ∈ p3, x.block < W.heap.size := by obtain ⟨m, hm⟩ := h3; exact DataW.trod_lt m _ _ _ hm
  have lt4 : ∀ x ∈ p4, x.block < W.heap.size := by obtain ⟨m, hm⟩ := h4; exact DataW.trod_lt m _ _ _ hm
  have lt5 : ∀ x ∈ p5, x.block < W.heap.size := by obtain ⟨m, hm⟩ := h5; exact DataW.trod_lt m _ _ _ hm
  have lt6 : ∀ x ∈ p6, x.block < W.heap.size := by obtain ⟨m, hm⟩ := h6; exact DataW.trod_lt m _ _ _ hm
  have lt7 : ∀ x ∈ p7, x.block < W.heap.size := by obtain ⟨m, hm⟩ := h7; exact DataW.trod_lt m _ _ _ hm
  clear hA0 hval0
  refine (walk W v0 v1 v2 v3 v4 v5 v6 v7 ls0 ls1 ls2 ls3 ls4 ls5 ls6 ls7 t0 t1 t2 t3 t4 t5 t6 t7 c0 c1 c2 c3 c4 c5 c6 c7).mono fun e W' ⟨he, bel⟩ => ?_
  subst he
  exact ⟨_, rfl, _, _, _, [], _, [], hW', trodAll_mk1 (shut_bool Try.underlying4 _), (trodAll_cons_mk (Below.trod laidOutA (by kernel_rfl) (of_decide_eq_true (by kernel_rfl)) h0 bel lt0) (trodAll_cons_mk (Below.trod laidOutA (by kernel_rfl) (of_decide_eq_true (by kernel_rfl)) h1 bel lt1) (trodAll_cons_mk (Below.trod laidOutA (by kernel_rfl) (of_decide_eq_true (by kernel_rfl)) h2 bel lt2) (trodAll_cons_mk (Below.trod laidOutA (by kernel_rfl) (of_decide_eq_true (by kernel_rfl)) h3 bel lt3) (trodAll_cons_mk (Below.trod laidOutA (by kernel_rfl) (of_decide_eq_true (by kernel_rfl)) h4 bel lt4) (trodAll_cons_mk (Below.trod laidOutA (by kernel_rfl) (of_decide_eq_true (by kernel_rfl)) h5 bel lt5) (trodAll_cons_mk (Below.trod laidOutA (by kernel_rfl) (of_decide_eq_true (by kernel_rfl)) h6 bel lt6) (trodAll_cons_mk (Below.trod laidOutA (by kernel_rfl) (of_decide_eq_true (by kernel_rfl)) h7 bel lt7) trodAll_mk0)))))))), rfl, bel.frame _, fun h => by cases h⟩

theorem over : Rows.channelAnyRow.holds Try.pinned (OpenSpec.ofChange Rows.channelAnySpec) :=
  OpenClaim.holds_of_wide 5 Try.f5 rfl rfl rfl rfl rfl rfl rfl ⟨rfl, rfl, rfl, rfl, rfl⟩ rfl rfl rfl rfl rfl (by kernel_rfl) Try.func5 (by kernel_rfl)
    (of_decide_eq_true (by kernel_rfl)) (by unfold Func.isWrapper; first | (rw [if_pos (by decide +kernel)]; kernel_rfl) | (rw [if_neg (by decide +kernel)]; exact ⟨rfl, rfl⟩))
    (fun os started H enc _ => lifted os started H enc)
end ChannelAnyProof

theorem channelAny_proved : Rows.ChannelAnySaid := ChannelAnyProof.over
#print axioms channelAny_proved
end Go.Proofs.Ytkphcbogdmblnaa

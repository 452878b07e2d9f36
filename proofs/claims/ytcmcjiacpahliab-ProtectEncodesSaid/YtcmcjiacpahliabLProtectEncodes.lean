/-
  The statement ProtectEncodes: the law returns true for every input; no conditions.
-/
import Derived.Test.YtcmcjiacpahliabCProtL
import Derived.Test.YtcmcjiacpahliabLOwn
set_option linter.all false
namespace Go.Sx
open Go.Proofs Go.RowKit
noncomputable def g11 : Par := par 153 (nthLL [[1, 2, 3, 4, 5, 6, 7], [1, 2, 3, 4, 5, 6, 7, 32], [14], [1, 2, 3, 4, 5, 6, 7, 51], [14], [1, 2, 3, 4, 5, 6, 7, 15], [1, 2, 3, 4, 5, 6, 7, 15, 53], [1, 2, 3, 4, 5, 6, 7, 15], [1, 2, 3, 4, 5, 6, 7, 15, 16], [1, 2, 3, 4, 5, 6, 7, 15, 16, 17, 18], [1, 2, 3, 4, 5, 6, 7, 15, 16, 17, 18, 19, 20], [1, 2, 3, 4, 5, 6, 7, 15, 16, 17, 18, 19, 92], [14], [1, 2, 3, 4, 5, 6, 7, 15, 16, 17, 19, 94], [1, 2, 3, 4, 5, 6, 7, 15, 16, 17, 19, 21, 22], [1, 2, 3, 4, 5, 6, 7, 15, 16, 19, 21, 22, 24], [1, 2, 3, 4, 5, 6, 7, 15, 19, 119], [14], [1, 2, 3, 4, 5, 6, 7, 15, 19, 25], [1, 2, 3, 4, 5, 6, 7, 15, 19, 25, 121], [1, 2, 3, 4, 5, 6, 7, 15, 19, 25], [1, 2, 3, 4, 5, 6, 7, 15, 19, 25, 26], [1, 2, 3, 4, 5, 6, 7, 15, 19, 25, 26, 27, 28], [1, 2, 3, 4, 5, 6, 7, 15, 19, 25, 27, 28, 29, 30], [1, 2, 3, 4, 5, 6, 7, 15, 19, 25, 152], [14], [14]]) [14] (nthLL [[], [], [], [], [], [], [], [], [0, 0, 0, 6, 0, 16, 48, 112, 240, 0, 1022, 2047, 0, 8191, 16383, 0, 65535]])
set_option maxRecDepth 10000
set_option maxHeartbeats 16000000
theorem c_ProtectEncodes (d : List UInt8) (tk ad tm : Int) (dt q : List UInt8) (l : Bool) (b : List UInt8) (h g : Int) (hh : 0 ≤ h ∧ h ≤ 65535) (hg : 0 ≤ g ∧ g ≤ 65535) : Fn Try.prog 11 [.a [.sl (d.map u8) d.length, .i .i64 tk, .i .i64 ad, .i .i64 tm], .o (.sl (dt.map u8) dt.length), .o (.sl (q.map u8) q.length), .o (.b l), .o (.sl (b.map u8) b.length), .o (.i .u16 h), .o (.i .u16 g)] [] (.one (.c (.o (.b true)))) [] := by
  refine Fn_intro (G := g11) (goodA rfl) (fn := Try.f11) rfl rfl rfl rfl rfl ?_
  by_cases hl : d.length > 600 ∨ dt.length > 500 ∨ q.length > 40 ∨ b.length > 300
  · (repeat' ((conv => whnf) <;> first | exact rfl | with_reducible refine boolK_dec (fun _ => ?_) (fun _ => ?_) <;> try (exfalso; omega) | refine boolK_beq (fun _ => ?_) (fun _ => ?_) <;> try (exfalso; first | omega | contradiction) | refine boolK_bne (fun _ => ?_) (fun _ => ?_) <;> try (exfalso; first | omega | contradiction) | (with_reducible first | refine boolK_not ?_ | refine boolK_and ?_ | refine boolK_or ?_ | refine boolK_true ?_ | refine boolK_false ?_) | refine boolK_intro (fun _ => ?_) (fun _ => ?_) <;> try (exfalso; simp_all; done) | refine jA ?_ | refine jB ?_ | refine jC ?_ | refine jD ?_ | refine jE ?_ | refine jF ?_ | refine jG ?_ | refine jH ?_ | refine jI ?_ | refine jJ ?_ | refine jK ?_ | with_reducible refine natK_lit ?_ | refine natK_of rfl ?_ | refine natK_any ?_ | refine jO ?_ | refine jP ?_ | refine jQ ?_ | refine jR ?_ | refine jS ?_ | refine jT ?_ | refine jU (fun _ => ?_) | refine jV ?_ | refine jW ?_ | refine jX ?_ | refine jY ?_ | refine jZ ?_ | refine ja ?_ | refine jb ?_ | refine jc ?_ | refine jd ?_ | refine je ?_ | refine jf ?_ | refine jg ?_ | refine jh ?_ | refine ji ?_ | refine jj ?_ | refine jk ?_ | refine jn ?_ | refine jo ?_ | refine jp ?_ | refine jq ?_ | refine jr ?_ | refine js ?_ | refine callK_intro (c_awake11) ?_ | refine jt ?_ | refine jx ?_ | refine jy ?_ | refine ju ?_ | refine jv ?_)) <;> (try (conv => whnf))
  · have hZ : rep [cz (L.i .u8 0)] (499 + g % 3).toNat = (List.replicate (499 + g % 3).toNat (0 : UInt8)).map u8 := rep_u8 0 _
    have hZl : (List.replicate (499 + g % 3).toNat (0 : UInt8)).length = (499 + g % 3).toNat := List.length_replicate
    generalize List.replicate (499 + g % 3).toNat (0 : UInt8) = Z at *
    obtain ⟨tk1, ad1, tm1, _, c1⟩ := c_content11 dt q rfl (by omega)
    have c1 := c1 _ rfl
    obtain ⟨tk2, ad2, tm2, _, c2⟩ := c_content11 Z q hZl.symm (by omega)
    have c2 := c2 _ hZ
    obtain ⟨V1, n1, e1, f1, d1, o1⟩ := pr_pack l d tk ad tm (by omega)
    obtain ⟨V2, n2, e2, f2, d2, o2⟩ := pr_pack l dt tk1 ad1 tm1 (by omega)
    obtain ⟨V3, n3, e3, f3, d3, o3⟩ := pr_pack l Z tk2 ad2 tm2 (by omega)
    obtain ⟨r1, b1, s1⟩ := c_Spoil V1.1 rfl (by omega) h hh
    obtain ⟨r2, b2, s2⟩ := c_Spoil V2.1 rfl (by omega) h hh
    obtain ⟨r3, b3, s3⟩ := c_Spoil V3.1 rfl (by omega) h hh
    obtain ⟨D, cO, cR⟩ : ∃ D : List UInt8 → PrT × Int, (∀ (b : List UInt8) {m : Nat} (hm : m = b.length) (hb : b.length ≤ 90000), Fn Try.prog 58 [.o (.sl (b.map u8) m), .o (.b l)] [] (.tup [.c (.a [.sl ((D b).1.1.map u8) (D b).1.1.length, .i .i64 (D b).1.2.1, .i .i64 (D b).1.2.2.1, .i .i64 (D b).1.2.2.2]), .c (.o (.i .i64 (D b).2))]) []) ∧ (∀ (b : List UInt8) {m : Nat} (hm : m = b.length) (hb : b.length ≤ 90000), Fn Try.prog 60 [.o (.sl (b.map u8) m), .o (.b l)] [] (.tup [.c (.a [.sl ((D b).1.1.map u8) (D b).1.1.length, .i .i64 (D b).1.2.1, .i .i64 (D b).1.2.2.1, .i .i64 (D b).1.2.2.2]), .c (.o (.i .i64 (D b).2))]) []) := ⟨prD l, fun b m hm hb => c_DecodeP b hm hb l, fun b m hm hb => c_rDecodeP b hm hb l⟩
    have x1 := cO b rfl (by omega)
    have y1 := cR b rfl (by omega)
    have x2 := cO r1 rfl (by omega)
    have y2 := cR r1 rfl (by omega)
    have x3 := cO r2 rfl (by omega)
    have y3 := cR r2 rfl (by omega)
    have x4 := cO r3 rfl (by omega)
    have y4 := cR r3 rfl (by omega)
    generalize D b = D1 at *
    generalize D r1 = D2 at *
    generalize D r2 = D3 at *
    generalize D r3 = D4 at *
    clear cO cR
    (repeat' ((conv => whnf) <;> first | with_reducible refine boolK_refl ?_ | refine natK_of (j := 0) (by omega) ?_ | refine natK_of (j := 1) (by omega) ?_ | refine natK_of (j := 2) (by omega) ?_ | exact rfl | with_reducible refine boolK_dec (fun _ => ?_) (fun _ => ?_) <;> try (exfalso; omega) | refine boolK_beq (fun _ => ?_) (fun _ => ?_) <;> try (exfalso; first | omega | contradiction) | refine boolK_bne (fun _ => ?_) (fun _ => ?_) <;> try (exfalso; first | omega | contradiction) | (with_reducible first | refine boolK_not ?_ | refine boolK_and ?_ | refine boolK_or ?_ | refine boolK_true ?_ | refine boolK_false ?_) | refine boolK_intro (fun _ => ?_) (fun _ => ?_) <;> try (exfalso; simp_all; done) | refine jA ?_ | refine jB ?_ | refine jC ?_ | refine jD ?_ | refine jE ?_ | refine jF ?_ | refine jG ?_ | refine jH ?_ | refine jI ?_ | refine jJ ?_ | refine jK ?_ | with_reducible refine natK_lit ?_ | refine natK_of rfl ?_ | refine natK_any ?_ | refine jO ?_ | refine jP ?_ | refine jQ ?_ | refine jR ?_ | refine jS ?_ | refine jT ?_ | refine jU (fun _ => ?_) | refine jV ?_ | refine jW ?_ | refine jX ?_ | refine jY ?_ | refine jZ ?_ | refine ja ?_ | refine jb ?_ | refine jc ?_ | refine jd ?_ | refine je ?_ | refine jf ?_ | refine jg ?_ | refine jh ?_ | refine ji ?_ | refine jj ?_ | refine jk ?_ | refine jn ?_ | refine jo ?_ | refine jp ?_ | refine jq ?_ | refine jr ?_ | refine js ?_ | refine callK_intro (c_awake11) ?_ | refine callK_intro (c1) ?_ | refine callK_intro (c2) ?_ | refine callK_intro (e1) ?_ | refine callK_intro (f1) ?_ | refine callK_intro (d1 (by assumption)) ?_ | refine callK_intro (o1 (by assumption)) ?_ | refine callK_intro (e2) ?_ | refine callK_intro (f2) ?_ | refine callK_intro (d2 (by assumption)) ?_ | refine callK_intro (o2 (by assumption)) ?_ | refine callK_intro (e3) ?_ | refine callK_intro (f3) ?_ | refine callK_intro (d3 (by assumption)) ?_ | refine callK_intro (o3 (by assumption)) ?_ | refine callK_intro (s1) ?_ | refine callK_intro (s2) ?_ | refine callK_intro (s3) ?_ | refine callK_intro (x1) ?_ | refine callK_intro (y1) ?_ | refine callK_intro (x2) ?_ | refine callK_intro (y2) ?_ | refine callK_intro (x3) ?_ | refine callK_intro (y3) ?_ | refine callK_intro (x4) ?_ | refine callK_intro (y4) ?_ | refine callK_intro (c_SameP _ _ _ _) ?_ | refine loopK_step (G := g11) ?_ | refine jt ?_ | refine jx ?_ | refine jy ?_ | refine ju ?_ | refine jv ?_)) <;> (try (conv => whnf))
end Go.Sx
namespace Go.Proofs.Ytcmcjiacpahliab
open Go.ChangeShapes Go.WideShapes Go.ChangeAt Go.RowKit Go.Sx
namespace ProtectEncodesProof
set_option maxRecDepth 100000 in
theorem walk (W : World) (v0 v1 v2 v3 v4 v5 v6 : Value) (ls0 ls1 ls2 ls3 ls4 ls5 ls6 : List L)
    (t0 : Typ (tabF tab) 85 ls0) (t1 : Typ (tabF tab) 23 ls1) (t2 : Typ (tabF tab) 23 ls2) (t3 : Typ (tabF tab) 4 ls3) (t4 : Typ (tabF tab) 23 ls4) (t5 : Typ (tabF tab) 42 ls5) (t6 : Typ (tabF tab) 42 ls6)
    (r0 : RelC (fun _ => False) W noMu (argC (tabF tab 85).agg ls0) v0) (r1 : RelC (fun _ => False) W noMu (argC (tabF tab 23).agg ls1) v1) (r2 : RelC (fun _ => False) W noMu (argC (tabF tab 23).agg ls2) v2) (r3 : RelC (fun _ => False) W noMu (argC (tabF tab 4).agg ls3) v3) (r4 : RelC (fun _ => False) W noMu (argC (tabF tab 23).agg ls4) v4) (r5 : RelC (fun _ => False) W noMu (argC (tabF tab 42).agg ls5) v5) (r6 : RelC (fun _ => False) W noMu (argC (tabF tab 42).agg ls6) v6) :
    Calls Try.prog 11 #[v0, v1, v2, v3, v4, v5, v6] W fun e w' => e = .returned (.bool true) ∧ Below W.heap.size W w' := by
  obtain ⟨partsa0, rfl, hla0, hpa0⟩ := typ_struct t0 rfl
  obtain ⟨qa0_0, qa0_1, qa0_2, qa0_3, rfl⟩ : ∃ qa0_0 qa0_1 qa0_2 qa0_3, partsa0 = [qa0_0, qa0_1, qa0_2, qa0_3] := by
    match partsa0, hla0 with
    | [qa0_0, qa0_1, qa0_2, qa0_3], _ => exact ⟨qa0_0, qa0_1, qa0_2, qa0_3, rfl⟩
  have ta0_0 := hpa0 0 _ qa0_0 rfl rfl
  obtain ⟨a0_0, rfl⟩ := typ_bytes ta0_0 rfl rfl
  have ta0_1 := hpa0 1 _ qa0_1 rfl rfl
  obtain ⟨a0_1, rfl, wa0_1⟩ := typ_int ta0_1 rfl
  have ta0_2 := hpa0 2 _ qa0_2 rfl rfl
  obtain ⟨a0_2, rfl, wa0_2⟩ := typ_int ta0_2 rfl
  have ta0_3 := hpa0 3 _ qa0_3 rfl rfl
  obtain ⟨a0_3, rfl, wa0_3⟩ := typ_int ta0_3 rfl
  obtain ⟨a1, rfl⟩ := typ_bytes t1 rfl rfl
  obtain ⟨a2, rfl⟩ := typ_bytes t2 rfl rfl
  obtain ⟨a3, rfl⟩ := typ_bool t3 rfl
  obtain ⟨a4, rfl⟩ := typ_bytes t4 rfl rfl
  obtain ⟨a5, rfl, wa5⟩ := typ_int t5 rfl
  obtain ⟨a6, rfl, wa6⟩ := typ_int t6 rfl
  exact calls_of_fn Try.func11 rfl rfl (c_ProtectEncodes a0_0 a0_1 a0_2 a0_3 a1 a2 a3 a4 a5 a6 (wf_u16 wa5) (wf_u16 wa6)) (relCs_cons r0 (relCs_cons r1 (relCs_cons r2 (relCs_cons r3 (relCs_cons r4 (relCs_cons r5 (relCs_cons r6 relCs_nil)))))))

set_option maxRecDepth 100000 in
theorem lifted (os : Os) (started : os.Started) (H : Type) (enc : TypeId × Value → H) :
    ReturnsInHanded {} Try.checked os 11 .any (Rows.protectEncodesSpec.pre6 enc Try.prog Try.f11 Rows.protectEncodesRow.domain false) (Rows.protectEncodesSpec.post enc Try.prog Try.f11 false true false false) := by
  refine returnsInHanded_of_change (C := Try.checked) ownA started (by kernel_rfl) Try.func11
    (ChangeSpec.witness6 (enc := enc) (C := Try.checked) false ⟨#[], #[.agg #[.slice none 0 0, .int .i64 0, .int .i64 0, .int .i64 0], .slice none 0 0, .slice none 0 0, .bool false, .slice none 0 0, .int .u16 0, .int .u16 0], []⟩ 8 (by kernel_rfl) (by kernel_rfl) (by kernel_rfl) (by kernel_rfl)) ?_
  intro W base args ds gs before hval0 hW hcnd _
  have hval : ∀ (j : Nat) t v, Try.f11.params[j]? = some t → args[j]? = some v → Value.okWide Try.prog W .any base t v := hval0
  have hW' := hW
  obtain ⟨p, q, hA0, hV, rfl, hfz, hnd⟩ := hW
  have hA : DataW.TrodAll enc Try.prog W 0 (fun _ => true) true Try.f11.params.toList args.toList ds p := hA0
  rw [Try.params11] at hA hval
  obtain ⟨v0, vs0, d0, ds0, p0, q0, hargs, rfl, rfl, h0, r0⟩ := trodAll_cons hA
  obtain ⟨v1, vs1, d1, ds1, p1, q1, rfl, rfl, rfl, h1, r1⟩ := trodAll_cons r0
  obtain ⟨v2, vs2, d2, ds2, p2, q2, rfl, rfl, rfl, h2, r2⟩ := trodAll_cons r1
  obtain ⟨v3, vs3, d3, ds3, p3, q3, rfl, rfl, rfl, h3, r3⟩ := trodAll_cons r2
  obtain ⟨v4, vs4, d4, ds4, p4, q4, rfl, rfl, rfl, h4, r4⟩ := trodAll_cons r3
  obtain ⟨v5, vs5, d5, ds5, p5, q5, rfl, rfl, rfl, h5, r5⟩ := trodAll_cons r4
  obtain ⟨v6, vs6, d6, ds6, p6, q6, rfl, rfl, rfl, h6, r6⟩ := trodAll_cons r5
  obtain ⟨rfl, rfl, rfl⟩ := trodAll_nil r6
  obtain rfl : args = #[v0, v1, v2, v3, v4, v5, v6] := by cases args; simp_all
  obtain ⟨rfl, rfl⟩ := trodVars_none hV
  obtain ⟨ls0, t0, c0⟩ := rel_arg tokA (n := 9) rfl h0 (hval 0 85 v0 rfl rfl)
  obtain ⟨ls1, t1, c1⟩ := rel_arg tokA (n := 9) rfl h1 (hval 1 23 v1 rfl rfl)
  obtain ⟨ls2, t2, c2⟩ := rel_arg tokA (n := 9) rfl h2 (hval 2 23 v2 rfl rfl)
  obtain ⟨ls3, t3, c3⟩ := rel_arg tokA (n := 9) rfl h3 (hval 3 4 v3 rfl rfl)
  obtain ⟨ls4, t4, c4⟩ := rel_arg tokA (n := 9) rfl h4 (hval 4 23 v4 rfl rfl)
  obtain ⟨ls5, t5, c5⟩ := rel_arg tokA (n := 9) rfl h5 (hval 5 42 v5 rfl rfl)
  obtain ⟨ls6, t6, c6⟩ := rel_arg tokA (n := 9) rfl h6 (hval 6 42 v6 rfl rfl)
  have lt0 : ∀ x ∈ p0, x.block < W.heap.size := by obtain ⟨m, hm⟩ := h0; exact DataW.trod_lt m _ _ _ hm
  have lt1 : ∀ x ∈ p1, x.block < W.heap.size := by obtain ⟨m, hm⟩ := h1; exact DataW.trod_lt m _ _ _ hm
  have lt2 : ∀ x ∈ p2, x.block < W.heap.size := by obtain ⟨m, hm⟩ := h2; exact DataW.trod_lt m _ _ _ hm
  have lt3 : ∀ x ∈ p3, x.block < W.heap.size := by obtain ⟨m, hm⟩ := h3; exact DataW.trod_lt m _ _ _ hm
  have lt4 : ∀ x ∈ p4, x.block < W.heap.size := by obtain ⟨m, hm⟩ := h4; exact DataW.trod_lt m _ _ _ hm
  have lt5 : ∀ x ∈ p5, x.block < W.heap.size := by obtain ⟨m, hm⟩ := h5; exact DataW.trod_lt m _ _ _ hm
  have lt6 : ∀ x ∈ p6, x.block < W.heap.size := by obtain ⟨m, hm⟩ := h6; exact DataW.trod_lt m _ _ _ hm
  clear hA0 hval0
  refine (walk W v0 v1 v2 v3 v4 v5 v6 ls0 ls1 ls2 ls3 ls4 ls5 ls6 t0 t1 t2 t3 t4 t5 t6 c0 c1 c2 c3 c4 c5 c6).mono fun e W' ⟨he, bel⟩ => ?_
  subst he
  exact ⟨_, rfl, _, _, _, [], _, [], hW', trodAll_mk1 (shut_bool Try.underlying4 _), (trodAll_cons_mk (Below.trod laidOutA (by kernel_rfl) (of_decide_eq_true (by kernel_rfl)) h0 bel lt0) (trodAll_cons_mk (Below.trod laidOutA (by kernel_rfl) (of_decide_eq_true (by kernel_rfl)) h1 bel lt1) (trodAll_cons_mk (Below.trod laidOutA (by kernel_rfl) (of_decide_eq_true (by kernel_rfl)) h2 bel lt2) (trodAll_cons_mk (Below.trod laidOutA (by kernel_rfl) (of_decide_eq_true (by kernel_rfl)) h3 bel lt3) (trodAll_cons_mk (Below.trod laidOutA (by kernel_rfl) (of_decide_eq_true (by kernel_rfl)) h4 bel lt4) (trodAll_cons_mk (Below.trod laidOutA (by kernel_rfl) (of_decide_eq_true (by kernel_rfl)) h5 bel lt5) (trodAll_cons_mk (Below.trod laidOutA (by kernel_rfl) (of_decide_eq_true (by kernel_rfl)) h6 bel lt6) trodAll_mk0))))))), rfl, bel.frame _, fun h => by cases h⟩

theorem over : Rows.protectEncodesRow.holds Try.pinned (OpenSpec.ofChange Rows.protectEncodesSpec) :=
  OpenClaim.holds_of_wide 11 Try.f11 rfl rfl rfl rfl rfl rfl rfl ⟨rfl, rfl, rfl, rfl, rfl⟩ rfl rfl rfl rfl rfl (by kernel_rfl) Try.func11 (by kernel_rfl)
    (of_decide_eq_true (by kernel_rfl)) (by unfold Func.isWrapper; first | (rw [if_pos (by decide +kernel)]; kernel_rfl) | (rw [if_neg (by decide +kernel)]; exact ⟨rfl, rfl⟩))
    (fun os started H enc _ => lifted os started H enc)
end ProtectEncodesProof

theorem protectEncodes_proved : Rows.ProtectEncodesSaid := ProtectEncodesProof.over
#print axioms protectEncodes_proved
end Go.Proofs.Ytcmcjiacpahliab

/-
  The statement ProtectOpens: the law returns true for every input; no conditions.
-/
import Derived.Test.YtcmcjiacpahliabCProtL
import Derived.Test.YtcmcjiacpahliabLOwn
set_option linter.all false
namespace Go.Sx
open Go.Proofs Go.RowKit
noncomputable def g13 : Par := par 182 (nthLL [[0, 1, 2, 3, 4, 5, 6, 7], [0, 1, 2, 3, 4, 5, 6, 7, 42], [16], [0, 1, 2, 3, 4, 5, 6, 7, 55], [16], [0, 3, 4, 6, 7, 17, 18], [0, 3, 4, 6, 7, 17, 18, 19], [0, 3, 6, 7, 17, 18, 19, 69], [0, 6, 7, 18, 19], [0, 6, 7, 18, 19, 21], [0, 6, 7, 18, 19, 21, 78], [0, 6, 7, 18, 19, 21], [0, 6, 7, 18, 19, 21, 22], [0, 6, 7, 18, 19, 21, 22, 23], [0, 6, 7, 18, 19, 21, 22, 23, 91], [0, 6, 7, 18, 19, 21, 22, 23], [0, 6, 7, 18, 19, 21, 22, 23, 24], [0, 6, 7, 18, 19, 21, 22, 23, 24, 25, 26], [0, 6, 7, 18, 19, 21, 22, 23, 24, 25, 26, 27, 28], [0, 6, 7, 18, 19, 21, 22, 23, 24, 25, 26, 27, 28, 29, 30], [0, 6, 7, 18, 19, 21, 22, 23, 25, 26, 27, 28, 29, 30, 31, 32], [0, 6, 7, 18, 19, 21, 22, 23, 145], [16], [0, 6, 7, 18, 19, 21, 22, 33, 34, 35, 36], [0, 6, 7, 18, 19, 21, 33, 34, 35, 36, 37, 38, 39, 40], [0, 6, 7, 18, 19, 21, 181], [16], [16]]) [16] (nthLL [])
set_option maxRecDepth 10000
set_option maxHeartbeats 16000000
theorem c_ProtectOpens (w dt q : List UInt8) (l sf : Bool) (n m : UInt8) (h : Int) (hh : 0 ≤ h ∧ h ≤ 65535) : Fn Try.prog 13 [.o (.sl (w.map u8) w.length), .o (.sl (dt.map u8) dt.length), .o (.sl (q.map u8) q.length), .o (.b l), .o (.b sf), .o (.i .u8 (n.toNat : Int)), .o (.i .u8 (m.toNat : Int)), .o (.i .u16 h)] [] (.one (.c (.o (.b true)))) [] := by
  have hn := byte_lt n
  have hm := byte_lt m
  refine Fn_intro (G := g13) (goodA rfl) (fn := Try.f13) rfl rfl rfl rfl rfl ?_
  by_cases hl : w.length > 900 ∨ dt.length > 300 ∨ q.length > 40
  · (repeat' ((conv => whnf) <;> first | exact rfl | with_reducible refine boolK_dec (fun _ => ?_) (fun _ => ?_) <;> try (exfalso; omega) | refine boolK_beq (fun _ => ?_) (fun _ => ?_) <;> try (exfalso; first | omega | contradiction) | refine boolK_bne (fun _ => ?_) (fun _ => ?_) <;> try (exfalso; first | omega | contradiction) | (with_reducible first | refine boolK_not ?_ | refine boolK_and ?_ | refine boolK_or ?_ | refine boolK_true ?_ | refine boolK_false ?_) | refine boolK_intro (fun _ => ?_) (fun _ => ?_) <;> try (exfalso; simp_all; done) | refine jA ?_ | refine jB ?_ | refine jC ?_ | refine jD ?_ | refine jE ?_ | refine jF ?_ | refine jG ?_ | refine jH ?_ | refine jI ?_ | refine jJ ?_ | refine jK ?_ | with_reducible refine natK_lit ?_ | refine natK_of rfl ?_ | refine natK_any ?_ | refine jP ?_ | refine jQ ?_ | refine jR ?_ | refine jS ?_ | refine jT ?_ | refine jU (fun _ => ?_) | refine jV ?_ | refine jW ?_ | refine jX ?_ | refine jY ?_ | refine jZ ?_ | refine ja ?_ | refine jb ?_ | refine jc ?_ | refine jd ?_ | refine je ?_ | refine jf ?_ | refine jg ?_ | refine jh ?_ | refine ji ?_ | refine jj ?_ | refine jk ?_ | refine jn ?_ | refine jo ?_ | refine jp ?_ | refine jq ?_ | refine jr ?_ | refine js ?_ | refine callK_intro (c_awake11) ?_ | refine jt ?_ | refine jx ?_ | refine jy ?_ | refine ju ?_ | refine jv ?_)) <;> (try (conv => whnf))
  · obtain ⟨tk1, ad1, tm1, _, c1⟩ := c_content11 dt q rfl (by omega)
    have c1 := c1 _ rfl
    have cK := c_Session (n.toNat : Int) (by omega)
    have cM := c_Session (m.toNat : Int) (by omega)
    have hk' := sess_range' (n := (n.toNat : Int)) (by omega)
    generalize sessN (n.toNat : Int) = k at *
    generalize sessN (m.toNat : Int) = k' at *
    have p1 := c_rMakePrivate l dt tk1 ad1 tm1 (by omega) k hk'
    have s1 := c_rMakeSafe l dt tk1 ad1 tm1 (by omega) k hk'
    have pl := mk6_len (l := l) (k := k) (N := prN l (dt, tk1, ad1, tm1))
    have sl := mk7_len (l := l) (k := k) (N := prN l (dt, tk1, ad1, tm1)) (by have := prN_len l (dt, tk1, ad1, tm1); omega)
    generalize mk6 l k (prN l (dt, tk1, ad1, tm1)) = P at *
    generalize mk7 l k (prN l (dt, tk1, ad1, tm1)) = S at *
    obtain ⟨r1, b1, z1⟩ := c_Spoil P.1 rfl (by omega) h hh
    obtain ⟨r2, b2, z2⟩ := c_Spoil S.1 rfl (by omega) h hh
    obtain ⟨A, cA, dA⟩ : ∃ A : List UInt8 → Int → PrT × Int, (∀ (b : List UInt8) {m : Nat} (hm : m = b.length) (hb : b.length ≤ 90000) (k : Int), Fn Try.prog 65 [.o (.sl (b.map u8) m), .o (.i .u64 k)] [] (.tup [.c (.a [.sl ((A b k).1.1.map u8) (A b k).1.1.length, .i .i64 (A b k).1.2.1, .i .i64 (A b k).1.2.2.1, .i .i64 (A b k).1.2.2.2]), .c (.o (.i .i64 (A b k).2))]) []) ∧ (∀ (b : List UInt8) {m : Nat} (hm : m = b.length) (hb : b.length ≤ 90000) (k : Int), Fn Try.prog 66 [.o (.sl (b.map u8) m), .o (.i .u64 k)] [] (.tup [.c (.a [.sl ((A b k).1.1.map u8) (A b k).1.1.length, .i .i64 (A b k).1.2.1, .i .i64 (A b k).1.2.2.1, .i .i64 (A b k).1.2.2.2]), .c (.o (.i .i64 (A b k).2))]) []) := ⟨openP, fun b m hm hb k => c_OpenPrivate b hm hb k, fun b m hm hb k => c_rOpenPrivate b hm hb k⟩
    obtain ⟨B, cB, dB⟩ : ∃ A : List UInt8 → Int → PrT × Int, (∀ (b : List UInt8) {m : Nat} (hm : m = b.length) (hb : b.length ≤ 90000) (k : Int), Fn Try.prog 67 [.o (.sl (b.map u8) m), .o (.i .u64 k)] [] (.tup [.c (.a [.sl ((A b k).1.1.map u8) (A b k).1.1.length, .i .i64 (A b k).1.2.1, .i .i64 (A b k).1.2.2.1, .i .i64 (A b k).1.2.2.2]), .c (.o (.i .i64 (A b k).2))]) []) ∧ (∀ (b : List UInt8) {m : Nat} (hm : m = b.length) (hb : b.length ≤ 90000) (k : Int), Fn Try.prog 68 [.o (.sl (b.map u8) m), .o (.i .u64 k)] [] (.tup [.c (.a [.sl ((A b k).1.1.map u8) (A b k).1.1.length, .i .i64 (A b k).1.2.1, .i .i64 (A b k).1.2.2.1, .i .i64 (A b k).1.2.2.2]), .c (.o (.i .i64 (A b k).2))]) []) := ⟨openS, fun b m hm hb k => c_OpenSafe b hm hb k, fun b m hm hb k => c_rOpenSafe b hm hb k⟩
    obtain ⟨Q, cQ, dQ⟩ : ∃ Q : List UInt8 → PtT, (∀ (b : List UInt8) {m : Nat} (hm : m = b.length) (hb : b.length ≤ 90000), Fn Try.prog 69 [.o (.sl (b.map u8) m)] [] (.tup [.c (.o (.sl ((Q b).2.1.map u8) (Q b).2.1.length)), .c (.o (.sl ((Q b).2.2.1.map u8) (Q b).2.2.1.length)), .c (.o (.b (Q b).2.2.2.1)), .c (.o (.i .i64 (Q b).2.2.2.2))]) []) ∧ (∀ (b : List UInt8) {m : Nat} (hm : m = b.length) (hb : b.length ≤ 90000), Fn Try.prog 70 [.o (.sl (b.map u8) m)] [] (.tup [.c (.o (.sl ((Q b).2.1.map u8) (Q b).2.1.length)), .c (.o (.sl ((Q b).2.2.1.map u8) (Q b).2.2.1.length)), .c (.o (.b (Q b).2.2.2.1)), .c (.o (.i .i64 (Q b).2.2.2.2))]) []) := ⟨partsS, fun b m hm hb => c_Parts b hm hb, fun b m hm hb => c_rParts b hm hb⟩
    cases sf
    · (repeat' ((conv => whnf) <;> first | with_reducible refine boolK_refl ?_ | refine natK_of (j := 0) (by omega) ?_ | refine natK_of (j := 1) (by omega) ?_ | refine natK_of (j := 2) (by omega) ?_ | exact rfl | with_reducible refine boolK_dec (fun _ => ?_) (fun _ => ?_) <;> try (exfalso; omega) | refine boolK_beq (fun _ => ?_) (fun _ => ?_) <;> try (exfalso; first | omega | contradiction) | refine boolK_bne (fun _ => ?_) (fun _ => ?_) <;> try (exfalso; first | omega | contradiction) | (with_reducible first | refine boolK_not ?_ | refine boolK_and ?_ | refine boolK_or ?_ | refine boolK_true ?_ | refine boolK_false ?_) | refine boolK_intro (fun _ => ?_) (fun _ => ?_) <;> try (exfalso; simp_all; done) | refine jA ?_ | refine jB ?_ | refine jC ?_ | refine jD ?_ | refine jE ?_ | refine jF ?_ | refine jG ?_ | refine jH ?_ | refine jI ?_ | refine jJ ?_ | refine jK ?_ | with_reducible refine natK_lit ?_ | refine natK_of rfl ?_ | refine natK_any ?_ | refine jP ?_ | refine jQ ?_ | refine jR ?_ | refine jS ?_ | refine jT ?_ | refine jU (fun _ => ?_) | refine jV ?_ | refine jW ?_ | refine jX ?_ | refine jY ?_ | refine jZ ?_ | refine ja ?_ | refine jb ?_ | refine jc ?_ | refine jd ?_ | refine je ?_ | refine jf ?_ | refine jg ?_ | refine jh ?_ | refine ji ?_ | refine jj ?_ | refine jk ?_ | refine jn ?_ | refine jo ?_ | refine jp ?_ | refine jq ?_ | refine jr ?_ | refine js ?_ | refine callK_intro (c_awake11) ?_ | refine callK_intro (c1) ?_ | refine callK_intro (cK) ?_ | refine callK_intro (cM) ?_ | refine callK_intro (p1) ?_ | refine callK_intro (s1) ?_ | refine callK_intro (z1) ?_ | refine callK_intro (z2) ?_ | refine callK_intro (cA _ rfl (by omega) _) ?_ | refine callK_intro (dA _ rfl (by omega) _) ?_ | refine callK_intro (cB _ rfl (by omega) _) ?_ | refine callK_intro (dB _ rfl (by omega) _) ?_ | refine callK_intro (cQ _ rfl (by omega)) ?_ | refine callK_intro (dQ _ rfl (by omega)) ?_ | refine callK_intro (c_SameP _ _ _ _) ?_ | refine loopK_step (G := g13) ?_ | refine jt ?_ | refine jx ?_ | refine jy ?_ | refine ju ?_ | refine jv ?_)) <;> (try (conv => whnf))
    · (repeat' ((conv => whnf) <;> first | with_reducible refine boolK_refl ?_ | refine natK_of (j := 0) (by omega) ?_ | refine natK_of (j := 1) (by omega) ?_ | refine natK_of (j := 2) (by omega) ?_ | exact rfl | with_reducible refine boolK_dec (fun _ => ?_) (fun _ => ?_) <;> try (exfalso; omega) | refine boolK_beq (fun _ => ?_) (fun _ => ?_) <;> try (exfalso; first | omega | contradiction) | refine boolK_bne (fun _ => ?_) (fun _ => ?_) <;> try (exfalso; first | omega | contradiction) | (with_reducible first | refine boolK_not ?_ | refine boolK_and ?_ | refine boolK_or ?_ | refine boolK_true ?_ | refine boolK_false ?_) | refine boolK_intro (fun _ => ?_) (fun _ => ?_) <;> try (exfalso; simp_all; done) | refine jA ?_ | refine jB ?_ | refine jC ?_ | refine jD ?_ | refine jE ?_ | refine jF ?_ | refine jG ?_ | refine jH ?_ | refine jI ?_ | refine jJ ?_ | refine jK ?_ | with_reducible refine natK_lit ?_ | refine natK_of rfl ?_ | refine natK_any ?_ | refine jP ?_ | refine jQ ?_ | refine jR ?_ | refine jS ?_ | refine jT ?_ | refine jU (fun _ => ?_) | refine jV ?_ | refine jW ?_ | refine jX ?_ | refine jY ?_ | refine jZ ?_ | refine ja ?_ | refine jb ?_ | refine jc ?_ | refine jd ?_ | refine je ?_ | refine jf ?_ | refine jg ?_ | refine jh ?_ | refine ji ?_ | refine jj ?_ | refine jk ?_ | refine jn ?_ | refine jo ?_ | refine jp ?_ | refine jq ?_ | refine jr ?_ | refine js ?_ | refine callK_intro (c_awake11) ?_ | refine callK_intro (c1) ?_ | refine callK_intro (cK) ?_ | refine callK_intro (cM) ?_ | refine callK_intro (p1) ?_ | refine callK_intro (s1) ?_ | refine callK_intro (z1) ?_ | refine callK_intro (z2) ?_ | refine callK_intro (cA _ rfl (by omega) _) ?_ | refine callK_intro (dA _ rfl (by omega) _) ?_ | refine callK_intro (cB _ rfl (by omega) _) ?_ | refine callK_intro (dB _ rfl (by omega) _) ?_ | refine callK_intro (cQ _ rfl (by omega)) ?_ | refine callK_intro (dQ _ rfl (by omega)) ?_ | refine callK_intro (c_SameP _ _ _ _) ?_ | refine loopK_step (G := g13) ?_ | refine jt ?_ | refine jx ?_ | refine jy ?_ | refine ju ?_ | refine jv ?_)) <;> (try (conv => whnf))
end Go.Sx
namespace Go.Proofs.Ytcmcjiacpahliab
open Go.ChangeShapes Go.WideShapes Go.ChangeAt Go.RowKit Go.Sx
namespace ProtectOpensProof
set_option maxRecDepth 100000 in
theorem walk (W : World) (v0 v1 v2 v3 v4 v5 v6 v7 : Value) (ls0 ls1 ls2 ls3 ls4 ls5 ls6 ls7 : List L)
    (t0 : Typ (tabF tab) 23 ls0) (t1 : Typ (tabF tab) 23 ls1) (t2 : Typ (tabF tab) 23 ls2) (t3 : Typ (tabF tab) 4 ls3) (t4 : Typ (tabF tab) 4 ls4) (t5 : Typ (tabF tab) 5 ls5) (t6 : Typ (tabF tab) 5 ls6) (t7 : Typ (tabF tab) 42 ls7)
    (r0 : RelC (fun _ => False) W noMu (argC (tabF tab 23).agg ls0) v0) (r1 : RelC (fun _ => False) W noMu (argC (tabF tab 23).agg ls1) v1) (r2 : RelC (fun _ => False) W noMu (argC (tabF tab 23).agg ls2) v2) (r3 : RelC (fun _ => False) W noMu (argC (tabF tab 4).agg ls3) v3) (r4 : RelC (fun _ => False) W noMu (argC (tabF tab 4).agg ls4) v4) (r5 : RelC (fun _ => False) W noMu (argC (tabF tab 5).agg ls5) v5) (r6 : RelC (fun _ => False) W noMu (argC (tabF tab 5).agg ls6) v6) (r7 : RelC (fun _ => False) W noMu (argC (tabF tab 42).agg ls7) v7) :
    Calls Try.prog 13 #[v0, v1, v2, v3, v4, v5, v6, v7] W fun e w' => e = .returned (.bool true) ∧ Below W.heap.size W w' := by
  obtain ⟨a0, rfl⟩ := typ_bytes t0 rfl rfl
  obtain ⟨a1, rfl⟩ := typ_bytes t1 rfl rfl
  obtain ⟨a2, rfl⟩ := typ_bytes t2 rfl rfl
  obtain ⟨a3, rfl⟩ := typ_bool t3 rfl
  obtain ⟨a4, rfl⟩ := typ_bool t4 rfl
  obtain ⟨a5, rfl⟩ := typ_u8 t5 rfl
  obtain ⟨a6, rfl⟩ := typ_u8 t6 rfl
  obtain ⟨a7, rfl, wa7⟩ := typ_int t7 rfl
  exact calls_of_fn Try.func13 rfl rfl (c_ProtectOpens a0 a1 a2 a3 a4 a5 a6 a7 (wf_u16 wa7)) (relCs_cons r0 (relCs_cons r1 (relCs_cons r2 (relCs_cons r3 (relCs_cons r4 (relCs_cons r5 (relCs_cons r6 (relCs_cons r7 relCs_nil))))))))

set_option maxRecDepth 100000 in
theorem lifted (os : Os) (started : os.Started) (H : Type) (enc : TypeId × Value → H) :
    ReturnsInHanded {} Try.checked os 13 .any (Rows.protectOpensSpec.pre6 enc Try.prog Try.f13 Rows.protectOpensRow.domain false) (Rows.protectOpensSpec.post enc Try.prog Try.f13 false true false false) := by
  refine returnsInHanded_of_change (C := Try.checked) ownA started (by kernel_rfl) Try.func13
    (ChangeSpec.witness6 (enc := enc) (C := Try.checked) false ⟨#[], #[.slice none 0 0, .slice none 0 0, .slice none 0 0, .bool false, .bool false, .int .u8 0, .int .u8 0, .int .u16 0], []⟩ 8 (by kernel_rfl) (by kernel_rfl) (by kernel_rfl) (by kernel_rfl)) ?_
  intro W base args ds gs before hval0 hW hcnd _
  have hval : ∀ (j : Nat) t v, Try.f13.params[j]? = some t → args[j]? = some v → Value.okWide Try.prog W .any base t v := hval0
  have hW' := hW
  obtain ⟨p, q, hA0, hV, rfl, hfz, hnd⟩ := hW
  have hA : DataW.TrodAll enc Try.prog W 0 (fun _ => true) true Try.f13.params.toList args.toList ds p := hA0
  rw [Try.params13] at hA hval
  obtain ⟨v0, vs0, d0, ds0, p0, q0, hargs, rfl, rfl, h0, r0⟩ := trodAll_cons hA
  obtain ⟨v1, vs1, d1, ds1, p1, q1, rfl, rfl, rfl, h1, r1⟩ := trodAll_cons r0
  obtain ⟨v2, vs2, d2, ds2, p2, q2, rfl, rfl, rfl, h2, r2⟩ := trodAll_cons r1
  obtain ⟨v3, vs3, d3, ds3, p3, q3, rfl, rfl, rfl, h3, r3⟩ := trodAll_cons r2
  obtain ⟨v4, vs4, d4, ds4, p4, q4, rfl, rfl, rfl, h4, r4⟩ := trodAll_cons r3
  obtain ⟨v5, vs5, d5, ds5, p5, q5, rfl, rfl, rfl, h5, r5⟩ := trodAll_cons r4
  obtain ⟨v6, vs6, d6, ds6, p6, q6, rfl, rfl, rfl, h6, r6⟩ := trodAll_cons r5
  obtain ⟨v7, vs7, d7, ds7, p7, q7, rfl, rfl, rfl, h7, r7⟩ := trodAll_cons r6
  obtain ⟨rfl, rfl, rfl⟩ := trodAll_nil r7
  obtain rfl : args = #[v0, v1, v2, v3, v4, v5, v6, v7] := by cases args; simp_all
  obtain ⟨rfl, rfl⟩ := trodVars_none hV
  obtain ⟨ls0, t0, c0⟩ := rel_arg tokA (n := 9) rfl h0 (hval 0 23 v0 rfl rfl)
  obtain ⟨ls1, t1, c1⟩ := rel_arg tokA (n := 9) rfl h1 (hval 1 23 v1 rfl rfl)
  obtain ⟨ls2, t2, c2⟩ := rel_arg tokA (n := 9) rfl h2 (hval 2 23 v2 rfl rfl)
  obtain ⟨ls3, t3, c3⟩ := rel_arg tokA (n := 9) rfl h3 (hval 3 4 v3 rfl rfl)
  obtain ⟨ls4, t4, c4⟩ := rel_arg tokA (n := 9) rfl h4 (hval 4 4 v4 rfl rfl)
  obtain ⟨ls5, t5, c5⟩ := rel_arg tokA (n := 9) rfl h5 (hval 5 5 v5 rfl rfl)
  obtain ⟨ls6, t6, c6⟩ := rel_arg tokA (n := 9) rfl h6 (hval 6 5 v6 rfl rfl)
  obtain ⟨ls7, t7, c7⟩ := rel_arg tokA (n := 9) rfl h7 (hval 7 42 v7 rfl rfl)
  have lt0 : ∀ x ∈ p0, x.block < W.heap.size := by obtain ⟨m, hm⟩ := h0; exact DataW.trod_lt m _ _ _ hm
  have lt1 : ∀ x ∈ p1, x.block < W.heap.size := by obtain ⟨m, hm⟩ := h1; exact DataW.trod_lt m _ _ _ hm
  have lt2 : ∀ x ∈ p2, x.block < W.heap.size := by obtain ⟨m, hm⟩ := h2; exact DataW.trod_lt m _ _ _ hm
  have lt3 : ∀ x ∈ p3, x.block < W.heap.size := by obtain ⟨m, hm⟩ := h3; exact DataW.trod_lt m _ _ _ hm
  have lt4 : ∀ x ∈ p4, x.block < W.heap.size := by obtain ⟨m, hm⟩ := h4; exact DataW.trod_lt m _ _ _ hm
  have lt5 : ∀ x ∈ p5, x.block < W.heap.size := by obtain ⟨m, hm⟩ := h5; exact DataW.trod_lt m _ _ _ hm
  have lt6 : ∀ x ∈ p6, x.block < W.heap.size := by obtain ⟨m, hm⟩ := h6; exact DataW.trod_lt m _ _ _ hm
  have lt7 : ∀ x ∈ p7, x.block < W.heap.size := by obtain ⟨m, hm⟩ := h7; exact DataW.trod_lt m _ _ _ hm
  clear hA0 hval0
  refine (walk W v0 v1 v2 v3 v4 v5 v6 v7 ls0 ls1 ls2 ls3 ls4 ls5 ls6 ls7 t0 t1 t2 t3 t4 t5 t6 t7 c0 c1 c2 c3 c4 c5 c6 c7).mono fun e W' ⟨he, bel⟩ => ?_
  subst he
  exact ⟨_, rfl, _, _, _, [], _, [], hW', trodAll_mk1 (shut_bool Try.underlying4 _), (trodAll_cons_mk (Below.trod laidOutA (by kernel_rfl) (of_decide_eq_true (by kernel_rfl)) h0 bel lt0) (trodAll_cons_mk (Below.trod laidOutA (by kernel_rfl) (of_decide_eq_true (by kernel_rfl)) h1 bel lt1) (trodAll_cons_mk (Below.trod laidOutA (by kernel_rfl) (of_decide_eq_true (by kernel_rfl)) h2 bel lt2) (trodAll_cons_mk (Below.trod laidOutA (by kernel_rfl) (of_decide_eq_true (by kernel_rfl)) h3 bel lt3) (trodAll_cons_mk (Below.trod laidOutA (by kernel_rfl) (of_decide_eq_true (by kernel_rfl)) h4 bel lt4) (trodAll_cons_mk (Below.trod laidOutA (by kernel_rfl) (of_decide_eq_true (by kernel_rfl)) h5 bel lt5) (trodAll_cons_mk (Below.trod laidOutA (by kernel_rfl) (of_decide_eq_true (by kernel_rfl)) h6 bel lt6) (trodAll_cons_mk (Below.trod laidOutA (by kernel_rfl) (of_decide_eq_true (by kernel_rfl)) h7 bel lt7) trodAll_mk0)))))))), rfl, bel.frame _, fun h => by cases h⟩

theorem over : Rows.protectOpensRow.holds Try.pinned (OpenSpec.ofChange Rows.protectOpensSpec) :=
  OpenClaim.holds_of_wide 13 Try.f13 rfl rfl rfl rfl rfl rfl rfl ⟨rfl, rfl, rfl, rfl, rfl⟩ rfl rfl rfl rfl rfl (by kernel_rfl) Try.func13 (by kernel_rfl)
    (of_decide_eq_true (by kernel_rfl)) (by unfold Func.isWrapper; first | (rw [if_pos (by decide +kernel)]; kernel_rfl) | (rw [if_neg (by decide +kernel)]; exact ⟨rfl, rfl⟩))
    (fun os started H enc _ => lifted os started H enc)
end ProtectOpensProof

theorem protectOpens_proved : Rows.ProtectOpensSaid := ProtectOpensProof.over
#print axioms protectOpens_proved
end Go.Proofs.Ytcmcjiacpahliab

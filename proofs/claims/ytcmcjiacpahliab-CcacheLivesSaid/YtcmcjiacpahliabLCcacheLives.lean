/-
  The statement CcacheLives: the law returns true for every input; no conditions.
-/
import Derived.Test.YtcmcjiacpahliabCCcL
import Derived.Test.YtcmcjiacpahliabPCcF
import Derived.Test.YtcmcjiacpahliabLOwn
set_option linter.all false
namespace Go.Sx
open Go.Proofs Go.RowKit
noncomputable def g8 : Par := par 135 (nthLL [[1, 3, 4, 5, 6, 8], [1, 3, 4, 5, 6, 8, 28], [12], [1, 3, 4, 5, 6, 8, 35], [12], [1, 3, 4, 5, 6, 8, 13], [1, 3, 4, 5, 6, 8, 13, 37], [1, 3, 4, 5, 6, 8, 13], [1, 3, 4, 5, 6, 8, 13, 14], [1, 3, 4, 5, 6, 8, 13, 14, 15], [1, 3, 4, 5, 6, 8, 13, 14, 15, 16], [1, 3, 4, 5, 6, 8, 13, 14, 15, 16, 17, 18], [1, 3, 4, 5, 6, 8, 13, 14, 15, 16, 17, 18, 19, 20], [1, 3, 4, 5, 6, 8, 13, 14, 15, 16, 17, 19, 88], [12], [1, 3, 4, 5, 6, 8, 13, 14, 15, 16, 17, 19, 21], [1, 3, 4, 5, 6, 8, 13, 14, 16, 17, 19, 21, 22], [1, 3, 4, 5, 6, 8, 13, 14, 16, 17, 19, 21, 22, 23, 24], [1, 3, 4, 5, 6, 8, 13, 17, 19, 21, 22, 23, 24, 25, 26], [1, 3, 4, 5, 6, 8, 13, 134], [12], [12]]) [12] (nthLL [[], [], [], [], [], [], [], [], [0, 0, 0, 4, 14, 31, 0, 64, 255, 511, 0, 2047], [0, 0, 2, 6, 15, 0, 32, 127, 255, 0, 1023]])
set_option maxRecDepth 10000
set_option maxHeartbeats 16000000
/-- what is got, what is live, what expires, by the program and by the document -/
theorem lv_pack (o1 o2 o3 : List UInt8) (l : List CR) (hl : l.length ≤ 1000) (hs : ∀ s ∈ l, crSm 1000 s) (x y z : List UInt8) (now : Int) : ∃ (G : CR × Bool) (H : CR × Int) (E : List CR),
    (Fn Try.prog 41 [.a [.s o1, .s o2, .s o3, .sl (flat crR l) l.length], .a [.s x, .s y, .s z]] [] (.tup [.c (.a [.s G.1.x, .s G.1.y, .s G.1.z, .i .u64 G.1.k, .i .i64 G.1.lf, .i .i64 G.1.kv, .i .i64 G.1.is, .sl (G.1.t.map u8) G.1.t.length]), .c (.o (.b G.2))]) [] ∧
    Fn Try.prog 44 [.a [.s o1, .s o2, .s o3, .sl (flat crR l) l.length], .a [.s x, .s y, .s z]] [] (.tup [.c (.a [.s G.1.x, .s G.1.y, .s G.1.z, .i .u64 G.1.k, .i .i64 G.1.lf, .i .i64 G.1.kv, .i .i64 G.1.is, .sl (G.1.t.map u8) G.1.t.length]), .c (.o (.b G.2))]) [] ∧
    Fn Try.prog 42 [.a [.s G.1.x, .s G.1.y, .s G.1.z, .i .u64 G.1.k, .i .i64 G.1.lf, .i .i64 G.1.kv, .i .i64 G.1.is, .sl (G.1.t.map u8) G.1.t.length], .a [.s G.1.x, .s G.1.y, .s G.1.z, .i .u64 G.1.k, .i .i64 G.1.lf, .i .i64 G.1.kv, .i .i64 G.1.is, .sl (G.1.t.map u8) G.1.t.length]] [] (.one (.c (.o (.b true)))) []) ∧
    (Fn Try.prog 45 [.a [.s o1, .s o2, .s o3, .sl (flat crR l) l.length], .a [.s x, .s y, .s z], .o (.i .i64 now)] [] (.tup [.c (.a [.s H.1.x, .s H.1.y, .s H.1.z, .i .u64 H.1.k, .i .i64 H.1.lf, .i .i64 H.1.kv, .i .i64 H.1.is, .sl (H.1.t.map u8) H.1.t.length]), .c (.o (.i .i64 H.2))]) [] ∧
    Fn Try.prog 46 [.a [.s o1, .s o2, .s o3, .sl (flat crR l) l.length], .a [.s x, .s y, .s z], .o (.i .i64 now)] [] (.tup [.c (.a [.s H.1.x, .s H.1.y, .s H.1.z, .i .u64 H.1.k, .i .i64 H.1.lf, .i .i64 H.1.kv, .i .i64 H.1.is, .sl (H.1.t.map u8) H.1.t.length]), .c (.o (.i .i64 H.2))]) [] ∧
    Fn Try.prog 42 [.a [.s H.1.x, .s H.1.y, .s H.1.z, .i .u64 H.1.k, .i .i64 H.1.lf, .i .i64 H.1.kv, .i .i64 H.1.is, .sl (H.1.t.map u8) H.1.t.length], .a [.s H.1.x, .s H.1.y, .s H.1.z, .i .u64 H.1.k, .i .i64 H.1.lf, .i .i64 H.1.kv, .i .i64 H.1.is, .sl (H.1.t.map u8) H.1.t.length]] [] (.one (.c (.o (.b true)))) []) ∧
    Fn Try.prog 47 [.a [.s o1, .s o2, .s o3, .sl (flat crR l) l.length], .o (.i .i64 now)] [] (.tup [.c (.a [.s o1, .s o2, .s o3, .sl (flat crR E) E.length]), .c (.o (.i .i64 ((l.length : Int) - (E.length : Int))))]) [] ∧
    Fn Try.prog 48 [.a [.s o1, .s o2, .s o3, .sl (flat crR l) l.length], .o (.i .i64 now)] [] (.tup [.c (.a [.s o1, .s o2, .s o3, .sl (flat crR E) E.length]), .c (.o (.i .i64 ((l.length : Int) - (E.length : Int))))]) [] ∧
    Fn Try.prog 37 [.a [.s o1, .s o2, .s o3, .sl (flat crR E) E.length], .a [.s o1, .s o2, .s o3, .sl (flat crR E) E.length]] [] (.one (.c (.o (.b true)))) [] :=
  ⟨crG l x y z, liveG now (crG l x y z), fresS now l, ⟨c_crGet o1 o2 o3 l rfl (by omega) hs x y z, c_rcrGet o1 o2 o3 l rfl (by omega) x y z, c_sameCred _⟩, ⟨c_crLive o1 o2 o3 l rfl (by omega) hs x y z now, c_rcrLive o1 o2 o3 l rfl (by omega) hs x y z now, c_sameCred _⟩,
    c_crExpire o1 o2 o3 l rfl (by omega) hs now, c_rcrExpire o1 o2 o3 l rfl (by omega) hs now, c_sameCc _ _ _ _ rfl rfl (Nat.le_trans (fres_len now l) (by omega))⟩
theorem c_CcacheLives (o1 o2 o3 : List UInt8) (rows : List (List L)) (hrows : ∀ r ∈ rows, Typ (tabF tab) 55 r) (l : List UInt8) (x y z : List UInt8) (now : Int) (w : UInt8) (sm : Int) (hsm : 0 ≤ sm ∧ sm ≤ 65535) : Fn Try.prog 8 [.a [.s o1, .s o2, .s o3, .sl rows.flatten rows.length], .o (.sl (l.map u8) l.length), .a [.s x, .s y, .s z], .o (.i .i64 now), .o (.i .u8 (w.toNat : Int)), .o (.i .u16 sm)] [] (.one (.c (.o (.b true)))) [] := by
  obtain ⟨W, rfl, hW⟩ := cr_rows hrows
  rw [List.length_map]
  show Fn Try.prog _ [.a [.s o1, .s o2, .s o3, .sl (flat crR W) W.length], _, _, _, _, _] _ _ _
  have hw := byte_lt w
  have cl1 := c_long15 o1 o2 o3 W rfl
  refine Fn_intro (G := g8) (goodA rfl) (fn := Try.f8) rfl rfl rfl rfl rfl ?_
  by_cases hlong : ccLg o1 o2 o3 W = true ∨ l.length > 300
  · generalize ccLg o1 o2 o3 W = A at *
    (repeat' ((conv => whnf) <;> first | exact rfl | with_reducible refine boolK_dec (fun _ => ?_) (fun _ => ?_) <;> try (exfalso; omega) | refine boolK_beq (fun _ => ?_) (fun _ => ?_) <;> try (exfalso; first | omega | contradiction) | refine boolK_bne (fun _ => ?_) (fun _ => ?_) <;> try (exfalso; first | omega | contradiction) | (with_reducible first | refine boolK_not ?_ | refine boolK_and ?_ | refine boolK_or ?_ | refine boolK_true ?_ | refine boolK_false ?_) | refine boolK_intro (fun _ => ?_) (fun _ => ?_) <;> try (exfalso; simp_all; done) | refine jA ?_ | refine jB ?_ | refine jC ?_ | refine jD ?_ | refine jE ?_ | refine jF ?_ | refine jG ?_ | refine jH ?_ | refine jI ?_ | refine jJ ?_ | refine jK ?_ | with_reducible refine natK_lit ?_ | refine natK_of rfl ?_ | refine natK_any ?_ | refine jL ?_ | refine jM ?_ | refine jN ?_ | refine jO ?_ | refine jP ?_ | refine jQ ?_ | refine jR ?_ | refine jS ?_ | refine jT ?_ | refine jU (fun _ => ?_) | refine jV ?_ | refine jW ?_ | refine jX ?_ | refine jY ?_ | refine jZ ?_ | refine ja ?_ | refine jb ?_ | refine jc ?_ | refine jd ?_ | refine je ?_ | refine jf ?_ | refine jg ?_ | refine jh ?_ | refine ji ?_ | refine jj ?_ | refine jk ?_ | refine jn ?_ | refine jo ?_ | refine jp ?_ | refine jq ?_ | refine jr ?_ | refine js ?_ | refine callK_intro (c_awake15) ?_ | refine callK_intro (cl1) ?_ | refine jt ?_ | refine jx ?_ | refine jy ?_ | refine ju ?_ | refine jv ?_)) <;> (try (conv => whnf))
    all_goals (exfalso; rcases hlong with h | h <;> first | omega | (simp_all; done))
  · have f1 : ccLg o1 o2 o3 W = false := by cases h : ccLg o1 o2 o3 W with
      | true => exact absurd (.inl h) hlong
      | false => rfl
    have f3 : l.length ≤ 300 := by
      have : ¬ l.length > 300 := fun h => hlong (.inr h)
      omega
    rw [f1] at cl1
    obtain ⟨w1, w2⟩ := ccLg_is f1
    have hWs : ∀ s ∈ W, crSm 1000 s := fun s hs => by
      have h1 := w2 s hs
      have h2 := hW s hs
      exact ⟨by omega, by omega, by omega, by omega, h2.1, h2.2.1, h2.2.2.1, h2.2.2.2⟩
    have cC := c_Cache l rfl (by omega) (w.toNat : Int) (by omega)
    have cV := c_Service (w.toNat : Int) (by omega)
    have hG := cachS_good l
    have h9 := crGood_len hG
    have hs := crV_mem hG
    clear hG hlong f1
    generalize userN (w.toNat : Int) = U at *
    generalize serviceN (w.toNat : Int) = N at *
    generalize serviceI (w.toNat : Int) = I at *
    generalize realmN ((w.toNat : Int) / 3) = R at *
    generalize cachS l = O at *
    obtain ⟨G1, H1, E1, ⟨a1, b1, q1⟩, ⟨d1, e1, g1⟩, i1, j1, k1⟩ := lv_pack o1 o2 o3 W (by omega) hWs x y z now
    obtain ⟨G2, H2, E2, ⟨a2, b2, q2⟩, ⟨d2, e2, g2⟩, i2, j2, k2⟩ := lv_pack o1 o2 o3 W (by omega) hWs N I R (sm * 2)
    obtain ⟨G3, H3, E3, ⟨a3, b3, q3⟩, ⟨d3, e3, g3⟩, i3, j3, k3⟩ := lv_pack U [] R O (by omega) hs x y z now
    obtain ⟨G4, H4, E4, ⟨a4, b4, q4⟩, ⟨d4, e4, g4⟩, i4, j4, k4⟩ := lv_pack U [] R O (by omega) hs N I R (sm * 2)
    (repeat' ((conv => whnf) <;> first | with_reducible refine boolK_refl ?_ | refine natK_of (j := 0) (by omega) ?_ | refine natK_of (j := 1) (by omega) ?_ | exact rfl | with_reducible refine boolK_dec (fun _ => ?_) (fun _ => ?_) <;> try (exfalso; omega) | refine boolK_beq (fun _ => ?_) (fun _ => ?_) <;> try (exfalso; first | omega | contradiction) | refine boolK_bne (fun _ => ?_) (fun _ => ?_) <;> try (exfalso; first | omega | contradiction) | (with_reducible first | refine boolK_not ?_ | refine boolK_and ?_ | refine boolK_or ?_ | refine boolK_true ?_ | refine boolK_false ?_) | refine boolK_intro (fun _ => ?_) (fun _ => ?_) <;> try (exfalso; simp_all; done) | refine jA ?_ | refine jB ?_ | refine jC ?_ | refine jD ?_ | refine jE ?_ | refine jF ?_ | refine jG ?_ | refine jH ?_ | refine jI ?_ | refine jJ ?_ | refine jK ?_ | with_reducible refine natK_lit ?_ | refine natK_of rfl ?_ | refine natK_any ?_ | refine jL ?_ | refine jM ?_ | refine jN ?_ | refine jO ?_ | refine jP ?_ | refine jQ ?_ | refine jR ?_ | refine jS ?_ | refine jT ?_ | refine jU (fun _ => ?_) | refine jV ?_ | refine jW ?_ | refine jX ?_ | refine jY ?_ | refine jZ ?_ | refine ja ?_ | refine jb ?_ | refine jc ?_ | refine jd ?_ | refine je ?_ | refine jf ?_ | refine jg ?_ | refine jh ?_ | refine ji ?_ | refine jj ?_ | refine jk ?_ | refine jn ?_ | refine jo ?_ | refine jp ?_ | refine jq ?_ | refine jr ?_ | refine js ?_ | refine callK_intro (c_awake15) ?_ | refine callK_intro (cl1) ?_ | refine callK_intro (cC) ?_ | refine callK_intro (cV) ?_ | refine callK_intro (a1) ?_ | refine callK_intro (b1) ?_ | refine callK_intro (q1) ?_ | refine callK_intro (d1) ?_ | refine callK_intro (e1) ?_ | refine callK_intro (g1) ?_ | refine callK_intro (i1) ?_ | refine callK_intro (j1) ?_ | refine callK_intro (k1) ?_ | refine callK_intro (a2) ?_ | refine callK_intro (b2) ?_ | refine callK_intro (q2) ?_ | refine callK_intro (d2) ?_ | refine callK_intro (e2) ?_ | refine callK_intro (g2) ?_ | refine callK_intro (i2) ?_ | refine callK_intro (j2) ?_ | refine callK_intro (k2) ?_ | refine callK_intro (a3) ?_ | refine callK_intro (b3) ?_ | refine callK_intro (q3) ?_ | refine callK_intro (d3) ?_ | refine callK_intro (e3) ?_ | refine callK_intro (g3) ?_ | refine callK_intro (i3) ?_ | refine callK_intro (j3) ?_ | refine callK_intro (k3) ?_ | refine callK_intro (a4) ?_ | refine callK_intro (b4) ?_ | refine callK_intro (q4) ?_ | refine callK_intro (d4) ?_ | refine callK_intro (e4) ?_ | refine callK_intro (g4) ?_ | refine callK_intro (i4) ?_ | refine callK_intro (j4) ?_ | refine callK_intro (k4) ?_ | refine loopK_step (G := g8) ?_ | refine jt ?_ | refine jx ?_ | refine jy ?_ | refine ju ?_ | refine jv ?_)) <;> (try (conv => whnf))
end Go.Sx
namespace Go.Proofs.Ytcmcjiacpahliab
open Go.ChangeShapes Go.WideShapes Go.ChangeAt Go.RowKit Go.Sx
namespace CcacheLivesProof
set_option maxRecDepth 100000 in
theorem walk (W : World) (v0 v1 v2 v3 v4 v5 : Value) (ls0 ls1 ls2 ls3 ls4 ls5 : List L)
    (t0 : Typ (tabF tab) 48 ls0) (t1 : Typ (tabF tab) 23 ls1) (t2 : Typ (tabF tab) 28 ls2) (t3 : Typ (tabF tab) 3 ls3) (t4 : Typ (tabF tab) 5 ls4) (t5 : Typ (tabF tab) 42 ls5)
    (r0 : RelC (fun _ => False) W noMu (argC (tabF tab 48).agg ls0) v0) (r1 : RelC (fun _ => False) W noMu (argC (tabF tab 23).agg ls1) v1) (r2 : RelC (fun _ => False) W noMu (argC (tabF tab 28).agg ls2) v2) (r3 : RelC (fun _ => False) W noMu (argC (tabF tab 3).agg ls3) v3) (r4 : RelC (fun _ => False) W noMu (argC (tabF tab 5).agg ls4) v4) (r5 : RelC (fun _ => False) W noMu (argC (tabF tab 42).agg ls5) v5) :
    Calls Try.prog 8 #[v0, v1, v2, v3, v4, v5] W fun e w' => e = .returned (.bool true) ∧ Below W.heap.size W w' := by
  obtain ⟨partsa0, rfl, hla0, hpa0⟩ := typ_struct t0 rfl
  obtain ⟨qa0_0, qa0_1, rfl⟩ : ∃ qa0_0 qa0_1, partsa0 = [qa0_0, qa0_1] := by
    match partsa0, hla0 with
    | [qa0_0, qa0_1], _ => exact ⟨qa0_0, qa0_1, rfl⟩
  have ta0_0 := hpa0 0 _ qa0_0 rfl rfl
  obtain ⟨partsa0_0, rfl, hla0_0, hpa0_0⟩ := typ_struct ta0_0 rfl
  obtain ⟨qa0_0_0, qa0_0_1, qa0_0_2, rfl⟩ : ∃ qa0_0_0 qa0_0_1 qa0_0_2, partsa0_0 = [qa0_0_0, qa0_0_1, qa0_0_2] := by
    match partsa0_0, hla0_0 with
    | [qa0_0_0, qa0_0_1, qa0_0_2], _ => exact ⟨qa0_0_0, qa0_0_1, qa0_0_2, rfl⟩
  have ta0_0_0 := hpa0_0 0 _ qa0_0_0 rfl rfl
  obtain ⟨a0_0_0, rfl⟩ := typ_str ta0_0_0 rfl
  have ta0_0_1 := hpa0_0 1 _ qa0_0_1 rfl rfl
  obtain ⟨a0_0_1, rfl⟩ := typ_str ta0_0_1 rfl
  have ta0_0_2 := hpa0_0 2 _ qa0_0_2 rfl rfl
  obtain ⟨a0_0_2, rfl⟩ := typ_str ta0_0_2 rfl
  have ta0_1 := hpa0 1 _ qa0_1 rfl rfl
  obtain ⟨a0_1, rfl, wa0_1⟩ := typ_slice ta0_1 rfl
  obtain ⟨a1, rfl⟩ := typ_bytes t1 rfl rfl
  obtain ⟨partsa2, rfl, hla2, hpa2⟩ := typ_struct t2 rfl
  obtain ⟨qa2_0, qa2_1, qa2_2, rfl⟩ : ∃ qa2_0 qa2_1 qa2_2, partsa2 = [qa2_0, qa2_1, qa2_2] := by
    match partsa2, hla2 with
    | [qa2_0, qa2_1, qa2_2], _ => exact ⟨qa2_0, qa2_1, qa2_2, rfl⟩
  have ta2_0 := hpa2 0 _ qa2_0 rfl rfl
  obtain ⟨a2_0, rfl⟩ := typ_str ta2_0 rfl
  have ta2_1 := hpa2 1 _ qa2_1 rfl rfl
  obtain ⟨a2_1, rfl⟩ := typ_str ta2_1 rfl
  have ta2_2 := hpa2 2 _ qa2_2 rfl rfl
  obtain ⟨a2_2, rfl⟩ := typ_str ta2_2 rfl
  obtain ⟨a3, rfl, wa3⟩ := typ_int t3 rfl
  obtain ⟨a4, rfl⟩ := typ_u8 t4 rfl
  obtain ⟨a5, rfl, wa5⟩ := typ_int t5 rfl
  exact calls_of_fn Try.func8 rfl rfl (c_CcacheLives a0_0_0 a0_0_1 a0_0_2 _ wa0_1 a1 a2_0 a2_1 a2_2 a3 a4 a5 (wf_u16 wa5)) (relCs_cons r0 (relCs_cons r1 (relCs_cons r2 (relCs_cons r3 (relCs_cons r4 (relCs_cons r5 relCs_nil))))))

set_option maxRecDepth 100000 in
theorem lifted (os : Os) (started : os.Started) (H : Type) (enc : TypeId × Value → H) :
    ReturnsInHanded {} Try.checked os 8 .any (Rows.ccacheLivesSpec.pre6 enc Try.prog Try.f8 Rows.ccacheLivesRow.domain false) (Rows.ccacheLivesSpec.post enc Try.prog Try.f8 false true false false) := by
  refine returnsInHanded_of_change (C := Try.checked) ownA started (by kernel_rfl) Try.func8
    (ChangeSpec.witness6 (enc := enc) (C := Try.checked) false ⟨#[], #[.agg #[.string ByteArray.empty, .string ByteArray.empty, .string ByteArray.empty, .slice none 0 0], .slice none 0 0, .agg #[.string ByteArray.empty, .string ByteArray.empty, .string ByteArray.empty], .int .i64 0, .int .u8 0, .int .u16 0], []⟩ 8 (by kernel_rfl) (by kernel_rfl) (by kernel_rfl) (by kernel_rfl)) ?_
  intro W base args ds gs before hval0 hW hcnd _
  have hval : ∀ (j : Nat) t v, Try.f8.params[j]? = some t → args[j]? = some v → Value.okWide Try.prog W .any base t v := hval0
  have hW' := hW
  obtain ⟨p, q, hA0, hV, rfl, hfz, hnd⟩ := hW
  have hA : DataW.TrodAll enc Try.prog W 0 (fun _ => true) true Try.f8.params.toList args.toList ds p := hA0
  rw [Try.params8] at hA hval
  obtain ⟨v0, vs0, d0, ds0, p0, q0, hargs, rfl, rfl, h0, r0⟩ := trodAll_cons hA
  obtain ⟨v1, vs1, d1, ds1, p1, q1, rfl, rfl, rfl, h1, r1⟩ := trodAll_cons r0
  obtain ⟨v2, vs2, d2, ds2, p2, q2, rfl, rfl, rfl, h2, r2⟩ := trodAll_cons r1
  obtain ⟨v3, vs3, d3, ds3, p3, q3, rfl, rfl, rfl, h3, r3⟩ := trodAll_cons r2
  obtain ⟨v4, vs4, d4, ds4, p4, q4, rfl, rfl, rfl, h4, r4⟩ := trodAll_cons r3
  obtain ⟨v5, vs5, d5, ds5, p5, q5, rfl, rfl, rfl, h5, r5⟩ := trodAll_cons r4
  obtain ⟨rfl, rfl, rfl⟩ := trodAll_nil r5
  obtain rfl : args = #[v0, v1, v2, v3, v4, v5] := by cases args; simp_all
  obtain ⟨rfl, rfl⟩ := trodVars_none hV
  obtain ⟨ls0, t0, c0⟩ := rel_arg tokA (n := 9) rfl h0 (hval 0 48 v0 rfl rfl)
  obtain ⟨ls1, t1, c1⟩ := rel_arg tokA (n := 9) rfl h1 (hval 1 23 v1 rfl rfl)
  obtain ⟨ls2, t2, c2⟩ := rel_arg tokA (n := 9) rfl h2 (hval 2 28 v2 rfl rfl)
  obtain ⟨ls3, t3, c3⟩ := rel_arg tokA (n := 9) rfl h3 (hval 3 3 v3 rfl rfl)
  obtain ⟨ls4, t4, c4⟩ := rel_arg tokA (n := 9) rfl h4 (hval 4 5 v4 rfl rfl)
  obtain ⟨ls5, t5, c5⟩ := rel_arg tokA (n := 9) rfl h5 (hval 5 42 v5 rfl rfl)
  have lt0 : ∀ x ∈ p0, x.block < W.heap.size := by obtain ⟨m, hm⟩ := h0; exact DataW.trod_lt m _ _ _ hm
  have lt1 : ∀ x ∈ p1, x.block < W.heap.size := by obtain ⟨m, hm⟩ := h1; exact DataW.trod_lt m _ _ _ hm
  have lt2 : ∀ x ∈ p2, x.block < W.heap.size := by obtain ⟨m, hm⟩ := h2; exact DataW.trod_lt m _ _ _ hm
  have lt3 : ∀ x ∈ p3, x.block < W.heap.size := by obtain ⟨m, hm⟩ := h3; exact DataW.trod_lt m _ _ _ hm
  have lt4 : ∀ x ∈ p4, x.block < W.heap.size := by obtain ⟨m, hm⟩ := h4; exact DataW.trod_lt m _ _ _ hm
  have lt5 : ∀ x ∈ p5, x.block < W.heap.size := by obtain ⟨m, hm⟩ := h5; exact DataW.trod_lt m _ _ _ hm
  clear hA0 hval0
  refine (walk W v0 v1 v2 v3 v4 v5 ls0 ls1 ls2 ls3 ls4 ls5 t0 t1 t2 t3 t4 t5 c0 c1 c2 c3 c4 c5).mono fun e W' ⟨he, bel⟩ => ?_
  subst he
  exact ⟨_, rfl, _, _, _, [], _, [], hW', trodAll_mk1 (shut_bool Try.underlying4 _), (trodAll_cons_mk (Below.trod laidOutA (by kernel_rfl) (of_decide_eq_true (by kernel_rfl)) h0 bel lt0) (trodAll_cons_mk (Below.trod laidOutA (by kernel_rfl) (of_decide_eq_true (by kernel_rfl)) h1 bel lt1) (trodAll_cons_mk (Below.trod laidOutA (by kernel_rfl) (of_decide_eq_true (by kernel_rfl)) h2 bel lt2) (trodAll_cons_mk (Below.trod laidOutA (by kernel_rfl) (of_decide_eq_true (by kernel_rfl)) h3 bel lt3) (trodAll_cons_mk (Below.trod laidOutA (by kernel_rfl) (of_decide_eq_true (by kernel_rfl)) h4 bel lt4) (trodAll_cons_mk (Below.trod laidOutA (by kernel_rfl) (of_decide_eq_true (by kernel_rfl)) h5 bel lt5) trodAll_mk0)))))), rfl, bel.frame _, fun h => by cases h⟩

theorem over : Rows.ccacheLivesRow.holds Try.pinned (OpenSpec.ofChange Rows.ccacheLivesSpec) :=
  OpenClaim.holds_of_wide 8 Try.f8 rfl rfl rfl rfl rfl rfl rfl ⟨rfl, rfl, rfl, rfl, rfl⟩ rfl rfl rfl rfl rfl (by kernel_rfl) Try.func8 (by kernel_rfl)
    (of_decide_eq_true (by kernel_rfl)) (by unfold Func.isWrapper; first | (rw [if_pos (by decide +kernel)]; kernel_rfl) | (rw [if_neg (by decide +kernel)]; exact ⟨rfl, rfl⟩))
    (fun os started H enc _ => lifted os started H enc)
end CcacheLivesProof

theorem ccacheLives_proved : Rows.CcacheLivesSaid := CcacheLivesProof.over
#print axioms ccacheLives_proved
end Go.Proofs.Ytcmcjiacpahliab

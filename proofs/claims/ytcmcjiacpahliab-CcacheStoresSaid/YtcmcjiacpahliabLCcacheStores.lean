/-
  The statement CcacheStores: the law returns true for every input; no conditions.
-/
import Derived.Test.YtcmcjiacpahliabCCcL
import Derived.Test.YtcmcjiacpahliabPCcF
import Derived.Test.YtcmcjiacpahliabLOwn
set_option linter.all false
namespace Go.Sx
open Go.Proofs Go.RowKit
noncomputable def g6 : Par := par 90 (nthLL [[1, 2, 4, 5, 6, 9], [1, 2, 4, 5, 6, 9, 22], [12], [1, 2, 4, 5, 6, 9, 40], [12], [2, 5, 6, 9, 13], [2, 6, 9, 13, 45], [2, 6, 9, 13], [2, 6, 9, 13, 14], [2, 6, 9, 13, 14, 49], [2, 6, 9, 13, 14], [2, 6, 9, 13, 14, 15], [2, 6, 9, 13, 14, 15, 16], [2, 6, 9, 13, 14, 15, 16, 17, 18], [2, 6, 9, 13, 14, 17, 18, 19, 20], [2, 6, 9, 13, 14, 89], [12], [12]]) [12] (nthLL [[], [], [], [], [], [], [], [], [], [], [], [], [0, 0, 2, 6, 14, 31, 0, 64, 255, 511, 0, 2047]])
set_option maxRecDepth 10000
set_option maxHeartbeats 16000000
theorem c_Credential0 (l : List UInt8) {m : Nat} (hm : m = l.length) (hl : l.length ≤ 900000) : Fn Try.prog 38 [.o (.p 1000 0)] [(1000, .st [.sl (l.map u8) m, .i .i64 0])] (.one (.c (.a [.s (credE l 0).x, .s (credE l 0).y, .s (credE l 0).z, .i .u64 (credE l 0).k, .i .i64 (credE l 0).lf, .i .i64 (credE l 0).kv, .i .i64 (credE l 0).is, .sl ((credE l 0).t.map u8) (credE l 0).t.length]))) [(1000, .st [.sl (l.map u8) m, .i .i64 (atS l (credP l 0))])] := by
  have c := c_Credential l hm hl 0
  rwa [show atS l 0 = 0 by simp [atS]] at c
/-- both ways of storing, and that they lead to the same -/
theorem st_pack (o1 o2 o3 : List UInt8) (l : List CR) (hl : l.length ≤ 1000) (ho : o1.length ≤ 1000 ∧ o2.length ≤ 1000 ∧ o3.length ≤ 1000) (hs : ∀ s ∈ l, crSm 1000 s) (Y : CR) (hY : crSm 1000 Y) : ∃ S : CcT × Int,
    Fn Try.prog 39 [.a [.s o1, .s o2, .s o3, .sl (flat crR l) l.length], .a [.s Y.x, .s Y.y, .s Y.z, .i .u64 Y.k, .i .i64 Y.lf, .i .i64 Y.kv, .i .i64 Y.is, .sl (Y.t.map u8) Y.t.length]] [] (.tup [.c (.a [.s S.1.1.1, .s S.1.1.2.1, .s S.1.1.2.2, .sl (flat crR S.1.2) S.1.2.length]), .c (.o (.i .i64 S.2))]) [] ∧
    Fn Try.prog 40 [.a [.s o1, .s o2, .s o3, .sl (flat crR l) l.length], .a [.s Y.x, .s Y.y, .s Y.z, .i .u64 Y.k, .i .i64 Y.lf, .i .i64 Y.kv, .i .i64 Y.is, .sl (Y.t.map u8) Y.t.length]] [] (.tup [.c (.a [.s S.1.1.1, .s S.1.1.2.1, .s S.1.1.2.2, .sl (flat crR S.1.2) S.1.2.length]), .c (.o (.i .i64 S.2))]) [] ∧
    Fn Try.prog 37 [.a [.s S.1.1.1, .s S.1.1.2.1, .s S.1.1.2.2, .sl (flat crR S.1.2) S.1.2.length], .a [.s S.1.1.1, .s S.1.1.2.1, .s S.1.1.2.2, .sl (flat crR S.1.2) S.1.2.length]] [] (.one (.c (.o (.b true)))) [] :=
  ⟨ccS o1 o2 o3 l Y, c_crStore o1 o2 o3 l rfl (by omega) ho hs Y.x Y.y Y.z Y.k Y.lf Y.kv Y.is Y.t rfl hY, c_rcrStore o1 o2 o3 l rfl (by omega) ho hs Y.x Y.y Y.z Y.k Y.lf Y.kv Y.is Y.t rfl hY, c_sameCc _ _ _ _ rfl rfl (Nat.le_trans (ccS_len o1 o2 o3 l Y) (by omega))⟩
theorem c_CcacheStores (o1 o2 o3 : List UInt8) (rows : List (List L)) (hrows : ∀ r ∈ rows, Typ (tabF tab) 55 r) (l m : List UInt8) (x y z : List UInt8) (k lf kv is : Int) (t : List UInt8) (hk : 0 ≤ k ∧ k ≤ 18446744073709551615) (hlf : i64R lf) (hkv : i64R kv) (his : i64R is) (w : UInt8) (f : Bool) : Fn Try.prog 6 [.a [.s o1, .s o2, .s o3, .sl rows.flatten rows.length], .o (.sl (l.map u8) l.length), .o (.sl (m.map u8) m.length), .a [.s x, .s y, .s z, .i .u64 k, .i .i64 lf, .i .i64 kv, .i .i64 is, .sl (t.map u8) t.length], .o (.i .u8 (w.toNat : Int)), .o (.b f)] [] (.one (.c (.o (.b true)))) [] := by
  obtain ⟨W, rfl, hW⟩ := cr_rows hrows
  rw [List.length_map]
  show Fn Try.prog _ [.a [.s o1, .s o2, .s o3, .sl (flat crR W) W.length], _, _, _, _, _] _ _ _
  have hw := byte_lt w
  have cl1 := c_long15 o1 o2 o3 W rfl
  have cl2 := c_long15 [] [] [] [⟨x, y, z, k, lf, kv, is, t⟩] (m := 1) rfl
  refine Fn_intro (G := g6) (goodA rfl) (fn := Try.f6) rfl rfl rfl rfl rfl ?_
  by_cases hlong : ccLg o1 o2 o3 W = true ∨ ccLg [] [] [] [⟨x, y, z, k, lf, kv, is, t⟩] = true ∨ l.length > 300 ∨ m.length > 60
  · generalize ccLg o1 o2 o3 W = A at *
    generalize ccLg [] [] [] [⟨x, y, z, k, lf, kv, is, t⟩] = B at *
    (repeat' ((conv => whnf) <;> first | exact rfl | with_reducible refine boolK_dec (fun _ => ?_) (fun _ => ?_) <;> try (exfalso; omega) | refine boolK_beq (fun _ => ?_) (fun _ => ?_) <;> try (exfalso; first | omega | contradiction) | refine boolK_bne (fun _ => ?_) (fun _ => ?_) <;> try (exfalso; first | omega | contradiction) | (with_reducible first | refine boolK_not ?_ | refine boolK_and ?_ | refine boolK_or ?_ | refine boolK_true ?_ | refine boolK_false ?_) | refine boolK_intro (fun _ => ?_) (fun _ => ?_) <;> try (exfalso; simp_all; done) | refine jA ?_ | refine jB ?_ | refine jC ?_ | refine jD ?_ | refine jE ?_ | refine jF ?_ | refine jG ?_ | refine jH ?_ | refine jI ?_ | refine jJ ?_ | refine jK ?_ | with_reducible refine natK_lit ?_ | refine natK_of rfl ?_ | refine natK_any ?_ | refine jL ?_ | refine jM ?_ | refine jN ?_ | refine jO ?_ | refine jP ?_ | refine jQ ?_ | refine jR ?_ | refine jS ?_ | refine jT ?_ | refine jU (fun _ => ?_) | refine jV ?_ | refine jW ?_ | refine jX ?_ | refine jY ?_ | refine jZ ?_ | refine ja ?_ | refine jb ?_ | refine jc ?_ | refine jd ?_ | refine je ?_ | refine jf ?_ | refine jg ?_ | refine jh ?_ | refine ji ?_ | refine jj ?_ | refine jk ?_ | refine jn ?_ | refine jo ?_ | refine jp ?_ | refine jq ?_ | refine jr ?_ | refine js ?_ | refine callK_intro (c_awake15) ?_ | refine callK_intro (cl1) ?_ | refine callK_intro (cl2) ?_ | refine jt ?_ | refine jx ?_ | refine jy ?_ | refine ju ?_ | refine jv ?_)) <;> (try (conv => whnf))
    all_goals (exfalso; rcases hlong with h | h | h <;> first | omega | (simp_all; done))
  · have f1 : ccLg o1 o2 o3 W = false := by cases h : ccLg o1 o2 o3 W with
      | true => exact absurd (.inl h) hlong
      | false => rfl
    have f2 : ccLg [] [] [] [(⟨x, y, z, k, lf, kv, is, t⟩ : CR)] = false := by cases h : ccLg [] [] [] [(⟨x, y, z, k, lf, kv, is, t⟩ : CR)] with
      | true => exact absurd (.inr (.inl h)) hlong
      | false => rfl
    have f3 : l.length ≤ 300 ∧ m.length ≤ 60 := by
      have : ¬ (l.length > 300 ∨ m.length > 60) := fun h => hlong (.inr (.inr h))
      omega
    rw [f1] at cl1
    rw [f2] at cl2
    obtain ⟨w1, w2⟩ := ccLg_is f1
    have hX : crSm 1000 ⟨x, y, z, k, lf, kv, is, t⟩ := by
      have := (ccLg_is f2).2 ⟨x, y, z, k, lf, kv, is, t⟩ (by simp)
      exact ⟨by omega, by omega, by omega, by omega, hk, hlf, hkv, his⟩
    have hWs : ∀ s ∈ W, crSm 1000 s := fun s hs => by
      have h1 := w2 s hs
      have h2 := hW s hs
      exact ⟨by omega, by omega, by omega, by omega, h2.1, h2.2.1, h2.2.2.1, h2.2.2.2⟩
    have cC := c_Cache l rfl (by omega) (w.toNat : Int) (by omega)
    have hG := cachS_good l
    have h9 := crGood_len hG
    have hs := crV_mem hG
    have hv := user_valid (w.toNat : Int) ((w.toNat : Int) / 3)
    have cF := c_full15 (userN (w.toNat : Int)) [] (realmN ((w.toNat : Int) / 3)) (cachS l) rfl (by omega)
    have hFs := ful_small hs
    have hFl := fulS_len (O := cachS l) (by omega)
    have cY := c_Credential0 m rfl (by omega)
    have hY : crSm 1000 (credE m 0) := cr_grow (by omega) (crV_small (credE_ok m 0).1)
    clear hG hlong f1 f2
    generalize userN (w.toNat : Int) = U at *
    generalize realmN ((w.toNat : Int) / 3) = R at *
    generalize fulS (cachS l) = O' at *
    generalize cachS l = O at *
    generalize credE m 0 = Y at *
    have hu : U.length ≤ 1000 ∧ ([] : List UInt8).length ≤ 1000 ∧ R.length ≤ 1000 := by have := valid_len hv; simp; omega
    obtain ⟨S1, a1, b1, q1⟩ := st_pack o1 o2 o3 W (by omega) (by omega) hWs ⟨x, y, z, k, lf, kv, is, t⟩ hX
    obtain ⟨S2, a2, b2, q2⟩ := st_pack o1 o2 o3 W (by omega) (by omega) hWs Y hY
    obtain ⟨S3, a3, b3, q3⟩ := st_pack U [] R O (by omega) hu hs ⟨x, y, z, k, lf, kv, is, t⟩ hX
    obtain ⟨S4, a4, b4, q4⟩ := st_pack U [] R O (by omega) hu hs Y hY
    obtain ⟨S5, a5, b5, q5⟩ := st_pack U [] R O' (by omega) hu hFs ⟨x, y, z, k, lf, kv, is, t⟩ hX
    obtain ⟨S6, a6, b6, q6⟩ := st_pack U [] R O' (by omega) hu hFs Y hY
    (repeat' ((conv => whnf) <;> first | with_reducible refine boolK_refl ?_ | refine natK_of (j := 0) (by omega) ?_ | refine natK_of (j := 1) (by omega) ?_ | exact rfl | with_reducible refine boolK_dec (fun _ => ?_) (fun _ => ?_) <;> try (exfalso; omega) | refine boolK_beq (fun _ => ?_) (fun _ => ?_) <;> try (exfalso; first | omega | contradiction) | refine boolK_bne (fun _ => ?_) (fun _ => ?_) <;> try (exfalso; first | omega | contradiction) | (with_reducible first | refine boolK_not ?_ | refine boolK_and ?_ | refine boolK_or ?_ | refine boolK_true ?_ | refine boolK_false ?_) | refine boolK_intro (fun _ => ?_) (fun _ => ?_) <;> try (exfalso; simp_all; done) | refine jA ?_ | refine jB ?_ | refine jC ?_ | refine jD ?_ | refine jE ?_ | refine jF ?_ | refine jG ?_ | refine jH ?_ | refine jI ?_ | refine jJ ?_ | refine jK ?_ | with_reducible refine natK_lit ?_ | refine natK_of rfl ?_ | refine natK_any ?_ | refine jL ?_ | refine jM ?_ | refine jN ?_ | refine jO ?_ | refine jP ?_ | refine jQ ?_ | refine jR ?_ | refine jS ?_ | refine jT ?_ | refine jU (fun _ => ?_) | refine jV ?_ | refine jW ?_ | refine jX ?_ | refine jY ?_ | refine jZ ?_ | refine ja ?_ | refine jb ?_ | refine jc ?_ | refine jd ?_ | refine je ?_ | refine jf ?_ | refine jg ?_ | refine jh ?_ | refine ji ?_ | refine jj ?_ | refine jk ?_ | refine jn ?_ | refine jo ?_ | refine jp ?_ | refine jq ?_ | refine jr ?_ | refine js ?_ | refine callK_intro (c_awake15) ?_ | refine callK_intro (cl1) ?_ | refine callK_intro (cl2) ?_ | refine callK_intro (cC) ?_ | refine callK_intro (cF) ?_ | refine callK_intro (cY) ?_ | refine callK_intro (a1) ?_ | refine callK_intro (b1) ?_ | refine callK_intro (q1) ?_ | refine callK_intro (a2) ?_ | refine callK_intro (b2) ?_ | refine callK_intro (q2) ?_ | refine callK_intro (a3) ?_ | refine callK_intro (b3) ?_ | refine callK_intro (q3) ?_ | refine callK_intro (a4) ?_ | refine callK_intro (b4) ?_ | refine callK_intro (q4) ?_ | refine callK_intro (a5) ?_ | refine callK_intro (b5) ?_ | refine callK_intro (q5) ?_ | refine callK_intro (a6) ?_ | refine callK_intro (b6) ?_ | refine callK_intro (q6) ?_ | refine loopK_step (G := g6) ?_ | refine jt ?_ | refine jx ?_ | refine jy ?_ | refine ju ?_ | refine jv ?_)) <;> (try (conv => whnf))
end Go.Sx
namespace Go.Proofs.Ytcmcjiacpahliab
open Go.ChangeShapes Go.WideShapes Go.ChangeAt Go.RowKit Go.Sx
namespace CcacheStoresProof
set_option maxRecDepth 100000 in
theorem walk (W : World) (v0 v1 v2 v3 v4 v5 : Value) (ls0 ls1 ls2 ls3 ls4 ls5 : List L)
    (t0 : Typ (tabF tab) 48 ls0) (t1 : Typ (tabF tab) 23 ls1) (t2 : Typ (tabF tab) 23 ls2) (t3 : Typ (tabF tab) 55 ls3) (t4 : Typ (tabF tab) 5 ls4) (t5 : Typ (tabF tab) 4 ls5)
    (r0 : RelC (fun _ => False) W noMu (argC (tabF tab 48).agg ls0) v0) (r1 : RelC (fun _ => False) W noMu (argC (tabF tab 23).agg ls1) v1) (r2 : RelC (fun _ => False) W noMu (argC (tabF tab 23).agg ls2) v2) (r3 : RelC (fun _ => False) W noMu (argC (tabF tab 55).agg ls3) v3) (r4 : RelC (fun _ => False) W noMu (argC (tabF tab 5).agg ls4) v4) (r5 : RelC (fun _ => False) W noMu (argC (tabF tab 4).agg ls5) v5) :
    Calls Try.prog 6 #[v0, v1, v2, v3, v4, v5] W fun e w' => e = .returned (.bool true) ∧ Below W.heap.size W w' := by
  obtain ⟨partsa0, rfl, hla0, hpa0⟩ := typ_struct t0 rfl
  obtain ⟨qa0_0, qa0_1, rfl⟩ : ∃ qa0_0 qa0_1, partsa0 = [qa0_0, qa0_1] := by
    match partsa0, hla0 with
    | [qa0_0, qa0_1], _ => exact ⟨qa0_0, qa0_1, rfl⟩
  have ta0_0 := hpa0 0 _ qa0_0 rfl rfl
  obtain ⟨partsa0_0, rfl, hla0_0, hpa0_0⟩ := typ_struct ta0_0 rfl
  obtain ⟨qa0_0_0, qa0_0_1, qa0_0_2, rfl⟩ : ∃ qa0_0_0 qa0_0_1 qa0_0_2, partsa0_0 = [qa0_0_0, qa0_0_1, qa0_0_2] := by
    match partsa0_0, hla0_0 with
    | [qa0_0_0, qa0_0_1, qa0_0_2], _ => exact ⟨qa0_0_0, qa0_0_1, qa0_0_2, rfl⟩
  have ta0_0_0 := hpa0_0 0 _ qa0_0_0 rfl rfl
  obtain ⟨a0_0_0, rfl⟩ := typ_str ta0_0_0 rfl
  have ta0_0_1 := hpa0_0 1 _ qa0_0_1 rfl rfl
  obtain ⟨a0_0_1, rfl⟩ := typ_str ta0_0_1 rfl
  have ta0_0_2 := hpa0_0 2 _ qa0_0_2 rfl rfl
  obtain ⟨a0_0_2, rfl⟩ := typ_str ta0_0_2 rfl
  have ta0_1 := hpa0 1 _ qa0_1 rfl rfl
  obtain ⟨a0_1, rfl, wa0_1⟩ := typ_slice ta0_1 rfl
  obtain ⟨a1, rfl⟩ := typ_bytes t1 rfl rfl
  obtain ⟨a2, rfl⟩ := typ_bytes t2 rfl rfl
  obtain ⟨partsa3, rfl, hla3, hpa3⟩ := typ_struct t3 rfl
  obtain ⟨qa3_0, qa3_1, qa3_2, qa3_3, qa3_4, qa3_5, rfl⟩ : ∃ qa3_0 qa3_1 qa3_2 qa3_3 qa3_4 qa3_5, partsa3 = [qa3_0, qa3_1, qa3_2, qa3_3, qa3_4, qa3_5] := by
    match partsa3, hla3 with
    | [qa3_0, qa3_1, qa3_2, qa3_3, qa3_4, qa3_5], _ => exact ⟨qa3_0, qa3_1, qa3_2, qa3_3, qa3_4, qa3_5, rfl⟩
  have ta3_0 := hpa3 0 _ qa3_0 rfl rfl
  obtain ⟨partsa3_0, rfl, hla3_0, hpa3_0⟩ := typ_struct ta3_0 rfl
  obtain ⟨qa3_0_0, qa3_0_1, qa3_0_2, rfl⟩ : ∃ qa3_0_0 qa3_0_1 qa3_0_2, partsa3_0 = [qa3_0_0, qa3_0_1, qa3_0_2] := by
    match partsa3_0, hla3_0 with
    | [qa3_0_0, qa3_0_1, qa3_0_2], _ => exact ⟨qa3_0_0, qa3_0_1, qa3_0_2, rfl⟩
  have ta3_0_0 := hpa3_0 0 _ qa3_0_0 rfl rfl
  obtain ⟨a3_0_0, rfl⟩ := typ_str ta3_0_0 rfl
  have ta3_0_1 := hpa3_0 1 _ qa3_0_1 rfl rfl
  obtain ⟨a3_0_1, rfl⟩ := typ_str ta3_0_1 rfl
  have ta3_0_2 := hpa3_0 2 _ qa3_0_2 rfl rfl
  obtain ⟨a3_0_2, rfl⟩ := typ_str ta3_0_2 rfl
  have ta3_1 := hpa3 1 _ qa3_1 rfl rfl
  obtain ⟨a3_1, rfl, wa3_1⟩ := typ_int ta3_1 rfl
  have ta3_2 := hpa3 2 _ qa3_2 rfl rfl
  obtain ⟨a3_2, rfl, wa3_2⟩ := typ_int ta3_2 rfl
  have ta3_3 := hpa3 3 _ qa3_3 rfl rfl
  obtain ⟨a3_3, rfl, wa3_3⟩ := typ_int ta3_3 rfl
  have ta3_4 := hpa3 4 _ qa3_4 rfl rfl
  obtain ⟨a3_4, rfl, wa3_4⟩ := typ_int ta3_4 rfl
  have ta3_5 := hpa3 5 _ qa3_5 rfl rfl
  obtain ⟨a3_5, rfl⟩ := typ_bytes ta3_5 rfl rfl
  obtain ⟨a4, rfl⟩ := typ_u8 t4 rfl
  obtain ⟨a5, rfl⟩ := typ_bool t5 rfl
  exact calls_of_fn Try.func6 rfl rfl (c_CcacheStores a0_0_0 a0_0_1 a0_0_2 _ wa0_1 a1 a2 a3_0_0 a3_0_1 a3_0_2 a3_1 a3_2 a3_3 a3_4 a3_5 (wf_u64 wa3_1) (wf_i64 wa3_2) (wf_i64 wa3_3) (wf_i64 wa3_4) a4 a5) (relCs_cons r0 (relCs_cons r1 (relCs_cons r2 (relCs_cons r3 (relCs_cons r4 (relCs_cons r5 relCs_nil))))))

set_option maxRecDepth 100000 in
theorem lifted (os : Os) (started : os.Started) (H : Type) (enc : TypeId × Value → H) :
    ReturnsInHanded {} Try.checked os 6 .any (Rows.ccacheStoresSpec.pre6 enc Try.prog Try.f6 Rows.ccacheStoresRow.domain false) (Rows.ccacheStoresSpec.post enc Try.prog Try.f6 false true false false) := by
  refine returnsInHanded_of_change (C := Try.checked) ownA started (by kernel_rfl) Try.func6
    (ChangeSpec.witness6 (enc := enc) (C := Try.checked) false ⟨#[], #[.agg #[.string ByteArray.empty, .string ByteArray.empty, .string ByteArray.empty, .slice none 0 0], .slice none 0 0, .slice none 0 0, .agg #[.string ByteArray.empty, .string ByteArray.empty, .string ByteArray.empty, .int .u64 0, .int .i64 0, .int .i64 0, .int .i64 0, .slice none 0 0], .int .u8 0, .bool false], []⟩ 8 (by kernel_rfl) (by kernel_rfl) (by kernel_rfl) (by kernel_rfl)) ?_
  intro W base args ds gs before hval0 hW hcnd _
  have hval : ∀ (j : Nat) t v, Try.f6.params[j]? = some t → args[j]? = some v → Value.okWide Try.prog W .any base t v := hval0
  have hW' := hW
  obtain ⟨p, q, hA0, hV, rfl, hfz, hnd⟩ := hW
  have hA : DataW.TrodAll enc Try.prog W 0 (fun _ => true) true Try.f6.params.toList args.toList ds p := hA0
  rw [Try.params6] at hA hval
  obtain ⟨v0, vs0, d0, ds0, p0, q0, hargs, rfl, rfl, h0, r0⟩ := trodAll_cons hA
  obtain ⟨v1, vs1, d1, ds1, p1, q1, rfl, rfl, rfl, h1, r1⟩ := trodAll_cons r0
  obtain ⟨v2, vs2, d2, ds2, p2, q2, rfl, rfl, rfl, h2, r2⟩ := trodAll_cons r1
  obtain ⟨v3, vs3, d3, ds3, p3, q3, rfl, rfl, rfl, h3, r3⟩ := trodAll_cons r2
  obtain ⟨v4, vs4, d4, ds4, p4, q4, rfl, rfl, rfl, h4, r4⟩ := trodAll_cons r3
  obtain ⟨v5, vs5, d5, ds5, p5, q5, rfl, rfl, rfl, h5, r5⟩ := trodAll_cons r4
  obtain ⟨rfl, rfl, rfl⟩ := trodAll_nil r5
  obtain rfl : args = #[v0, v1, v2, v3, v4, v5] := by cases args; simp_all
  obtain ⟨rfl, rfl⟩ := trodVars_none hV
  obtain ⟨ls0, t0, c0⟩ := rel_arg tokA (n := 9) rfl h0 (hval 0 48 v0 rfl rfl)
  obtain ⟨ls1, t1, c1⟩ := rel_arg tokA (n := 9) rfl h1 (hval 1 23 v1 rfl rfl)
  obtain ⟨ls2, t2, c2⟩ := rel_arg tokA (n := 9) rfl h2 (hval 2 23 v2 rfl rfl)
  obtain ⟨ls3, t3, c3⟩ := rel_arg tokA (n := 9) rfl h3 (hval 3 55 v3 rfl rfl)
  obtain ⟨ls4, t4, c4⟩ := rel_arg tokA (n := 9) rfl h4 (hval 4 5 v4 rfl rfl)
  obtain ⟨ls5, t5, c5⟩ := rel_arg tokA (n := 9) rfl h5 (hval 5 4 v5 rfl rfl)
  have lt0 : ∀ x ∈ p0, x.block < W.heap.size := by obtain ⟨m, hm⟩ := h0; exact DataW.trod_lt m _ _ _ hm
  have lt1 : ∀ x ∈ p1, x.block < W.heap.size := by obtain ⟨m, hm⟩ := h1; exact DataW.trod_lt m _ _ _ hm
  have lt2 : ∀ x ∈ p2, x.block < W.heap.size := by obtain ⟨m, hm⟩ := h2; exact DataW.trod_lt m _ _ _ hm
  have lt3 : ∀ x ∈ p3, x.block < W.heap.size := by obtain ⟨m, hm⟩ := h3; exact DataW.trod_lt m _ _ _ hm
  have lt4 : ∀ x ∈ p4, x.block < W.heap.size := by obtain ⟨m, hm⟩ := h4; exact DataW.trod_lt m _ _ _ hm
  have lt5 : ∀ x ∈ p5, x.block < W.heap.size := by obtain ⟨m, hm⟩ := h5; exact DataW.trod_lt m _ _ _ hm
  clear hA0 hval0
  refine (walk W v0 v1 v2 v3 v4 v5 ls0 ls1 ls2 ls3 ls4 ls5 t0 t1 t2 t3 t4 t5 c0 c1 c2 c3 c4 c5).mono fun e W' ⟨he, bel⟩ => ?_
  subst he
  exact ⟨_, rfl, _, _, _, [], _, [], hW', trodAll_mk1 (shut_bool Try.underlying4 _), (trodAll_cons_mk (Below.trod laidOutA (by kernel_rfl) (of_decide_eq_true (by kernel_rfl)) h0 bel lt0) (trodAll_cons_mk (Below.trod laidOutA (by kernel_rfl) (of_decide_eq_true (by kernel_rfl)) h1 bel lt1) (trodAll_cons_mk (Below.trod laidOutA (by kernel_rfl) (of_decide_eq_true (by kernel_rfl)) h2 bel lt2) (trodAll_cons_mk (Below.trod laidOutA (by kernel_rfl) (of_decide_eq_true (by kernel_rfl)) h3 bel lt3) (trodAll_cons_mk (Below.trod laidOutA (by kernel_rfl) (of_decide_eq_true (by kernel_rfl)) h4 bel lt4) (trodAll_cons_mk (Below.trod laidOutA (by kernel_rfl) (of_decide_eq_true (by kernel_rfl)) h5 bel lt5) trodAll_mk0)))))), rfl, bel.frame _, fun h => by cases h⟩

theorem over : Rows.ccacheStoresRow.holds Try.pinned (OpenSpec.ofChange Rows.ccacheStoresSpec) :=
  OpenClaim.holds_of_wide 6 Try.f6 rfl rfl rfl rfl rfl rfl rfl ⟨rfl, rfl, rfl, rfl, rfl⟩ rfl rfl rfl rfl rfl (by kernel_rfl) Try.func6 (by kernel_rfl)
    (of_decide_eq_true (by kernel_rfl)) (by unfold Func.isWrapper; first | (rw [if_pos (by decide +kernel)]; kernel_rfl) | (rw [if_neg (by decide +kernel)]; exact ⟨rfl, rfl⟩))
    (fun os started H enc _ => lifted os started H enc)
end CcacheStoresProof

theorem ccacheStores_proved : Rows.CcacheStoresSaid := CcacheStoresProof.over
#print axioms ccacheStores_proved
end Go.Proofs.Ytcmcjiacpahliab

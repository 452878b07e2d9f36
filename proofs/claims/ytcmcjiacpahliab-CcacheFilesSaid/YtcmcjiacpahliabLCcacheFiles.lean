/-
  The statement CcacheFiles: the law returns true for every input; no conditions.
-/
import Derived.Test.YtcmcjiacpahliabCCcL
import Derived.Test.YtcmcjiacpahliabCCcG
import Derived.Test.YtcmcjiacpahliabPCcF
import Derived.Test.YtcmcjiacpahliabLOwn
set_option linter.all false
namespace Go.Sx
open Go.Proofs Go.RowKit
noncomputable def g10 : Par := par 116 (nthLL [[1, 2, 3, 4, 5], [1, 2, 3, 4, 5, 24], [10], [1, 2, 3, 4, 5, 36], [10], [1, 2, 3, 4, 5, 11], [1, 2, 3, 4, 5, 11, 38], [1, 2, 3, 4, 5, 11], [1, 2, 3, 4, 5, 11, 12], [1, 2, 3, 4, 5, 11, 12, 13, 14], [1, 2, 3, 4, 5, 11, 12, 13, 14, 15, 16], [1, 2, 3, 4, 5, 11, 12, 14, 15, 69], [10], [1, 2, 3, 4, 5, 11, 12, 14, 15, 17], [1, 2, 3, 4, 5, 11, 12, 14, 15, 17, 71], [1, 2, 3, 4, 5, 11, 12, 14, 15, 17], [1, 2, 3, 4, 5, 11, 12, 14, 15, 17, 18], [1, 2, 3, 4, 5, 11, 12, 14, 15, 17, 18, 19, 20], [1, 2, 3, 4, 5, 11, 12, 14, 15, 17, 19, 20, 21, 22], [1, 2, 3, 4, 5, 11, 12, 14, 15, 17, 115], [10], [10]]) [10] (nthLL [[], [], [], [], [], [], [], [], [0, 0, 0, 4, 14, 31, 0, 127, 255, 0, 1023]])
set_option maxRecDepth 10000
set_option maxHeartbeats 16000000
/-- both decoders at some bytes, and that they say the same -/
theorem de_pack (b : List UInt8) (hb : b.length ≤ 80000) : ∃ D : CcT × Int,
    Fn Try.prog 52 [.o (.sl (b.map u8) b.length)] [] (.tup [.c (.a [.s D.1.1.1, .s D.1.1.2.1, .s D.1.1.2.2, .sl (flat crR D.1.2) D.1.2.length]), .c (.o (.i .i64 D.2))]) [] ∧
    Fn Try.prog 53 [.o (.sl (b.map u8) b.length)] [] (.tup [.c (.a [.s D.1.1.1, .s D.1.1.2.1, .s D.1.1.2.2, .sl (flat crR D.1.2) D.1.2.length]), .c (.o (.i .i64 D.2))]) [] ∧
    Fn Try.prog 37 [.a [.s D.1.1.1, .s D.1.1.2.1, .s D.1.1.2.2, .sl (flat crR D.1.2) D.1.2.length], .a [.s D.1.1.1, .s D.1.1.2.1, .s D.1.1.2.2, .sl (flat crR D.1.2) D.1.2.length]] [] (.one (.c (.o (.b true)))) [] :=
  ⟨ccD b, c_crDecode b rfl (by omega) (fun k => crRd_small b k hb), c_rcrDecode b rfl (by omega) (fun k => crQr_small b k false hb), c_sameCc _ _ _ _ rfl rfl (Nat.le_trans (ccD_len b) (by omega))⟩
/-- .. at an encoding -/
theorem tr_pack (o1 o2 o3 : List UInt8) (l : List CR) (h : (ccN ((o1, o2, o3), l)).2 = 0) :
    Fn Try.prog 52 [.o (.sl ((ccN ((o1, o2, o3), l)).1.map u8) (ccN ((o1, o2, o3), l)).1.length)] [] (.tup [.c (.a [.s o1, .s o2, .s o3, .sl (flat crR l) l.length]), .c (.o (.i .i64 0))]) [] ∧
    Fn Try.prog 53 [.o (.sl ((ccN ((o1, o2, o3), l)).1.map u8) (ccN ((o1, o2, o3), l)).1.length)] [] (.tup [.c (.a [.s o1, .s o2, .s o3, .sl (flat crR l) l.length]), .c (.o (.i .i64 0))]) [] := by
  have hl := ccN_len ((o1, o2, o3), l)
  have c1 := c_crDecode (ccN ((o1, o2, o3), l)).1 rfl (by omega) (fun k => crRd_small _ k (by omega))
  have c2 := c_rcrDecode (ccN ((o1, o2, o3), l)).1 rfl (by omega) (fun k => crQr_small _ k false (by omega))
  rw [ccD_trip h] at c1 c2
  exact ⟨c1, c2⟩
theorem c_CcacheFiles (o1 o2 o3 : List UInt8) (rows : List (List L)) (hrows : ∀ r ∈ rows, Typ (tabF tab) 55 r) (l : List UInt8) (w : UInt8) (b : List UInt8) (h : Int) (hh : 0 ≤ h ∧ h ≤ 65535) : Fn Try.prog 10 [.a [.s o1, .s o2, .s o3, .sl rows.flatten rows.length], .o (.sl (l.map u8) l.length), .o (.i .u8 (w.toNat : Int)), .o (.sl (b.map u8) b.length), .o (.i .u16 h)] [] (.one (.c (.o (.b true)))) [] := by
  obtain ⟨W, rfl, hW⟩ := cr_rows hrows
  rw [List.length_map]
  show Fn Try.prog _ [.a [.s o1, .s o2, .s o3, .sl (flat crR W) W.length], _, _, _, _] _ _ _
  have hw := byte_lt w
  have cl1 := c_long15 o1 o2 o3 W rfl
  refine Fn_intro (G := g10) (goodA rfl) (fn := Try.f10) rfl rfl rfl rfl rfl ?_
  by_cases hlong : ccLg o1 o2 o3 W = true ∨ l.length > 300 ∨ b.length > 400
  · generalize ccLg o1 o2 o3 W = A at *
    (repeat' ((conv => whnf) <;> first | exact rfl | with_reducible refine boolK_dec (fun _ => ?_) (fun _ => ?_) <;> try (exfalso; omega) | refine boolK_beq (fun _ => ?_) (fun _ => ?_) <;> try (exfalso; first | omega | contradiction) | refine boolK_bne (fun _ => ?_) (fun _ => ?_) <;> try (exfalso; first | omega | contradiction) | (with_reducible first | refine boolK_not ?_ | refine boolK_and ?_ | refine boolK_or ?_ | refine boolK_true ?_ | refine boolK_false ?_) | refine boolK_intro (fun _ => ?_) (fun _ => ?_) <;> try (exfalso; simp_all; done) | refine jA ?_ | refine jB ?_ | refine jC ?_ | refine jD ?_ | refine jE ?_ | refine jF ?_ | refine jG ?_ | refine jH ?_ | refine jI ?_ | refine jJ ?_ | refine jK ?_ | with_reducible refine natK_lit ?_ | refine natK_of rfl ?_ | refine natK_any ?_ | refine jP ?_ | refine jQ ?_ | refine jR ?_ | refine jS ?_ | refine jT ?_ | refine jU (fun _ => ?_) | refine jV ?_ | refine jW ?_ | refine jX ?_ | refine jY ?_ | refine jZ ?_ | refine ja ?_ | refine jb ?_ | refine jc ?_ | refine jd ?_ | refine je ?_ | refine jf ?_ | refine jg ?_ | refine jh ?_ | refine ji ?_ | refine jj ?_ | refine jk ?_ | refine jn ?_ | refine jo ?_ | refine jp ?_ | refine jq ?_ | refine jr ?_ | refine js ?_ | refine callK_intro (c_awake15) ?_ | refine callK_intro (cl1) ?_ | refine jt ?_ | refine jx ?_ | refine jy ?_ | refine ju ?_ | refine jv ?_)) <;> (try (conv => whnf))
    all_goals (exfalso; rcases hlong with h | h <;> first | omega | (simp_all; done))
  · have f1 : ccLg o1 o2 o3 W = false := by cases h : ccLg o1 o2 o3 W with
      | true => exact absurd (.inl h) hlong
      | false => rfl
    have f3 : l.length ≤ 300 ∧ b.length ≤ 400 := by
      have : ¬ (l.length > 300 ∨ b.length > 400) := fun h => hlong (.inr h)
      omega
    rw [f1] at cl1
    obtain ⟨w1, w2⟩ := ccLg_is f1
    have hWs : ∀ s ∈ W, crSm 90000 s := fun s hs => by
      have h1 := w2 s hs
      have h2 := hW s hs
      exact ⟨by omega, by omega, by omega, by omega, h2.1, h2.2.1, h2.2.2.1, h2.2.2.2⟩
    have cC := c_Cache l rfl (by omega) (w.toNat : Int) (by omega)
    have hG := cachS_good l
    have h9 := crGood_len hG
    have hs := crV_mem hG
    have hv := user_valid (w.toNat : Int) ((w.toNat : Int) / 3)
    generalize userN (w.toNat : Int) = U at *
    generalize realmN ((w.toNat : Int) / 3) = R at *
    generalize cachS l = O at *
    have hu : U.length ≤ 1000 ∧ ([] : List UInt8).length ≤ 1000 ∧ R.length ≤ 1000 := by have := valid_len hv; simp; omega
    have e1 := c_crEncode o1 o2 o3 W rfl (by omega) (by omega) hWs
    have e2 := c_rcrEncode o1 o2 o3 W rfl (by omega) (by omega) hWs
    have e3 := c_crEncode U [] R O rfl (by omega) hu hs
    have e4 := c_rcrEncode U [] R O rfl (by omega) hu hs
    have hN0 : (ccN ((U, [], R), O)).2 = 0 := by rw [ccN_ok (crGood_C hv hG)]
    obtain ⟨t3, t4⟩ := tr_pack U [] R O hN0
    have tW := tr_pack o1 o2 o3 W
    have n1 := ccN_len ((o1, o2, o3), W)
    have n2 := ccN_len ((U, [], R), O)
    have s1 := c_sameCc o1 o2 o3 W rfl rfl (by omega)
    have s2 := c_sameCc U [] R O rfl rfl (by omega)
    clear hG hlong f1
    generalize ccN ((U, [], R), O) = N2 at *
    generalize ccN ((o1, o2, o3), W) = N1 at *
    obtain ⟨r1, b1, p1⟩ := c_Spoil N1.1 rfl (by omega) h hh
    obtain ⟨r2, b2, p2⟩ := c_Spoil N2.1 rfl (by omega) h hh
    obtain ⟨D1, x1, y1, q1⟩ := de_pack N1.1 (by omega)
    obtain ⟨D2, x2, y2, q2⟩ := de_pack b (by omega)
    obtain ⟨D3, x3, y3, q3⟩ := de_pack r1 (by omega)
    obtain ⟨D4, x4, y4, q4⟩ := de_pack r2 (by omega)
    by_cases hN : N1.2 = 0
    · obtain ⟨t1, t2⟩ := tW hN
      clear x1 y1 q1 tW
      (repeat' ((conv => whnf) <;> first | with_reducible refine boolK_refl ?_ | refine natK_of (j := 0) (by omega) ?_ | refine natK_of (j := 1) (by omega) ?_ | refine natK_of (j := 2) (by omega) ?_ | exact rfl | with_reducible refine boolK_dec (fun _ => ?_) (fun _ => ?_) <;> try (exfalso; omega) | refine boolK_beq (fun _ => ?_) (fun _ => ?_) <;> try (exfalso; first | omega | contradiction) | refine boolK_bne (fun _ => ?_) (fun _ => ?_) <;> try (exfalso; first | omega | contradiction) | (with_reducible first | refine boolK_not ?_ | refine boolK_and ?_ | refine boolK_or ?_ | refine boolK_true ?_ | refine boolK_false ?_) | refine boolK_intro (fun _ => ?_) (fun _ => ?_) <;> try (exfalso; simp_all; done) | refine jA ?_ | refine jB ?_ | refine jC ?_ | refine jD ?_ | refine jE ?_ | refine jF ?_ | refine jG ?_ | refine jH ?_ | refine jI ?_ | refine jJ ?_ | refine jK ?_ | with_reducible refine natK_lit ?_ | refine natK_of rfl ?_ | refine natK_any ?_ | refine jP ?_ | refine jQ ?_ | refine jR ?_ | refine jS ?_ | refine jT ?_ | refine jU (fun _ => ?_) | refine jV ?_ | refine jW ?_ | refine jX ?_ | refine jY ?_ | refine jZ ?_ | refine ja ?_ | refine jb ?_ | refine jc ?_ | refine jd ?_ | refine je ?_ | refine jf ?_ | refine jg ?_ | refine jh ?_ | refine ji ?_ | refine jj ?_ | refine jk ?_ | refine jn ?_ | refine jo ?_ | refine jp ?_ | refine jq ?_ | refine jr ?_ | refine js ?_ | refine callK_intro (c_awake15) ?_ | refine callK_intro (cl1) ?_ | refine callK_intro (cC) ?_ | refine callK_intro (e1) ?_ | refine callK_intro (e2) ?_ | refine callK_intro (e3) ?_ | refine callK_intro (e4) ?_ | refine callK_intro (t1) ?_ | refine callK_intro (t2) ?_ | refine callK_intro (t3) ?_ | refine callK_intro (t4) ?_ | refine callK_intro (s1) ?_ | refine callK_intro (s2) ?_ | refine callK_intro (p1) ?_ | refine callK_intro (p2) ?_ | refine callK_intro (x2) ?_ | refine callK_intro (y2) ?_ | refine callK_intro (q2) ?_ | refine callK_intro (x3) ?_ | refine callK_intro (y3) ?_ | refine callK_intro (q3) ?_ | refine callK_intro (x4) ?_ | refine callK_intro (y4) ?_ | refine callK_intro (q4) ?_ | refine loopK_step (G := g10) ?_ | refine jt ?_ | refine jx ?_ | refine jy ?_ | refine ju ?_ | refine jv ?_)) <;> (try (conv => whnf))
    · clear tW
      (repeat' ((conv => whnf) <;> first | with_reducible refine boolK_refl ?_ | refine natK_of (j := 0) (by omega) ?_ | refine natK_of (j := 1) (by omega) ?_ | refine natK_of (j := 2) (by omega) ?_ | exact rfl | with_reducible refine boolK_dec (fun _ => ?_) (fun _ => ?_) <;> try (exfalso; omega) | refine boolK_beq (fun _ => ?_) (fun _ => ?_) <;> try (exfalso; first | omega | contradiction) | refine boolK_bne (fun _ => ?_) (fun _ => ?_) <;> try (exfalso; first | omega | contradiction) | (with_reducible first | refine boolK_not ?_ | refine boolK_and ?_ | refine boolK_or ?_ | refine boolK_true ?_ | refine boolK_false ?_) | refine boolK_intro (fun _ => ?_) (fun _ => ?_) <;> try (exfalso; simp_all; done) | refine jA ?_ | refine jB ?_ | refine jC ?_ | refine jD ?_ | refine jE ?_ | refine jF ?_ | refine jG ?_ | refine jH ?_ | refine jI ?_ | refine jJ ?_ | refine jK ?_ | with_reducible refine natK_lit ?_ | refine natK_of rfl ?_ | refine natK_any ?_ | refine jP ?_ | refine jQ ?_ | refine jR ?_ | refine jS ?_ | refine jT ?_ | refine jU (fun _ => ?_) | refine jV ?_ | refine jW ?_ | refine jX ?_ | refine jY ?_ | refine jZ ?_ | refine ja ?_ | refine jb ?_ | refine jc ?_ | refine jd ?_ | refine je ?_ | refine jf ?_ | refine jg ?_ | refine jh ?_ | refine ji ?_ | refine jj ?_ | refine jk ?_ | refine jn ?_ | refine jo ?_ | refine jp ?_ | refine jq ?_ | refine jr ?_ | refine js ?_ | refine callK_intro (c_awake15) ?_ | refine callK_intro (cl1) ?_ | refine callK_intro (cC) ?_ | refine callK_intro (e1) ?_ | refine callK_intro (e2) ?_ | refine callK_intro (e3) ?_ | refine callK_intro (e4) ?_ | refine callK_intro (t3) ?_ | refine callK_intro (t4) ?_ | refine callK_intro (s1) ?_ | refine callK_intro (s2) ?_ | refine callK_intro (p1) ?_ | refine callK_intro (p2) ?_ | refine callK_intro (x1) ?_ | refine callK_intro (y1) ?_ | refine callK_intro (q1) ?_ | refine callK_intro (x2) ?_ | refine callK_intro (y2) ?_ | refine callK_intro (q2) ?_ | refine callK_intro (x3) ?_ | refine callK_intro (y3) ?_ | refine callK_intro (q3) ?_ | refine callK_intro (x4) ?_ | refine callK_intro (y4) ?_ | refine callK_intro (q4) ?_ | refine loopK_step (G := g10) ?_ | refine jt ?_ | refine jx ?_ | refine jy ?_ | refine ju ?_ | refine jv ?_)) <;> (try (conv => whnf))
end Go.Sx
namespace Go.Proofs.Ytcmcjiacpahliab
open Go.ChangeShapes Go.WideShapes Go.ChangeAt Go.RowKit Go.Sx
namespace CcacheFilesProof
set_option maxRecDepth 100000 in
theorem walk (W : World) (v0 v1 v2 v3 v4 : Value) (ls0 ls1 ls2 ls3 ls4 : List L)
    (t0 : Typ (tabF tab) 48 ls0) (t1 : Typ (tabF tab) 23 ls1) (t2 : Typ (tabF tab) 5 ls2) (t3 : Typ (tabF tab) 23 ls3) (t4 : Typ (tabF tab) 42 ls4)
    (r0 : RelC (fun _ => False) W noMu (argC (tabF tab 48).agg ls0) v0) (r1 : RelC (fun _ => False) W noMu (argC (tabF tab 23).agg ls1) v1) (r2 : RelC (fun _ => False) W noMu (argC (tabF tab 5).agg ls2) v2) (r3 : RelC (fun _ => False) W noMu (argC (tabF tab 23).agg ls3) v3) (r4 : RelC (fun _ => False) W noMu (argC (tabF tab 42).agg ls4) v4) :
    Calls Try.prog 10 #[v0, v1, v2, v3, v4] W fun e w' => e = .returned (.bool true) ∧ Below W.heap.size W w' := by
  obtain ⟨partsa0, rfl, hla0, hpa0⟩ := typ_struct t0 rfl
  obtain ⟨qa0_0, qa0_1, rfl⟩ : ∃ qa0_0 qa0_1, partsa0 = [qa0_0, qa0_1] := by
    match partsa0, hla0 with
    | [qa0_0, qa0_1], _ => exact ⟨qa0_0, qa0_1, rfl⟩
  have ta0_0 := hpa0 0 _ qa0_0 rfl rfl
  obtain ⟨partsa0_0, rfl, hla0_0, hpa0_0⟩ := typ_struct ta0_0 rfl
  obtain ⟨qa0_0_0, qa0_0_1, qa0_0_2, rfl⟩ : ∃ qa0_0_0 qa0_0_1 qa0_0_2, partsa0_0 = [qa0_0_0, qa0_0_1, qa0_0_2] := by
    match partsa0_0, hla0_0 with
    | [qa0_0_0, qa0_0_1, qa0_0_2], _ => exact ⟨qa0_0_0, qa0_0_1, qa0_0_2, rfl⟩
  have ta0_0_0 := hpa0_0 0 _ qa0_0_0 rfl rfl
  obtain ⟨a0_0_0, rfl⟩ := typ_str ta0_0_0 rfl
  have ta0_0_1 := hpa0_0 1 _ qa0_0_1 rfl rfl
  obtain ⟨a0_0_1, rfl⟩ := typ_str ta0_0_1 rfl
  have ta0_0_2 := hpa0_0 2 _ qa0_0_2 rfl rfl
  obtain ⟨a0_0_2, rfl⟩ := typ_str ta0_0_2 rfl
  have ta0_1 := hpa0 1 _ qa0_1 rfl rfl
  obtain ⟨a0_1, rfl, wa0_1⟩ := typ_slice ta0_1 rfl
  obtain ⟨a1, rfl⟩ := typ_bytes t1 rfl rfl
  obtain ⟨a2, rfl⟩ := typ_u8 t2 rfl
  obtain ⟨a3, rfl⟩ := typ_bytes t3 rfl rfl
  obtain ⟨a4, rfl, wa4⟩ := typ_int t4 rfl
  exact calls_of_fn Try.func10 rfl rfl (c_CcacheFiles a0_0_0 a0_0_1 a0_0_2 _ wa0_1 a1 a2 a3 a4 (wf_u16 wa4)) (relCs_cons r0 (relCs_cons r1 (relCs_cons r2 (relCs_cons r3 (relCs_cons r4 relCs_nil)))))

set_option maxRecDepth 100000 in
theorem lifted (os : Os) (started : os.Started) (H : Type) (enc : TypeId × Value → H) :
    ReturnsInHanded {} Try.checked os 10 .any (Rows.ccacheFilesSpec.pre6 enc Try.prog Try.f10 Rows.ccacheFilesRow.domain false) (Rows.ccacheFilesSpec.post enc Try.prog Try.f10 false true false false) := by
  refine returnsInHanded_of_change (C := Try.checked) ownA started (by kernel_rfl) Try.func10
    (ChangeSpec.witness6 (enc := enc) (C := Try.checked) false ⟨#[], #[.agg #[.string ByteArray.empty, .string ByteArray.empty, .string ByteArray.empty, .slice none 0 0], .slice none 0 0, .int .u8 0, .slice none 0 0, .int .u16 0], []⟩ 8 (by kernel_rfl) (by kernel_rfl) (by kernel_rfl) (by kernel_rfl)) ?_
  intro W base args ds gs before hval0 hW hcnd _
  have hval : ∀ (j : Nat) t v, Try.f10.params[j]? = some t → args[j]? = some v → Value.okWide Try.prog W .any base t v := hval0
  have hW' := hW
  obtain ⟨p, q, hA0, hV, rfl, hfz, hnd⟩ := hW
  have hA : DataW.TrodAll enc Try.prog W 0 (fun _ => true) true Try.f10.params.toList args.toList ds p := hA0
  rw [Try.params10] at hA hval
  obtain ⟨v0, vs0, d0, ds0, p0, q0, hargs, rfl, rfl, h0, r0⟩ := trodAll_cons hA
  obtain ⟨v1, vs1, d1, ds1, p1, q1, rfl, rfl, rfl, h1, r1⟩ := trodAll_cons r0
  obtain ⟨v2, vs2, d2, ds2, p2, q2, rfl, rfl, rfl, h2, r2⟩ := trodAll_cons r1
  obtain ⟨v3, vs3, d3, ds3, p3, q3, rfl, rfl, rfl, h3, r3⟩ := trodAll_cons r2
  obtain ⟨v4, vs4, d4, ds4, p4, q4, rfl, rfl, rfl, h4, r4⟩ := trodAll_cons r3
  obtain ⟨rfl, rfl, rfl⟩ := trodAll_nil r4
  obtain rfl : args = #[v0, v1, v2, v3, v4] := by cases args; simp_all
  obtain ⟨rfl, rfl⟩ := trodVars_none hV
  obtain ⟨ls0, t0, c0⟩ := rel_arg tokA (n := 9) rfl h0 (hval 0 48 v0 rfl rfl)
  obtain ⟨ls1, t1, c1⟩ := rel_arg tokA (n := 9) rfl h1 (hval 1 23 v1 rfl rfl)
  obtain ⟨ls2, t2, c2⟩ := rel_arg tokA (n := 9) rfl h2 (hval 2 5 v2 rfl rfl)
  obtain ⟨ls3, t3, c3⟩ := rel_arg tokA (n := 9) rfl h3 (hval 3 23 v3 rfl rfl)
  obtain ⟨ls4, t4, c4⟩ := rel_arg tokA (n := 9) rfl h4 (hval 4 42 v4 rfl rfl)
  have lt0 : ∀ x ∈ p0, x.block < W.heap.size := by obtain ⟨m, hm⟩ := h0; exact DataW.trod_lt m _ _ _ hm
  have lt1 : ∀ x ∈ p1, x.block < W.heap.size := by obtain ⟨m, hm⟩ := h1; exact DataW.trod_lt m _ _ _ hm
  have lt2 : ∀ x ∈ p2, x.block < W.heap.size := by obtain ⟨m, hm⟩ := h2; exact DataW.trod_lt m _ _ _ hm
  have lt3 : ∀ x ∈ p3, x.block < W.heap.size := by obtain ⟨m, hm⟩ := h3; exact DataW.trod_lt m _ _ _ hm
  have lt4 : ∀ x ∈ p4, x.block < W.heap.size := by obtain ⟨m, hm⟩ := h4; exact DataW.trod_lt m _ _ _ hm
  clear hA0 hval0
  refine (walk W v0 v1 v2 v3 v4 ls0 ls1 ls2 ls3 ls4 t0 t1 t2 t3 t4 c0 c1 c2 c3 c4).mono fun e W' ⟨he, bel⟩ => ?_
  subst he
  exact ⟨_, rfl, _, _, _, [], _, [], hW', trodAll_mk1 (shut_bool Try.underlying4 _), (trodAll_cons_mk (Below.trod laidOutA (by kernel_rfl) (of_decide_eq_true (by kernel_rfl)) h0 bel lt0) (trodAll_cons_mk (Below.trod laidOutA (by kernel_rfl) (of_decide_eq_true (by kernel_rfl)) h1 bel lt1) (trodAll_cons_mk (Below.trod laidOutA (by kernel_rfl) (of_decide_eq_true (by kernel_rfl)) h2 bel lt2) (trodAll_cons_mk (Below.trod laidOutA (by kernel_rfl) (of_decide_eq_true (by kernel_rfl)) h3 bel lt3) (trodAll_cons_mk (Below.trod laidOutA (by kernel_rfl) (of_decide_eq_true (by kernel_rfl)) h4 bel lt4) trodAll_mk0))))), rfl, bel.frame _, fun h => by cases h⟩

theorem over : Rows.ccacheFilesRow.holds Try.pinned (OpenSpec.ofChange Rows.ccacheFilesSpec) :=
  OpenClaim.holds_of_wide 10 Try.f10 rfl rfl rfl rfl rfl rfl rfl ⟨rfl, rfl, rfl, rfl, rfl⟩ rfl rfl rfl rfl rfl (by kernel_rfl) Try.func10 (by kernel_rfl)
    (of_decide_eq_true (by kernel_rfl)) (by unfold Func.isWrapper; first | (rw [if_pos (by decide +kernel)]; kernel_rfl) | (rw [if_neg (by decide +kernel)]; exact ⟨rfl, rfl⟩))
    (fun os started H enc _ => lifted os started H enc)
end CcacheFilesProof

theorem ccacheFiles_proved : Rows.CcacheFilesSaid := CcacheFilesProof.over
#print axioms ccacheFiles_proved
end Go.Proofs.Ytcmcjiacpahliab

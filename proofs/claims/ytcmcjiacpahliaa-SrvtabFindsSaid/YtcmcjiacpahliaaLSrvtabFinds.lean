/-
  The statement SrvtabFinds: the law returns true for every input; no conditions.
-/
import Derived.Test.YtcmcjiacpahliaaCSrvL
import Derived.Test.YtcmcjiacpahliaaLOwn
set_option linter.all false
namespace Go.Sx
open Go.Proofs Go.RowKit
noncomputable def g5 : Par := par 160 (nthLL [[0, 1, 3, 5, 6, 7, 10, 12], [0, 1, 3, 5, 6, 7, 10, 12, 33], [16], [0, 1, 3, 5, 6, 7, 10, 12, 45], [16], [0, 1, 3, 5, 6, 7, 10, 12, 17], [0, 1, 3, 5, 6, 7, 10, 12, 17, 53], [0, 1, 3, 5, 6, 7, 10, 12, 17], [0, 1, 3, 5, 6, 10, 12, 17, 18], [0, 1, 3, 5, 6, 10, 12, 17, 18, 64], [0, 1, 3, 5, 6, 10, 12, 17, 18], [0, 1, 3, 5, 6, 10, 12, 17, 18, 19], [0, 1, 3, 5, 6, 10, 12, 17, 18, 19, 20], [0, 1, 3, 5, 6, 10, 12, 17, 18, 19, 20, 76], [0, 1, 3, 5, 6, 10, 12, 17, 18, 19, 20], [0, 1, 3, 5, 6, 10, 12, 17, 18, 19, 20, 21], [0, 1, 3, 5, 6, 10, 12, 17, 18, 19, 20, 21, 22], [0, 1, 3, 5, 6, 10, 12, 17, 18, 19, 20, 21, 22, 23, 24], [0, 1, 3, 5, 6, 10, 12, 17, 18, 19, 20, 21, 22, 23, 24, 25, 26], [0, 1, 3, 5, 6, 10, 12, 17, 18, 19, 20, 22, 125], [16], [0, 1, 3, 5, 6, 10, 12, 17, 18, 19, 20, 27], [0, 1, 3, 5, 6, 10, 12, 17, 18, 19, 20, 27, 28, 29], [0, 1, 3, 5, 6, 10, 12, 17, 18, 19, 20, 28, 29, 30, 31], [0, 1, 3, 5, 6, 10, 12, 17, 18, 19, 20, 159], [16], [16]]) [16, 17] (nthLL [[], [], [], [], [], [], [], [], [], [], [], [], [], [], [], [0, 0, 2, 6, 15, 0, 63, 127, 0, 511], [], [], [], [0, 0, 3, 7, 15, 15, 63, 127, 255, 511, 511, 2047, 511, 511, 16383, 32767, 65535], [], [0, 0, 2, 6, 0, 0, 32, 110, 254, 511, 0, 2047, 4095, 0, 16383]])
set_option maxRecDepth 10000
set_option maxHeartbeats 16000000
theorem c_SrvtabFinds (rows : List (List L)) (hrows : ∀ r ∈ rows, Typ (tabF tab) 43 r) (l : List UInt8) (p1 p2 p3 : List UInt8) (kv : Int) (x1 x2 x3 : List UInt8) (xn xk : Int) (hxn : -9223372036854775808 ≤ xn ∧ xn ≤ 9223372036854775807) (hxk : 0 ≤ xk ∧ xk ≤ 18446744073709551615) (who sm : UInt8) (fu : Bool) : Fn Try.prog 5 [.o (.sl rows.flatten rows.length), .o (.sl (l.map u8) l.length), .a [.s p1, .s p2, .s p3], .o (.i .i64 kv), .a [.s x1, .s x2, .s x3, .i .i64 xn, .i .u64 xk], .o (.i .u8 (who.toNat : Int)), .o (.i .u8 (sm.toNat : Int)), .o (.b fu)] [] (.one (.c (.o (.b true)))) [] := by
  obtain ⟨W, rfl, hW⟩ := sk_rows hrows
  rw [List.length_map]
  show Fn Try.prog _ [.o (.sl (flat skR W) W.length), _, _, _, _, _, _, _] _ _ _
  have hw := byte_lt who
  have hk := byte_lt sm
  have cl1 := c_long13 W rfl
  have cl2 := c_long13 [⟨x1, x2, x3, xn, xk⟩] (m := 1) rfl
  refine Fn_intro (G := g5) (goodA rfl) (fn := Try.f5) rfl rfl rfl rfl rfl ?_
  by_cases hlong : skLg W = true ∨ skLg [⟨x1, x2, x3, xn, xk⟩] = true ∨ l.length > 250
  · generalize skLg W = A at *
    generalize skLg [⟨x1, x2, x3, xn, xk⟩] = B at *
    (repeat' ((conv => whnf) <;> first | exact rfl | with_reducible refine boolK_dec (fun _ => ?_) (fun _ => ?_) <;> try (exfalso; omega) | refine boolK_beq (fun _ => ?_) (fun _ => ?_) <;> try (exfalso; first | omega | contradiction) | refine boolK_bne (fun _ => ?_) (fun _ => ?_) <;> try (exfalso; first | omega | contradiction) | (with_reducible first | refine boolK_not ?_ | refine boolK_and ?_ | refine boolK_or ?_ | refine boolK_true ?_ | refine boolK_false ?_) | refine boolK_intro (fun _ => ?_) (fun _ => ?_) <;> try (exfalso; simp_all; done) | refine jA ?_ | refine jB ?_ | refine jC ?_ | refine jD ?_ | refine jE ?_ | refine jF ?_ | refine jG ?_ | refine jH ?_ | refine jI ?_ | refine jJ ?_ | refine jK ?_ | with_reducible refine natK_lit ?_ | refine natK_of rfl ?_ | refine natK_any ?_ | refine jO ?_ | refine jP ?_ | refine jQ ?_ | refine jR ?_ | refine jS ?_ | refine jT ?_ | refine jU (fun _ => ?_) | refine jV ?_ | refine jW ?_ | refine jX ?_ | refine jY ?_ | refine jZ ?_ | refine ja ?_ | refine jb ?_ | refine jc ?_ | refine jd ?_ | refine je ?_ | refine jf ?_ | refine jg ?_ | refine jh ?_ | refine ji ?_ | refine jj ?_ | refine jk ?_ | refine jn ?_ | refine jo ?_ | refine jp ?_ | refine jq ?_ | refine jr ?_ | refine js ?_ | refine callK_intro (c_awake13) ?_ | refine callK_intro (cl1) ?_ | refine callK_intro (cl2) ?_ | refine jt ?_ | refine jx ?_ | refine jy ?_ | refine ju ?_ | refine jv ?_)) <;> (try (conv => whnf))
    all_goals (exfalso; rcases hlong with h | h | h <;> first | omega | (simp_all; done))
  · have f1 : skLg W = false := by cases h : skLg W with
      | true => exact absurd (.inl h) hlong
      | false => rfl
    have f2 : skLg [(⟨x1, x2, x3, xn, xk⟩ : SK)] = false := by cases h : skLg [(⟨x1, x2, x3, xn, xk⟩ : SK)] with
      | true => exact absurd (.inr (.inl h)) hlong
      | false => rfl
    have f3 : l.length ≤ 250 := by
      have : ¬ l.length > 250 := fun h => hlong (.inr (.inr h))
      omega
    rw [f1] at cl1
    rw [f2] at cl2
    obtain ⟨w1, w2⟩ := skLg_is f1
    have hX : skSm 1000 ⟨x1, x2, x3, xn, xk⟩ := by
      have := (skLg_is f2).2 ⟨x1, x2, x3, xn, xk⟩ (by simp)
      exact ⟨by omega, by omega, by omega, hxn, hxk⟩
    have hWs : ∀ s ∈ W, skSm 1000 s := fun s hs => by
      have h1 := w2 s hs
      have h2 := hW s hs
      exact ⟨by omega, by omega, by omega, h2.1, h2.2⟩
    have cG := c_GoodKeys l rfl (by omega)
    have hG := goodS_good l
    have cK := c_Keys l rfl (by omega)
    have hKl := keysS_len l
    have hKs : ∀ s ∈ keysS l, skSm 1000 s := fun s hs => sk_grow (by omega) (sk_small (keysS_ok s hs))
    have cS := c_Service (who.toNat : Int) (by omega)
    have v : validS (serviceN (who.toNat : Int)) (serviceI (who.toNat : Int)) (realmN ((who.toNat : Int) / 3)) = true := by
      obtain ⟨h1, h2⟩ := service_valid (who.toNat : Int)
      unfold validS
      rw [h1, h2, realm_valid]; rfl
    have cU := c_User 0 (by omega)
    have v' : validS (userN 0) [] (realmN (0 / 3)) = true := user_valid _ _
    have cL := c_Long (sm.toNat : Int) (by omega)
    have cL1 := c_Long 1 (by omega)
    have vl := (long_ok (n := (sm.toNat : Int)) (by omega)).1
    have vl1 := (long_ok (n := 1) (by omega)).1
    have hZ := sk_grow (B := 1000) (by omega) (sk_small (s := ⟨serviceN (who.toNat : Int), serviceI (who.toNat : Int), realmN ((who.toNat : Int) / 3), (sm.toNat : Int) % 6, longK (sm.toNat : Int)⟩) ⟨v, (by omega : 0 ≤ (sm.toNat : Int) % 6 ∧ (sm.toNat : Int) % 6 ≤ 255), vl⟩)
    have hU : ∀ n : Int, 0 ≤ n ∧ n ≤ 255 → skSm 1000 ⟨userN 0, [], realmN (0 / 3), n, longK 1⟩ := fun n hn => sk_grow (by omega) (sk_small ⟨v', hn, vl1⟩)
    have hGs : ∀ s ∈ goodS l, skSm 1000 s := fun s hs => sk_grow (by omega) (sk_small (hG.2.1 s hs))
    have h60 := hG.1
    clear hG v v' vl vl1 hlong f1 f2
    generalize serviceN (who.toNat : Int) = N at *
    generalize serviceI (who.toNat : Int) = I at *
    generalize realmN ((who.toNat : Int) / 3) = R at *
    generalize userN 0 = UN at *
    generalize realmN (0 / 3) = UR at *
    generalize longK 1 = K1 at *
    generalize longK (sm.toNat : Int) = K at *
    generalize goodS l = G at *
    generalize keysS l = A at *
    (repeat' ((conv => whnf) <;> first | exact rfl | with_reducible refine boolK_dec (fun _ => ?_) (fun _ => ?_) <;> try (exfalso; omega) | refine boolK_beq (fun _ => ?_) (fun _ => ?_) <;> try (exfalso; first | omega | contradiction) | refine boolK_bne (fun _ => ?_) (fun _ => ?_) <;> try (exfalso; first | omega | contradiction) | (with_reducible first | refine boolK_not ?_ | refine boolK_and ?_ | refine boolK_or ?_ | refine boolK_true ?_ | refine boolK_false ?_) | refine boolK_intro (fun _ => ?_) (fun _ => ?_) <;> try (exfalso; simp_all; done) | refine jA ?_ | refine jB ?_ | refine jC ?_ | refine jD ?_ | refine jE ?_ | refine jF ?_ | refine jG ?_ | refine jH ?_ | refine jI ?_ | refine jJ ?_ | refine jK ?_ | with_reducible refine natK_lit ?_ | refine natK_of rfl ?_ | refine natK_any ?_ | refine jO ?_ | refine jP ?_ | refine jQ ?_ | refine jR ?_ | refine jS ?_ | refine jT ?_ | refine jU (fun _ => ?_) | refine jV ?_ | refine jW ?_ | refine jX ?_ | refine jY ?_ | refine jZ ?_ | refine ja ?_ | refine jb ?_ | refine jc ?_ | refine jd ?_ | refine je ?_ | refine jf ?_ | refine jg ?_ | refine jh ?_ | refine ji ?_ | refine jj ?_ | refine jk ?_ | refine jn ?_ | refine jo ?_ | refine jp ?_ | refine jq ?_ | refine jr ?_ | refine js ?_ | refine callK_intro (c_awake13) ?_ | refine callK_intro (cl1) ?_ | refine callK_intro (cl2) ?_ | refine callK_intro (cG) ?_ | refine jt ?_ | refine jx ?_ | refine jy ?_ | refine ju ?_ | refine jv ?_)) <;> (try (conv => whnf))
    refine loopK_inv (G := g5) (fun n st => ∃ (O : List SK), (∀ s ∈ O, skSm 1000 s) ∧ n + O.length = 60 ∧
      st = ⟨[(0, .c (.o (.sl (flat skR W) W.length))), (1, .c (.o (.sl (l.map u8) l.length))), (3, .c (.o (.i .i64 kv))), (5, .c (.o (.i .u8 (who.toNat : Int)))), (6, .c (.o (.i .u8 (sm.toNat : Int)))), (7, .c (.o (.b fu))), (10, .c (.o (.p 10 0))), (12, .c (.o (.p 12 0))), (17, .c (.o (.gw 17 O.length 5)))], [(10, .st [.s p1, .s p2, .s p3]), (12, .st [.s x1, .s x2, .s x3, .i .i64 xn, .i .u64 xk]), (17, .ar (flat skR O))]⟩) (n := 60 - G.length) ⟨G, hGs, by omega, rfl⟩ ?_
    rintro n st ⟨O, hO, hn, rfl⟩
    have ef : flat skR O ++ [.s UN, .s [], .s UR, .i .i64 (100 + (O.length : Int)), .i .u64 K1] = flat skR (O ++ [⟨UN, [], UR, 100 + (O.length : Int), K1⟩]) := by rw [flat_append, flat_one]; rfl
    have hO' : O.length < 60 → ∀ s ∈ O ++ [(⟨UN, [], UR, 100 + (O.length : Int), K1⟩ : SK)], skSm 1000 s := fun h s hs => by
      rcases List.mem_append.1 hs with q | q
      · exact hO s q
      · simp at q; subst q; exact hU _ (by omega)
    clear hGs h60 cG hU
    (repeat' ((conv => whnf) <;> first | with_reducible refine boolK_refl ?_ | refine natK_of (j := 0) (by omega) ?_ | refine natK_of (j := 1) (by omega) ?_ | refine natK_of (j := 2) (by omega) ?_ | exact rfl | with_reducible refine boolK_dec (fun _ => ?_) (fun _ => ?_) <;> try (exfalso; omega) | refine boolK_beq (fun _ => ?_) (fun _ => ?_) <;> try (exfalso; first | omega | contradiction) | refine boolK_bne (fun _ => ?_) (fun _ => ?_) <;> try (exfalso; first | omega | contradiction) | (with_reducible first | refine boolK_not ?_ | refine boolK_and ?_ | refine boolK_or ?_ | refine boolK_true ?_ | refine boolK_false ?_) | refine boolK_intro (fun _ => ?_) (fun _ => ?_) <;> try (exfalso; simp_all; done) | refine jA ?_ | refine jB ?_ | refine jC ?_ | refine jD ?_ | refine jE ?_ | refine jF ?_ | refine jG ?_ | refine jH ?_ | refine jI ?_ | refine jJ ?_ | refine jK ?_ | with_reducible refine natK_lit ?_ | refine natK_of rfl ?_ | refine natK_any ?_ | refine jO ?_ | refine jP ?_ | refine jQ ?_ | refine jR ?_ | refine jS ?_ | refine jT ?_ | refine jU (fun _ => ?_) | refine jV ?_ | refine jW ?_ | refine jX ?_ | refine jY ?_ | refine jZ ?_ | refine ja ?_ | refine jb ?_ | refine jc ?_ | refine jd ?_ | refine je ?_ | refine jf ?_ | refine jg ?_ | refine jh ?_ | refine ji ?_ | refine jj ?_ | refine jk ?_ | refine jn ?_ | refine jo ?_ | refine jp ?_ | refine jq ?_ | refine jr ?_ | refine js ?_ | refine callK_intro (cS) ?_ | refine callK_intro (cU) ?_ | refine callK_intro (cL) ?_ | refine callK_intro (cL1) ?_ | refine callK_intro (cK) ?_ | refine callK_intro (c_srvFind _ rfl (by omega) _ _ _ _) ?_ | refine callK_intro (c_rsrvFind _ rfl (by omega) _ _ _ _) ?_ | refine callK_intro (c_srvLatest _ rfl (by omega) _ _ _) ?_ | refine callK_intro (c_rsrvLatest _ rfl (by omega) _ _ _) ?_ | refine callK_intro (c_srvAdd _ rfl (by omega) (by assumption) _ _ _ _ _ (by assumption)) ?_ | refine callK_intro (c_rsrvAdd _ rfl (by omega) (by assumption) _ _ _ _ _ (by assumption)) ?_ | refine callK_intro (c_rsrvSame _ rfl rfl (Nat.le_trans (skA_len _ _) (by omega))) ?_ | refine catK_of ef ?_ | exact ⟨n - 1, by omega, _, hO' (by omega), by rw [List.length_append, List.length_singleton]; omega, by rw [List.length_append]; rfl⟩ | refine loopK_step (G := g5) ?_ | refine jt ?_ | refine jx ?_ | refine jy ?_ | refine ju ?_ | refine sideK_intro (by first | (exact ⟨by omega, flat_len skR_len _⟩)) ?_ | refine jv ?_)) <;> (try (conv => whnf))
end Go.Sx
namespace Go.Proofs.Ytcmcjiacpahliaa
open Go.ChangeShapes Go.WideShapes Go.ChangeAt Go.RowKit Go.Sx
namespace SrvtabFindsProof
set_option maxRecDepth 100000 in
theorem walk (W : World) (v0 v1 v2 v3 v4 v5 v6 v7 : Value) (ls0 ls1 ls2 ls3 ls4 ls5 ls6 ls7 : List L)
    (t0 : Typ (tabF tab) 40 ls0) (t1 : Typ (tabF tab) 41 ls1) (t2 : Typ (tabF tab) 23 ls2) (t3 : Typ (tabF tab) 3 ls3) (t4 : Typ (tabF tab) 43 ls4) (t5 : Typ (tabF tab) 5 ls5) (t6 : Typ (tabF tab) 5 ls6) (t7 : Typ (tabF tab) 4 ls7)
    (r0 : RelC (fun _ => False) W noMu (argC (tabF tab 40).agg ls0) v0) (r1 : RelC (fun _ => False) W noMu (argC (tabF tab 41).agg ls1) v1) (r2 : RelC (fun _ => False) W noMu (argC (tabF tab 23).agg ls2) v2) (r3 : RelC (fun _ => False) W noMu (argC (tabF tab 3).agg ls3) v3) (r4 : RelC (fun _ => False) W noMu (argC (tabF tab 43).agg ls4) v4) (r5 : RelC (fun _ => False) W noMu (argC (tabF tab 5).agg ls5) v5) (r6 : RelC (fun _ => False) W noMu (argC (tabF tab 5).agg ls6) v6) (r7 : RelC (fun _ => False) W noMu (argC (tabF tab 4).agg ls7) v7) :
    Calls Try.prog 5 #[v0, v1, v2, v3, v4, v5, v6, v7] W fun e w' => e = .returned (.bool true) ∧ Below W.heap.size W w' := by
  obtain ⟨a0, rfl, wa0⟩ := typ_slice t0 rfl
  obtain ⟨a1, rfl⟩ := typ_bytes t1 rfl rfl
  obtain ⟨partsa2, rfl, hla2, hpa2⟩ := typ_struct t2 rfl
  obtain ⟨qa2_0, qa2_1, qa2_2, rfl⟩ : ∃ qa2_0 qa2_1 qa2_2, partsa2 = [qa2_0, qa2_1, qa2_2] := by
    match partsa2, hla2 with
    | [qa2_0, qa2_1, qa2_2], _ => exact ⟨qa2_0, qa2_1, qa2_2, rfl⟩
  have ta2_0 := hpa2 0 _ qa2_0 rfl rfl
  obtain ⟨a2_0, rfl⟩ := typ_str ta2_0 rfl
  have ta2_1 := hpa2 1 _ qa2_1 rfl rfl
  obtain ⟨a2_1, rfl⟩ := typ_str ta2_1 rfl
  have ta2_2 := hpa2 2 _ qa2_2 rfl rfl
  obtain ⟨a2_2, rfl⟩ := typ_str ta2_2 rfl
  obtain ⟨a3, rfl, wa3⟩ := typ_int t3 rfl
  obtain ⟨partsa4, rfl, hla4, hpa4⟩ := typ_struct t4 rfl
  obtain ⟨qa4_0, qa4_1, qa4_2, rfl⟩ : ∃ qa4_0 qa4_1 qa4_2, partsa4 = [qa4_0, qa4_1, qa4_2] := by
    match partsa4, hla4 with
    | [qa4_0, qa4_1, qa4_2], _ => exact ⟨qa4_0, qa4_1, qa4_2, rfl⟩
  have ta4_0 := hpa4 0 _ qa4_0 rfl rfl
  obtain ⟨partsa4_0, rfl, hla4_0, hpa4_0⟩ := typ_struct ta4_0 rfl
  obtain ⟨qa4_0_0, qa4_0_1, qa4_0_2, rfl⟩ : ∃ qa4_0_0 qa4_0_1 qa4_0_2, partsa4_0 = [qa4_0_0, qa4_0_1, qa4_0_2] := by
    match partsa4_0, hla4_0 with
    | [qa4_0_0, qa4_0_1, qa4_0_2], _ => exact ⟨qa4_0_0, qa4_0_1, qa4_0_2, rfl⟩
  have ta4_0_0 := hpa4_0 0 _ qa4_0_0 rfl rfl
  obtain ⟨a4_0_0, rfl⟩ := typ_str ta4_0_0 rfl
  have ta4_0_1 := hpa4_0 1 _ qa4_0_1 rfl rfl
  obtain ⟨a4_0_1, rfl⟩ := typ_str ta4_0_1 rfl
  have ta4_0_2 := hpa4_0 2 _ qa4_0_2 rfl rfl
  obtain ⟨a4_0_2, rfl⟩ := typ_str ta4_0_2 rfl
  have ta4_1 := hpa4 1 _ qa4_1 rfl rfl
  obtain ⟨a4_1, rfl, wa4_1⟩ := typ_int ta4_1 rfl
  have ta4_2 := hpa4 2 _ qa4_2 rfl rfl
  obtain ⟨a4_2, rfl, wa4_2⟩ := typ_int ta4_2 rfl
  obtain ⟨a5, rfl⟩ := typ_u8 t5 rfl
  obtain ⟨a6, rfl⟩ := typ_u8 t6 rfl
  obtain ⟨a7, rfl⟩ := typ_bool t7 rfl
  exact calls_of_fn Try.func5 rfl rfl (c_SrvtabFinds _ wa0 a1 a2_0 a2_1 a2_2 a3 a4_0_0 a4_0_1 a4_0_2 a4_1 a4_2 (wf_i64 wa4_1) (wf_u64 wa4_2) a5 a6 a7) (relCs_cons r0 (relCs_cons r1 (relCs_cons r2 (relCs_cons r3 (relCs_cons r4 (relCs_cons r5 (relCs_cons r6 (relCs_cons r7 relCs_nil))))))))

set_option maxRecDepth 100000 in
theorem lifted (os : Os) (started : os.Started) (H : Type) (enc : TypeId × Value → H) :
    ReturnsInHanded {} Try.checked os 5 .any (Rows.srvtabFindsSpec.pre6 enc Try.prog Try.f5 Rows.srvtabFindsRow.domain false) (Rows.srvtabFindsSpec.post enc Try.prog Try.f5 false true false false) := by
  refine returnsInHanded_of_change (C := Try.checked) ownA started (by kernel_rfl) Try.func5
    (ChangeSpec.witness6 (enc := enc) (C := Try.checked) false ⟨#[], #[.slice none 0 0, .slice none 0 0, .agg #[.string ByteArray.empty, .string ByteArray.empty, .string ByteArray.empty], .int .i64 0, .agg #[.string ByteArray.empty, .string ByteArray.empty, .string ByteArray.empty, .int .i64 0, .int .u64 0], .int .u8 0, .int .u8 0, .bool false], []⟩ 8 (by kernel_rfl) (by kernel_rfl) (by kernel_rfl) (by kernel_rfl)) ?_
  intro W base args ds gs before hval0 hW hcnd _
  have hval : ∀ (j : Nat) t v, Try.f5.params[j]? = some t → args[j]? = some v → Value.okWide Try.prog W .any base t v := hval0
  have hW' := hW
  obtain ⟨p, q, hA0, hV, rfl, hfz, hnd⟩ := hW
  have hA : DataW.TrodAll enc Try.prog W 0 (fun _ => true) true Try.f5.params.toList args.toList ds p := hA0
  rw [Try.params5] at hA hval
  obtain ⟨v0, vs0, d0, ds0, p0, q0, hargs, rfl, rfl, h0, r0⟩ := trodAll_cons hA
  obtain ⟨v1, vs1, d1, ds1, p1, q1, rfl, rfl, rfl, h1, r1⟩ := trodAll_cons r0
  obtain ⟨v2, vs2, d2, ds2, p2, q2, rfl, rfl, rfl, h2, r2⟩ := trodAll_cons r1
  obtain ⟨v3, vs3, d3, ds3, p3, q3, rfl, rfl, rfl, h3, r3⟩ := trodAll_cons r2
  obtain ⟨v4, vs4, d4, ds4, p4, q4, rfl, rfl, rfl, h4, r4⟩ := trodAll_cons r3
  obtain ⟨v5, vs5, d5, ds5, p5, q5, rfl, rfl, rfl, h5, r5⟩ := trodAll_cons r4
  obtain ⟨v6, vs6, d6, ds6, p6, q6, rfl, rfl, rfl, h6, r6⟩ := trodAll_cons r5
  obtain ⟨v7, vs7, d7, ds7, p7, q7, rfl, rfl, rfl, h7, r7⟩ := trodAll_cons r6
  obtain ⟨rfl, rfl, rfl⟩ := trodAll_nil r7
  obtain rfl : args = #[v0, v1, v2, v3, v4, v5, v6, v7] := by cases args; simp_all
  obtain ⟨rfl, rfl⟩ := trodVars_none hV
  obtain ⟨ls0, t0, c0⟩ := rel_arg tokA (n := 9) rfl h0 (hval 0 40 v0 rfl rfl)
  obtain ⟨ls1, t1, c1⟩ := rel_arg tokA (n := 9) rfl h1 (hval 1 41 v1 rfl rfl)
  obtain ⟨ls2, t2, c2⟩ := rel_arg tokA (n := 9) rfl h2 (hval 2 23 v2 rfl rfl)
  obtain ⟨ls3, t3, c3⟩ := rel_arg tokA (n := 9) rfl h3 (hval 3 3 v3 rfl rfl)
  obtain ⟨ls4, t4, c4⟩ := rel_arg tokA (n := 9) rfl h4 (hval 4 43 v4 rfl rfl)
  obtain ⟨ls5, t5, c5⟩ := rel_arg tokA (n := 9) rfl h5 (hval 5 5 v5 rfl rfl)
  obtain ⟨ls6, t6, c6⟩ := rel_arg tokA (n := 9) rfl h6 (hval 6 5 v6 rfl rfl)
  obtain ⟨ls7, t7, c7⟩ := rel_arg tokA (n := 9) rfl h7 (hval 7 4 v7 rfl rfl)
  have lt0 : ∀ x ∈ p0, x.block < W.heap.size := by obtain ⟨m, hm⟩ := h0; exact DataW.trod_lt m _ _ _ hm
  have lt1 : ∀ x ∈ p1, x.block < W.heap.size := by obtain ⟨m, hm⟩ := h1; exact DataW.trod_lt m _ _ _ hm
  have lt2 : ∀ x ∈ p2, x.block < W.heap.size := by obtain ⟨m, hm⟩ := h2; exact DataW.trod_lt m _ _ _ hm
  have lt3 : ∀ x ∈ p3, x.block < W.heap.size := by obtain ⟨m, hm⟩ := h3; exact DataW.trod_lt m _ _ _ hm
  have lt4 : ∀ x ∈ p4, x.block < W.heap.size := by obtain ⟨m, hm⟩ := h4; exact DataW.trod_lt m _ _ _ hm
  have lt5 : ∀ x ∈ p5, x.block < W.heap.size := by obtain ⟨m, hm⟩ := h5; exact DataW.trod_lt m _ _ _ hm
  have lt6 : ∀ x ∈ p6, x.block < W.heap.size := by obtain ⟨m, hm⟩ := h6; exact DataW.trod_lt m _ _ _ hm
  have lt7 : ∀ x ∈ p7, x.block < W.heap.size := by obtain ⟨m, hm⟩ := h7; exact DataW.trod_lt m _ _ _ hm
  clear hA0 hval0
  refine (walk W v0 v1 v2 v3 v4 v5 v6 v7 ls0 ls1 ls2 ls3 ls4 ls5 ls6 ls7 t0 t1 t2 t3 t4 t5 t6 t7 c0 c1 c2 c3 c4 c5 c6 c7).mono fun e W' ⟨he, bel⟩ => ?_
  subst he
  exact ⟨_, rfl, _, _, _, [], _, [], hW', trodAll_mk1 (shut_bool Try.underlying4 _), (trodAll_cons_mk (Below.trod laidOutA (by kernel_rfl) (of_decide_eq_true (by kernel_rfl)) h0 bel lt0) (trodAll_cons_mk (Below.trod laidOutA (by kernel_rfl) (of_decide_eq_true (by kernel_rfl)) h1 bel lt1) (trodAll_cons_mk (Below.trod laidOutA (by kernel_rfl) (of_decide_eq_true (by kernel_rfl)) h2 bel lt2) (trodAll_cons_mk (Below.trod laidOutA (by kernel_rfl) (of_decide_eq_true (by kernel_rfl)) h3 bel lt3) (trodAll_cons_mk (Below.trod laidOutA (by kernel_rfl) (of_decide_eq_true (by kernel_rfl)) h4 bel lt4) (trodAll_cons_mk (Below.trod laidOutA (by kernel_rfl) (of_decide_eq_true (by kernel_rfl)) h5 bel lt5) (trodAll_cons_mk (Below.trod laidOutA (by kernel_rfl) (of_decide_eq_true (by kernel_rfl)) h6 bel lt6) (trodAll_cons_mk (Below.trod laidOutA (by kernel_rfl) (of_decide_eq_true (by kernel_rfl)) h7 bel lt7) trodAll_mk0)))))))), rfl, bel.frame _, fun h => by cases h⟩

theorem over : Rows.srvtabFindsRow.holds Try.pinned (OpenSpec.ofChange Rows.srvtabFindsSpec) :=
  OpenClaim.holds_of_wide 5 Try.f5 rfl rfl rfl rfl rfl rfl rfl ⟨rfl, rfl, rfl, rfl, rfl⟩ rfl rfl rfl rfl rfl (by kernel_rfl) Try.func5 (by kernel_rfl)
    (of_decide_eq_true (by kernel_rfl)) (by unfold Func.isWrapper; first | (rw [if_pos (by decide +kernel)]; kernel_rfl) | (rw [if_neg (by decide +kernel)]; exact ⟨rfl, rfl⟩))
    (fun os started H enc _ => lifted os started H enc)
end SrvtabFindsProof

theorem srvtabFinds_proved : Rows.SrvtabFindsSaid := SrvtabFindsProof.over
#print axioms srvtabFinds_proved
end Go.Proofs.Ytcmcjiacpahliaa

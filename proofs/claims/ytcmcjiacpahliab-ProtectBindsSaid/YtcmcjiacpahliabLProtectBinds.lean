/-
  The statement ProtectBinds: the law returns true for every input; no conditions.
-/
import Derived.Test.YtcmcjiacpahliabCProtL
import Derived.Test.YtcmcjiacpahliabPProtB
import Derived.Test.YtcmcjiacpahliabLOwn
set_option linter.all false
namespace Go.Sx
open Go.Proofs Go.RowKit
noncomputable def g14 : Par := par 209 (nthLL [[0, 1, 2, 3, 4, 5, 6, 7], [0, 1, 2, 3, 4, 5, 6, 7, 39], [16], [0, 1, 2, 3, 4, 5, 6, 7, 47], [16], [2, 3, 6, 7, 17, 18, 19], [2, 6, 7, 17, 18, 19, 58], [17, 18, 19, 20, 21], [17, 18, 19, 20, 21, 22, 23], [17, 18, 19, 21, 22, 23, 25], [17, 18, 19, 22, 23, 83], [16], [16], [6, 7, 17, 18, 19, 26, 27], [6, 7, 17, 18, 19, 26, 27, 28, 29], [6, 7, 17, 18, 19, 26, 27, 28, 29, 31], [6, 7, 18, 26, 158], [16], [6, 7, 18, 26, 32], [6, 7, 18, 26, 33], [6, 7, 18, 26, 33, 34], [7, 18, 26, 34], [7, 18, 34, 35], [7, 18, 34, 35], [7, 18, 31, 35], [7, 31, 37], [16]]) [16, 34, 35] (nthLL [])
set_option maxRecDepth 10000
set_option maxHeartbeats 16000000
theorem c_ProtectBinds (dt q : List UInt8) (l sf : Bool) (n m : UInt8) (a : Int) (ha : 0 ≤ a ∧ a ≤ 65535) (by_ : UInt8) : Fn Try.prog 14 [.o (.sl (dt.map u8) dt.length), .o (.sl (q.map u8) q.length), .o (.b l), .o (.b sf), .o (.i .u8 (n.toNat : Int)), .o (.i .u8 (m.toNat : Int)), .o (.i .u16 a), .o (.i .u8 (by_.toNat : Int))] [] (.one (.c (.o (.b true)))) [] := by
  have hn := byte_lt n
  have hm := byte_lt m
  have hy := byte_lt by_
  refine Fn_intro (G := g14) (goodA rfl) (fn := Try.f14) rfl rfl rfl rfl rfl ?_
  by_cases hl : dt.length > 300 ∨ q.length > 40
  · (repeat' ((conv => whnf) <;> first | exact rfl | with_reducible refine boolK_dec (fun _ => ?_) (fun _ => ?_) <;> try (exfalso; omega) | refine boolK_beq (fun _ => ?_) (fun _ => ?_) <;> try (exfalso; first | omega | contradiction) | refine boolK_bne (fun _ => ?_) (fun _ => ?_) <;> try (exfalso; first | omega | contradiction) | (with_reducible first | refine boolK_not ?_ | refine boolK_and ?_ | refine boolK_or ?_ | refine boolK_true ?_ | refine boolK_false ?_) | refine boolK_intro (fun _ => ?_) (fun _ => ?_) <;> try (exfalso; simp_all; done) | refine jA ?_ | refine jB ?_ | refine jC ?_ | refine jD ?_ | refine jE ?_ | refine jF ?_ | refine jG ?_ | refine jH ?_ | refine jI ?_ | refine jJ ?_ | refine jK ?_ | with_reducible refine natK_lit ?_ | refine natK_of rfl ?_ | refine natK_any ?_ | refine jL ?_ | refine jM ?_ | refine jN ?_ | refine jO ?_ | refine jP ?_ | refine jQ ?_ | refine jR ?_ | refine jS ?_ | refine jT ?_ | refine jU (fun _ => ?_) | refine jV ?_ | refine jW ?_ | refine jX ?_ | refine jY ?_ | refine jZ ?_ | refine ja ?_ | refine jb ?_ | refine jc ?_ | refine jd ?_ | refine je ?_ | refine jf ?_ | refine jg ?_ | refine jh ?_ | refine ji ?_ | refine jj ?_ | refine jk ?_ | refine jm ?_ | refine jn ?_ | refine jo ?_ | refine jp ?_ | refine jq ?_ | refine jr ?_ | refine js ?_ | refine callK_intro (c_awake11) ?_ | refine jt ?_ | refine jx ?_ | refine jy ?_ | refine ju ?_ | refine jv ?_)) <;> (try (conv => whnf))
  · obtain ⟨tk1, ad1, tm1, hv, c1⟩ := c_content11 dt q rfl (by omega)
    have c1 := c1 _ rfl
    have cK := c_Session (n.toNat : Int) (by omega)
    have cM := c_Session (m.toNat : Int) (by omega)
    have rk := sess_range' (n := (n.toNat : Int)) (by omega)
    have ok := (sess_ok (n := (n.toNat : Int)) (by omega)).1
    generalize sessN (n.toNat : Int) = k at *
    generalize sessN (m.toNat : Int) = k' at *
    have hx : prN l (dt, tk1, ad1, tm1) = (prE l dt tk1 ad1 tm1, 0) := prN_ok (by omega) hv
    have hE := prE_len l dt tk1 ad1 tm1
    generalize prE l dt tk1 ad1 tm1 = E at *
    have sP := c_SameP dt tk1 ad1 tm1
    clear hv
    cases sf
    · have cP := c_MakePrivate l dt tk1 ad1 tm1 (by omega) k rk
      rw [mk6_made hx ok (by omega)] at cP
      have hb := boxB_len 5 k E
      have hB := msg6_len l (boxB 5 k E)
      have oP := c_OpenPrivate (msg6 l (boxB 5 k E)) rfl (by omega) k'
      have oS := c_OpenSafe (msg6 l (boxB 5 k E)) rfl (by omega) k'
      rw [openP_made hx rk ok (by omega)] at oP
      rw [openS_6 (by omega)] at oS
      generalize msg6 l (boxB 5 k E) = B at *
      dsimp only [pr0] at cP oS
      clear hx ok rk
      by_cases h1 : k = k'
      · rw [if_pos h1] at oP
        dsimp only at oP
        (repeat' ((conv => whnf) <;> first | exact rfl | with_reducible refine boolK_dec (fun _ => ?_) (fun _ => ?_) <;> try (exfalso; omega) | refine boolK_beq (fun _ => ?_) (fun _ => ?_) <;> try (exfalso; first | omega | contradiction) | refine boolK_bne (fun _ => ?_) (fun _ => ?_) <;> try (exfalso; first | omega | contradiction) | (with_reducible first | refine boolK_not ?_ | refine boolK_and ?_ | refine boolK_or ?_ | refine boolK_true ?_ | refine boolK_false ?_) | refine boolK_intro (fun _ => ?_) (fun _ => ?_) <;> try (exfalso; simp_all; done) | refine jA ?_ | refine jB ?_ | refine jC ?_ | refine jD ?_ | refine jE ?_ | refine jF ?_ | refine jG ?_ | refine jH ?_ | refine jI ?_ | refine jJ ?_ | refine jK ?_ | with_reducible refine natK_lit ?_ | refine natK_of rfl ?_ | refine natK_any ?_ | refine jL ?_ | refine jM ?_ | refine jN ?_ | refine jO ?_ | refine jP ?_ | refine jQ ?_ | refine jR ?_ | refine jS ?_ | refine jT ?_ | refine jU (fun _ => ?_) | refine jV ?_ | refine jW ?_ | refine jX ?_ | refine jY ?_ | refine jZ ?_ | refine ja ?_ | refine jb ?_ | refine jc ?_ | refine jd ?_ | refine je ?_ | refine jf ?_ | refine jg ?_ | refine jh ?_ | refine ji ?_ | refine jj ?_ | refine jk ?_ | refine jm ?_ | refine jn ?_ | refine jo ?_ | refine jp ?_ | refine jq ?_ | refine jr ?_ | refine js ?_ | refine callK_intro (c_awake11) ?_ | refine callK_intro (c1) ?_ | refine callK_intro (cK) ?_ | refine callK_intro (cM) ?_ | refine callK_intro (cP) ?_ | refine callK_intro (oP) ?_ | refine callK_intro (oS) ?_ | refine callK_intro (sP) ?_ | refine jt ?_ | refine jx ?_ | refine jy ?_ | refine ju ?_ | refine jv ?_)) <;> (try (conv => whnf))
      · rw [if_neg h1] at oP
        dsimp only [pr0] at oP
        (repeat' ((conv => whnf) <;> first | exact rfl | with_reducible refine boolK_dec (fun _ => ?_) (fun _ => ?_) <;> try (exfalso; omega) | refine boolK_beq (fun _ => ?_) (fun _ => ?_) <;> try (exfalso; first | omega | contradiction) | refine boolK_bne (fun _ => ?_) (fun _ => ?_) <;> try (exfalso; first | omega | contradiction) | (with_reducible first | refine boolK_not ?_ | refine boolK_and ?_ | refine boolK_or ?_ | refine boolK_true ?_ | refine boolK_false ?_) | refine boolK_intro (fun _ => ?_) (fun _ => ?_) <;> try (exfalso; simp_all; done) | refine jA ?_ | refine jB ?_ | refine jC ?_ | refine jD ?_ | refine jE ?_ | refine jF ?_ | refine jG ?_ | refine jH ?_ | refine jI ?_ | refine jJ ?_ | refine jK ?_ | with_reducible refine natK_lit ?_ | refine natK_of rfl ?_ | refine natK_any ?_ | refine jL ?_ | refine jM ?_ | refine jN ?_ | refine jO ?_ | refine jP ?_ | refine jQ ?_ | refine jR ?_ | refine jS ?_ | refine jT ?_ | refine jU (fun _ => ?_) | refine jV ?_ | refine jW ?_ | refine jX ?_ | refine jY ?_ | refine jZ ?_ | refine ja ?_ | refine jb ?_ | refine jc ?_ | refine jd ?_ | refine je ?_ | refine jf ?_ | refine jg ?_ | refine jh ?_ | refine ji ?_ | refine jj ?_ | refine jk ?_ | refine jm ?_ | refine jn ?_ | refine jo ?_ | refine jp ?_ | refine jq ?_ | refine jr ?_ | refine js ?_ | refine callK_intro (c_awake11) ?_ | refine callK_intro (c1) ?_ | refine callK_intro (cK) ?_ | refine callK_intro (cM) ?_ | refine callK_intro (cP) ?_ | refine callK_intro (oP) ?_ | refine callK_intro (oS) ?_ | refine callK_intro (sP) ?_ | refine jt ?_ | refine jx ?_ | refine jy ?_ | refine ju ?_ | refine jv ?_)) <;> (try (conv => whnf))
    · have cP := c_MakeSafe l dt tk1 ad1 tm1 (by omega) k rk
      rw [mk7_made hx ok (by omega)] at cP
      have hb := boxB_len 6 k E
      have hB := msg7_len l E (boxB 6 k E)
      have oS := c_OpenSafe (msg7 l E (boxB 6 k E)) rfl (by omega) k'
      have oP := c_OpenPrivate (msg7 l E (boxB 6 k E)) rfl (by omega) k'
      rw [openS_made hx rk ok (by omega)] at oS
      rw [openP_7 (by omega) (by omega)] at oP
      have h1' := Int.emod_nonneg a (show (E.length : Int) ≠ 0 by omega)
      have h2' := Int.emod_lt_of_pos a (show 0 < (E.length : Int) by omega)
      obtain ⟨i, hi⟩ : ∃ i : Nat, (i : Int) = a % (E.length : Int) := ⟨(a % (E.length : Int)).toNat, by omega⟩
      have gx := c_OpenSafe ((msg7 l E (boxB 6 k E)).set (4 + i) (byteOf (bitN .xor .u8 (((msg7 l E (boxB 6 k E)).getD (4 + i) 0).toNat : Int) (by_.toNat : Int)))) (m := 0 + (msg7 l E (boxB 6 k E)).length) (by simp) (by simp; omega) k
      rw [← put_u8 _ _ _ (by omega)] at gx
      have zx : ¬ by_ = 0 → openS ((msg7 l E (boxB 6 k E)).set (4 + i) (byteOf (bitN .xor .u8 (((msg7 l E (boxB 6 k E)).getD (4 + i) 0).toNat : Int) (by_.toNat : Int)))) k = (pr0, 41) := fun hne => by
        rw [msg7_set (by omega), msg7_at (by omega)]
        exact openS_text rk ok (by omega) (by simp) (set_ne (by omega) (fun hh => hne (xor_ne hh)))
      have gy := c_OpenSafe ((msg7 l E (boxB 6 k E)).set 1 (byteOf (bitN .xor .u8 (((msg7 l E (boxB 6 k E)).getD 1 0).toNat : Int) 1))) (m := 0 + (msg7 l E (boxB 6 k E)).length) (by simp) (by simp; omega) k
      rw [← put_u8 _ _ _ (by omega)] at gy
      have zy : ¬ (openS ((msg7 l E (boxB 6 k E)).set 1 (byteOf (bitN .xor .u8 (((msg7 l E (boxB 6 k E)).getD 1 0).toNat : Int) 1))) k).2 = 0 := by
        rw [msg7_flip]
        exact openS_flip hx
      generalize openS ((msg7 l E (boxB 6 k E)).set (4 + i) (byteOf (bitN .xor .u8 (((msg7 l E (boxB 6 k E)).getD (4 + i) 0).toNat : Int) (by_.toNat : Int)))) k = X at *
      generalize openS ((msg7 l E (boxB 6 k E)).set 1 (byteOf (bitN .xor .u8 (((msg7 l E (boxB 6 k E)).getD 1 0).toNat : Int) 1))) k = Y at *
      generalize msg7 l E (boxB 6 k E) = B at *
      dsimp only [pr0] at cP oP
      clear hx ok rk
      have gx' : Fn Try.prog 67 [.o (.sl (putAt (B.map u8) ((4 + i) * 1) [L.i .u8 ((byteOf (bitN .xor .u8 ((B.getD (4 + i) 0).toNat : Int) (by_.toNat : Int))).toNat : Int)]) (0 + B.length)), .o (.i .u64 k)] [] (.tup [.c (.a [.sl (X.1.1.map u8) X.1.1.length, .i .i64 X.1.2.1, .i .i64 X.1.2.2.1, .i .i64 X.1.2.2.2]), .c (.o (.i .i64 X.2))]) [] := by rw [Nat.mul_one]; exact gx
      have gy' : Fn Try.prog 67 [.o (.sl (putAt (B.map u8) (1 * 1) [L.i .u8 ((byteOf (bitN .xor .u8 ((B.getD 1 0).toNat : Int) 1)).toNat : Int)]) (0 + B.length)), .o (.i .u64 k)] [] (.tup [.c (.a [.sl (Y.1.1.map u8) Y.1.1.length, .i .i64 Y.1.2.1, .i .i64 Y.1.2.2.1, .i .i64 Y.1.2.2.2]), .c (.o (.i .i64 Y.2))]) [] := gy
      have zx : ¬ (by_.toNat : Int) = 0 → X.2 = 41 := fun hne => by rw [zx (fun h0 => hne (by rw [h0]; rfl))]
      by_cases h1 : k = k'
      · rw [if_pos h1] at oS
        dsimp only at oS
        subst h1
        (repeat' ((conv => whnf) <;> first | refine remK_at (E.length : Int) (by omega) (by omega) ?_ | refine natK_of (j := 4 + i) (by omega) ?_ | refine natK_of (j := 1) (by omega) ?_ | exact rfl | with_reducible refine boolK_dec (fun _ => ?_) (fun _ => ?_) <;> try (exfalso; omega) | refine boolK_beq (fun _ => ?_) (fun _ => ?_) <;> try (exfalso; first | omega | contradiction) | refine boolK_bne (fun _ => ?_) (fun _ => ?_) <;> try (exfalso; first | omega | contradiction) | (with_reducible first | refine boolK_not ?_ | refine boolK_and ?_ | refine boolK_or ?_ | refine boolK_true ?_ | refine boolK_false ?_) | refine boolK_intro (fun _ => ?_) (fun _ => ?_) <;> try (exfalso; simp_all; done) | refine jA ?_ | refine jB ?_ | refine jC ?_ | refine jD ?_ | refine jE ?_ | refine jF ?_ | refine jG ?_ | refine jH ?_ | refine jI ?_ | refine jJ ?_ | refine jK ?_ | with_reducible refine natK_lit ?_ | refine natK_of rfl ?_ | refine natK_any ?_ | refine jL ?_ | refine jM ?_ | refine jN ?_ | refine jO ?_ | refine jP ?_ | refine jQ ?_ | refine jR ?_ | refine jS ?_ | refine jT ?_ | refine jU (fun _ => ?_) | refine jV ?_ | refine jW ?_ | refine jX ?_ | refine jY ?_ | refine jZ ?_ | refine ja ?_ | refine jb ?_ | refine jc ?_ | refine jd ?_ | refine je ?_ | refine jf ?_ | refine jg ?_ | refine jh ?_ | refine ji ?_ | refine jj ?_ | refine jk ?_ | refine jm ?_ | refine jn ?_ | refine jo ?_ | refine jp ?_ | refine jq ?_ | refine jr ?_ | refine js ?_ | refine callK_intro (c_awake11) ?_ | refine callK_intro (c1) ?_ | refine callK_intro (cK) ?_ | refine callK_intro (cM) ?_ | refine callK_intro (cP) ?_ | refine callK_intro (oP) ?_ | refine callK_intro (oS) ?_ | refine callK_intro (sP) ?_ | refine callK_intro (gx') ?_ | refine callK_intro (gy') ?_ | refine bitK_byte ?_ | refine jt ?_ | refine jx ?_ | refine jy ?_ | refine ju ?_ | refine sideK_intro (by first | (rw [zx (by assumption)]; done)) ?_ | refine jv ?_)) <;> (try (conv => whnf))
      · rw [if_neg h1] at oS
        dsimp only [pr0] at oS
        (repeat' ((conv => whnf) <;> first | refine remK_at (E.length : Int) (by omega) (by omega) ?_ | refine natK_of (j := 4 + i) (by omega) ?_ | refine natK_of (j := 1) (by omega) ?_ | exact rfl | with_reducible refine boolK_dec (fun _ => ?_) (fun _ => ?_) <;> try (exfalso; omega) | refine boolK_beq (fun _ => ?_) (fun _ => ?_) <;> try (exfalso; first | omega | contradiction) | refine boolK_bne (fun _ => ?_) (fun _ => ?_) <;> try (exfalso; first | omega | contradiction) | (with_reducible first | refine boolK_not ?_ | refine boolK_and ?_ | refine boolK_or ?_ | refine boolK_true ?_ | refine boolK_false ?_) | refine boolK_intro (fun _ => ?_) (fun _ => ?_) <;> try (exfalso; simp_all; done) | refine jA ?_ | refine jB ?_ | refine jC ?_ | refine jD ?_ | refine jE ?_ | refine jF ?_ | refine jG ?_ | refine jH ?_ | refine jI ?_ | refine jJ ?_ | refine jK ?_ | with_reducible refine natK_lit ?_ | refine natK_of rfl ?_ | refine natK_any ?_ | refine jL ?_ | refine jM ?_ | refine jN ?_ | refine jO ?_ | refine jP ?_ | refine jQ ?_ | refine jR ?_ | refine jS ?_ | refine jT ?_ | refine jU (fun _ => ?_) | refine jV ?_ | refine jW ?_ | refine jX ?_ | refine jY ?_ | refine jZ ?_ | refine ja ?_ | refine jb ?_ | refine jc ?_ | refine jd ?_ | refine je ?_ | refine jf ?_ | refine jg ?_ | refine jh ?_ | refine ji ?_ | refine jj ?_ | refine jk ?_ | refine jm ?_ | refine jn ?_ | refine jo ?_ | refine jp ?_ | refine jq ?_ | refine jr ?_ | refine js ?_ | refine callK_intro (c_awake11) ?_ | refine callK_intro (c1) ?_ | refine callK_intro (cK) ?_ | refine callK_intro (cM) ?_ | refine callK_intro (cP) ?_ | refine callK_intro (oP) ?_ | refine callK_intro (oS) ?_ | refine callK_intro (sP) ?_ | refine callK_intro (gx') ?_ | refine callK_intro (gy') ?_ | refine bitK_byte ?_ | refine jt ?_ | refine jx ?_ | refine jy ?_ | refine ju ?_ | refine sideK_intro (by first | (rw [zx (by assumption)]; done)) ?_ | refine jv ?_)) <;> (try (conv => whnf))
end Go.Sx
namespace Go.Proofs.Ytcmcjiacpahliab
open Go.ChangeShapes Go.WideShapes Go.ChangeAt Go.RowKit Go.Sx
namespace ProtectBindsProof
set_option maxRecDepth 100000 in
theorem walk (W : World) (v0 v1 v2 v3 v4 v5 v6 v7 : Value) (ls0 ls1 ls2 ls3 ls4 ls5 ls6 ls7 : List L)
    (t0 : Typ (tabF tab) 23 ls0) (t1 : Typ (tabF tab) 23 ls1) (t2 : Typ (tabF tab) 4 ls2) (t3 : Typ (tabF tab) 4 ls3) (t4 : Typ (tabF tab) 5 ls4) (t5 : Typ (tabF tab) 5 ls5) (t6 : Typ (tabF tab) 42 ls6) (t7 : Typ (tabF tab) 5 ls7)
    (r0 : RelC (fun _ => False) W noMu (argC (tabF tab 23).agg ls0) v0) (r1 : RelC (fun _ => False) W noMu (argC (tabF tab 23).agg ls1) v1) (r2 : RelC (fun _ => False) W noMu (argC (tabF tab 4).agg ls2) v2) (r3 : RelC (fun _ => False) W noMu (argC (tabF tab 4).agg ls3) v3) (r4 : RelC (fun _ => False) W noMu (argC (tabF tab 5).agg ls4) v4) (r5 : RelC (fun _ => False) W noMu (argC (tabF tab 5).agg ls5) v5) (r6 : RelC (fun _ => False) W noMu (argC (tabF tab 42).agg ls6) v6) (r7 : RelC (fun _ => False) W noMu (argC (tabF tab 5).agg ls7) v7) :
    Calls Try.prog 14 #[v0, v1, v2, v3, v4, v5, v6, v7] W fun e w' => e = .returned (.bool true) ∧ Below W.heap.size W w' := by
  obtain ⟨a0, rfl⟩ := typ_bytes t0 rfl rfl
  obtain ⟨a1, rfl⟩ := typ_bytes t1 rfl rfl
  obtain ⟨a2, rfl⟩ := typ_bool t2 rfl
  obtain ⟨a3, rfl⟩ := typ_bool t3 rfl
  obtain ⟨a4, rfl⟩ := typ_u8 t4 rfl
  obtain ⟨a5, rfl⟩ := typ_u8 t5 rfl
  obtain ⟨a6, rfl, wa6⟩ := typ_int t6 rfl
  obtain ⟨a7, rfl⟩ := typ_u8 t7 rfl
  exact calls_of_fn Try.func14 rfl rfl (c_ProtectBinds a0 a1 a2 a3 a4 a5 a6 (wf_u16 wa6) a7) (relCs_cons r0 (relCs_cons r1 (relCs_cons r2 (relCs_cons r3 (relCs_cons r4 (relCs_cons r5 (relCs_cons r6 (relCs_cons r7 relCs_nil))))))))

set_option maxRecDepth 100000 in
theorem lifted (os : Os) (started : os.Started) (H : Type) (enc : TypeId × Value → H) :
    ReturnsInHanded {} Try.checked os 14 .any (Rows.protectBindsSpec.pre6 enc Try.prog Try.f14 Rows.protectBindsRow.domain false) (Rows.protectBindsSpec.post enc Try.prog Try.f14 false true false false) := by
  refine returnsInHanded_of_change (C := Try.checked) ownA started (by kernel_rfl) Try.func14
    (ChangeSpec.witness6 (enc := enc) (C := Try.checked) false ⟨#[], #[.slice none 0 0, .slice none 0 0, .bool false, .bool false, .int .u8 0, .int .u8 0, .int .u16 0, .int .u8 0], []⟩ 8 (by kernel_rfl) (by kernel_rfl) (by kernel_rfl) (by kernel_rfl)) ?_
  intro W base args ds gs before hval0 hW hcnd _
  have hval : ∀ (j : Nat) t v, Try.f14.params[j]? = some t → args[j]? = some v → Value.okWide Try.prog W .any base t v := hval0
  have hW' := hW
  obtain ⟨p, q, hA0, hV, rfl, hfz, hnd⟩ := hW
  have hA : DataW.TrodAll enc Try.prog W 0 (fun _ => true) true Try.f14.params.toList args.toList ds p := hA0
  rw [Try.params14] at hA hval
  obtain ⟨v0, vs0, d0, ds0, p0, q0, hargs, rfl, rfl, h0, r0⟩ := trodAll_cons hA
  obtain ⟨v1, vs1, d1, ds1, p1, q1, rfl, rfl, rfl, h1, r1⟩ := trodAll_cons r0
  obtain ⟨v2, vs2, d2, ds2, p2, q2, rfl, rfl, rfl, h2, r2⟩ := trodAll_cons r1
  obtain ⟨v3, vs3, d3, ds3, p3, q3, rfl, rfl, rfl, h3, r3⟩ := trodAll_cons r2
  obtain ⟨v4, vs4, d4, ds4, p4, q4, rfl, rfl, rfl, h4, r4⟩ := trodAll_cons r3
  obtain ⟨v5, vs5, d5, ds5, p5, q5, rfl, rfl, rfl, h5, r5⟩ := trodAll_cons r4
  obtain ⟨v6, vs6, d6, ds6, p6, q6, rfl, rfl, rfl, h6, r6⟩ := trodAll_cons r5
  obtain ⟨v7, vs7, d7, ds7, p7, q7, rfl, rfl, rfl, h7, r7⟩ := trodAll_cons r6
  obtain ⟨rfl, rfl, rfl⟩ := trodAll_nil r7
  obtain rfl : args = #[v0, v1, v2, v3, v4, v5, v6, v7] := by cases args; simp_all
  obtain ⟨rfl, rfl⟩ := trodVars_none hV
  obtain ⟨ls0, t0, c0⟩ := rel_arg tokA (n := 9) rfl h0 (hval 0 23 v0 rfl rfl)
  obtain ⟨ls1, t1, c1⟩ := rel_arg tokA (n := 9) rfl h1 (hval 1 23 v1 rfl rfl)
  obtain ⟨ls2, t2, c2⟩ := rel_arg tokA (n := 9) rfl h2 (hval 2 4 v2 rfl rfl)
  obtain ⟨ls3, t3, c3⟩ := rel_arg tokA (n := 9) rfl h3 (hval 3 4 v3 rfl rfl)
  obtain ⟨ls4, t4, c4⟩ := rel_arg tokA (n := 9) rfl h4 (hval 4 5 v4 rfl rfl)
  obtain ⟨ls5, t5, c5⟩ := rel_arg tokA (n := 9) rfl h5 (hval 5 5 v5 rfl rfl)
  obtain ⟨ls6, t6, c6⟩ := rel_arg tokA (n := 9) rfl h6 (hval 6 42 v6 rfl rfl)
  obtain ⟨ls7, t7, c7⟩ := rel_arg tokA (n := 9) rfl h7 (hval 7 5 v7 rfl rfl)
  have lt0 : ∀ x ∈ p0, x.block < W.heap.size := by obtain ⟨m, hm⟩ := h0; exact DataW.trod_lt m _ _ _ hm
  have lt1 : ∀ x ∈ p1, x.block < W.heap.size := by obtain ⟨m, hm⟩ := h1; exact DataW.trod_lt m _ _ _ hm
  have lt2 : ∀ x ∈ p2, x.block < W.heap.size := by obtain ⟨m, hm⟩ := h2; exact DataW.trod_lt m _ _ _ hm
  have lt3 : ∀ x ∈ p3, x.block < W.heap.size := by obtain ⟨m, hm⟩ := h3; exact DataW.trod_lt m _ _ _ hm
  have lt4 : ∀ x ∈ p4, x.block < W.heap.size := by obtain ⟨m, hm⟩ := h4; exact DataW.trod_lt m _ _ _ hm
  have lt5 : ∀ x ∈ p5, x.block < W.heap.size := by obtain ⟨m, hm⟩ := h5; exact DataW.trod_lt m _ _ _ hm
  have lt6 : ∀ x ∈ p6, x.block < W.heap.size := by obtain ⟨m, hm⟩ := h6; exact DataW.trod_lt m _ _ _ hm
  have lt7 : ∀ x ∈ p7, x.block < W.heap.size := by obtain ⟨m, hm⟩ := h7; exact DataW.trod_lt m _ _ _ hm
  clear hA0 hval0
  refine (walk W v0 v1 v2 v3 v4 v5 v6 v7 ls0 ls1 ls2 ls3 ls4 ls5 ls6 ls7 t0 t1 t2 t3 t4 t5 t6 t7 c0 c1 c2 c3 c4 c5 c6 c7).mono fun e W' ⟨he, bel⟩ => ?_
  subst he
  exact ⟨_, rfl, _, _, _, [], _, [], hW', trodAll_mk1 (shut_bool Try.underlying4 _), (trodAll_cons_mk (Below.trod laidOutA (by kernel_rfl) (of_decide_eq_true (by kernel_rfl)) h0 bel lt0) (trodAll_cons_mk (Below.trod laidOutA (by kernel_rfl) (of_decide_eq_true (by kernel_rfl)) h1 bel lt1) (trodAll_cons_mk (Below.trod laidOutA (by kernel_rfl) (of_decide_eq_true (by kernel_rfl)) h2 bel lt2) (trodAll_cons_mk (Below.trod laidOutA (by kernel_rfl) (of_decide_eq_true (by kernel_rfl)) h3 bel lt3) (trodAll_cons_mk (Below.trod laidOutA (by kernel_rfl) (of_decide_eq_true (by kernel_rfl)) h4 bel lt4) (trodAll_cons_mk (Below.trod laidOutA (by kernel_rfl) (of_decide_eq_true (by kernel_rfl)) h5 bel lt5) (trodAll_cons_mk (Below.trod laidOutA (by kernel_rfl) (of_decide_eq_true (by kernel_rfl)) h6 bel lt6) (trodAll_cons_mk (Below.trod laidOutA (by kernel_rfl) (of_decide_eq_true (by kernel_rfl)) h7 bel lt7) trodAll_mk0)))))))), rfl, bel.frame _, fun h => by cases h⟩

theorem over : Rows.protectBindsRow.holds Try.pinned (OpenSpec.ofChange Rows.protectBindsSpec) :=
  OpenClaim.holds_of_wide 14 Try.f14 rfl rfl rfl rfl rfl rfl rfl ⟨rfl, rfl, rfl, rfl, rfl⟩ rfl rfl rfl rfl rfl (by kernel_rfl) Try.func14 (by kernel_rfl)
    (of_decide_eq_true (by kernel_rfl)) (by unfold Func.isWrapper; first | (rw [if_pos (by decide +kernel)]; kernel_rfl) | (rw [if_neg (by decide +kernel)]; exact ⟨rfl, rfl⟩))
    (fun os started H enc _ => lifted os started H enc)
end ProtectBindsProof

theorem protectBinds_proved : Rows.ProtectBindsSaid := ProtectBindsProof.over
#print axioms protectBinds_proved
end Go.Proofs.Ytcmcjiacpahliab

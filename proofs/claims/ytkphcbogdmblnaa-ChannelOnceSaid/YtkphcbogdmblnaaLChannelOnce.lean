/-
  The statement ChannelOnce: the law returns true for every input; no conditions.
-/
import Derived.Test.YtkphcbogdmblnaaCChanK
import Derived.Test.YtkphcbogdmblnaaLOwn
set_option linter.all false
namespace Go.Sx
open Go.Proofs Go.RowKit
noncomputable def g6 : Par := par 144 (nthLL [[0, 1], [0, 1, 19], [4], [0, 1, 22], [4], [1, 5, 6], [1, 5, 6, 7, 8], [1, 5, 6, 7, 8, 9], [1, 5, 6, 7, 8, 9, 31], [1, 5, 6, 7, 8, 9], [1, 5, 6, 7, 8, 9, 10], [1, 5, 6, 7, 8, 9, 10], [1, 5, 6, 7, 8, 9, 11], [1, 5, 6, 7, 8, 9, 12, 13, 14], [1, 5, 6, 7, 8, 9, 12, 13, 59], [1, 5, 6, 7, 8, 9, 67], [4], [1, 5, 6, 7, 8, 9, 12, 13, 15], [1, 5, 6, 7, 8, 9, 12, 13, 15, 75], [1, 5, 6, 7, 8, 9, 12, 13, 15], [1, 5, 6, 7, 8, 9, 12, 13, 15, 16, 17], [1, 5, 6, 9, 12, 16, 17, 140], [4], [1, 5, 6, 7, 8, 9], [4]]) [4] (nthLL [[], [], [], [], [], [], [], [], [], [], [], [], [], [0, 0, 0, 0, 12, 28, 60, 124, 252, 508, 1023, 2047, 4095, 4095, 4095, 0, 40959, 114687, 262143], [], [], [], [], [], [], [0, 0, 3, 7, 15, 31, 63, 127, 0, 0, 768, 1792, 3840, 7936, 16128, 255, 65535], [], [], [0, 0, 0, 1, 11, 31]])
set_option maxRecDepth 10000
set_option maxHeartbeats 16000000
theorem c_ChannelOnce (sk : UInt8) (rows : List (List L)) (hrows : ∀ r ∈ rows, Typ (tabF tab) 41 r) : Fn Try.prog 6 [.o (.i .u8 (sk.toNat : Int)), .o (.sl rows.flatten rows.length)] [] (.one (.c (.o (.b true)))) [] := by
  obtain ⟨W, rfl, hW⟩ := wd_rows hrows
  rw [List.length_map]
  show Fn Try.prog _ [_, .o (.sl (flat wR W) W.length)] _ _ _
  have hsk := byte_lt sk
  have rk := sess_range' (n := 1) (by omega)
  have ok := (sess_ok (n := 1) (by omega)).1
  have rk3 := sess_range' (n := 3) (by omega)
  have ok3 := (sess_ok (n := 3) (by omega)).1
  have hne : sessN 3 ≠ sessN 1 := by decide
  have cE := c_ends21 (sk.toNat : Int) (by omega)
  generalize sessN 1 = k at *
  have hq : 0 ≤ (sk.toNat : Int) / 8 ∧ (sk.toNat : Int) / 8 ≤ 4294967295 := by omega
  generalize (sk.toNat : Int) / 8 = q at *
  refine Fn_intro (G := g6) (goodA rfl) (fn := Try.f6) rfl rfl rfl rfl rfl ?_
  by_cases hl : W.length > 30
  · (repeat' ((conv => whnf) <;> first | exact rfl | with_reducible refine boolK_dec (fun _ => ?_) (fun _ => ?_) <;> try (exfalso; omega) | refine boolK_beq (fun _ => ?_) (fun _ => ?_) <;> try (exfalso; first | omega | contradiction) | refine boolK_bne (fun _ => ?_) (fun _ => ?_) <;> try (exfalso; first | omega | contradiction) | (with_reducible first | refine boolK_not ?_ | refine boolK_and ?_ | refine boolK_or ?_ | refine boolK_true ?_ | refine boolK_false ?_) | refine boolK_intro (fun _ => ?_) (fun _ => ?_) <;> try (exfalso; simp_all; done) | refine jA ?_ | refine jB ?_ | refine jC ?_ | refine jD ?_ | refine jE ?_ | refine jF ?_ | refine jG ?_ | refine jH ?_ | refine jI ?_ | refine jJ ?_ | refine jK ?_ | with_reducible refine natK_lit ?_ | refine natK_of rfl ?_ | refine natK_any ?_ | refine jL ?_ | refine jM ?_ | refine jN ?_ | refine jO ?_ | refine jP ?_ | refine jQ ?_ | refine jR ?_ | refine jS ?_ | refine jT ?_ | refine jU (fun _ => ?_) | refine jV ?_ | refine jW ?_ | refine jX ?_ | refine jY ?_ | refine jZ ?_ | refine ja ?_ | refine jb ?_ | refine jc ?_ | refine jd ?_ | refine je ?_ | refine jf ?_ | refine jg ?_ | refine jh ?_ | refine ji ?_ | refine jj ?_ | refine jk ?_ | refine jn ?_ | refine jo ?_ | refine jp ?_ | refine jq ?_ | refine jr ?_ | refine js ?_ | refine callK_intro (c_awake21) ?_ | refine jt ?_ | refine jx ?_ | refine jy ?_ | refine ju ?_ | refine jv ?_)) <;> (try (conv => whnf))
  · (repeat' ((conv => whnf) <;> first | exact rfl | with_reducible refine boolK_dec (fun _ => ?_) (fun _ => ?_) <;> try (exfalso; omega) | refine boolK_beq (fun _ => ?_) (fun _ => ?_) <;> try (exfalso; first | omega | contradiction) | refine boolK_bne (fun _ => ?_) (fun _ => ?_) <;> try (exfalso; first | omega | contradiction) | (with_reducible first | refine boolK_not ?_ | refine boolK_and ?_ | refine boolK_or ?_ | refine boolK_true ?_ | refine boolK_false ?_) | refine boolK_intro (fun _ => ?_) (fun _ => ?_) <;> try (exfalso; simp_all; done) | refine jA ?_ | refine jB ?_ | refine jC ?_ | refine jD ?_ | refine jE ?_ | refine jF ?_ | refine jG ?_ | refine jH ?_ | refine jI ?_ | refine jJ ?_ | refine jK ?_ | with_reducible refine natK_lit ?_ | refine natK_of rfl ?_ | refine natK_any ?_ | refine jL ?_ | refine jM ?_ | refine jN ?_ | refine jO ?_ | refine jP ?_ | refine jQ ?_ | refine jR ?_ | refine jS ?_ | refine jT ?_ | refine jU (fun _ => ?_) | refine jV ?_ | refine jW ?_ | refine jX ?_ | refine jY ?_ | refine jZ ?_ | refine ja ?_ | refine jb ?_ | refine jc ?_ | refine jd ?_ | refine je ?_ | refine jf ?_ | refine jg ?_ | refine jh ?_ | refine ji ?_ | refine jj ?_ | refine jk ?_ | refine jn ?_ | refine jo ?_ | refine jp ?_ | refine jq ?_ | refine jr ?_ | refine js ?_ | refine callK_intro (c_awake21) ?_ | refine callK_intro (cE) ?_ | refine jt ?_ | refine jx ?_ | refine jy ?_ | refine ju ?_ | refine jv ?_)) <;> (try (conv => whnf))
    refine loopK_inv (G := g6) (fun n st => ∃ (j : Nat) (tm tk : Int), n + j = W.length ∧ (-1 ≤ tm ∧ tm ≤ 4294967295) ∧ (-1 ≤ tk ∧ tk ≤ 199) ∧
      st = ⟨[(1, .c (.o (.sl (flat wR W) W.length))), (5, .c (.o (.p 5 0))), (6, .c (.o (.p 6 0))), (7, .c (.o (.i .i64 tm))), (8, .c (.o (.i .i64 tk))), (9, .c (.o (.i .i64 (j : Int))))], [(5, .st [.i .u64 k, .i .i64 1, .i .i64 2, .i .i64 q, .i .i64 (-1), .i .i64 (-1)]), (6, .st [.i .u64 k, .i .i64 2, .i .i64 1, .i .i64 q, .i .i64 tm, .i .i64 tk])]⟩) (n := W.length) ⟨0, -1, -1, by omega, by omega, by omega, rfl⟩ ?_
    rintro n st ⟨j, tm, tk, hj, htm, htk, rfl⟩
    by_cases hjl : j < W.length
    · obtain ⟨h1, h2, h3, h4, h5⟩ := hW _ (getD_mem (d := w0) hjl)
      have ca : chC ⟨k, 1, 2, q, -1, -1⟩ = 0 := ch_ok ok (by omega) (by omega)
      have cb : chC ⟨k, 2, 1, q, tm, tk⟩ = 0 := ch_ok ok (by omega) (by omega)
      have cc : chC (sC ⟨k, 1, 2, q, -1, -1⟩ ⟨k, 2, 1, q, tm, tk⟩ (W.getD j w0).bk (W.getD j w0).ky) = 0 := by
        unfold sC
        split <;> split
        · exact ch_ok ok3 (by dsimp only; omega) (by dsimp only; omega)
        · exact cb
        · exact ch_ok ok3 (by dsimp only; omega) (by dsimp only; omega)
        · exact ca
      have rc : 0 ≤ (sC ⟨k, 1, 2, q, -1, -1⟩ ⟨k, 2, 1, q, tm, tk⟩ (W.getD j w0).bk (W.getD j w0).ky).s ∧ (sC ⟨k, 1, 2, q, -1, -1⟩ ⟨k, 2, 1, q, tm, tk⟩ (W.getD j w0).bk (W.getD j w0).ky).s ≤ 18446744073709551615 := by
        unfold sC
        split <;> split <;> assumption
      obtain ⟨B, hB, e1, e2, e3⟩ := ch_word (sf := (W.getD j w0).sf) (l := (W.getD j w0).li) (d := (W.getD j w0).d.take 50) (now := 1000 + (W.getD j w0).nw / 8) (tk := (W.getD j w0).tk % 4) cc rc (by simp; omega) (by omega) (by omega)
      obtain ⟨r, hr, er, cW⟩ := c_sendP ⟨k, 1, 2, q, -1, -1⟩ ⟨k, 2, 1, q, tm, tk⟩ rk rk (W.getD j w0).bk (W.getD j w0).sf (W.getD j w0).li (W.getD j w0).d rfl (W.getD j w0).nw (W.getD j w0).tk (W.getD j w0).a (W.getD j w0).ky 0 ⟨h1, h2, h4, by omega⟩
      have er := er (by decide)
      rw [e1] at er
      have er : r = B := er
      rw [er] at cW
      dsimp only at cW
      have r1 := c_chRead k 2 1 q tm tk rk B rfl (by omega) (1000 + (W.getD j w0).a / 8)
      rcases ch_rd cb e2 (e3 k) (1000 + (W.getD j w0).a / 8) with ⟨e, he, hx⟩ | ⟨x1, x2, x3, x4⟩
      · rw [hx] at r1
        dsimp only at r1
        clear e1 e2 e3 hx cc rc ca cb
        (repeat' ((conv => whnf) <;> first | with_reducible refine boolK_refl ?_ | refine natK_of (j := j) (by omega) ?_ | exact rfl | with_reducible refine boolK_dec (fun _ => ?_) (fun _ => ?_) <;> try (exfalso; omega) | refine boolK_beq (fun _ => ?_) (fun _ => ?_) <;> try (exfalso; first | omega | contradiction) | refine boolK_bne (fun _ => ?_) (fun _ => ?_) <;> try (exfalso; first | omega | contradiction) | (with_reducible first | refine boolK_not ?_ | refine boolK_and ?_ | refine boolK_or ?_ | refine boolK_true ?_ | refine boolK_false ?_) | refine boolK_intro (fun _ => ?_) (fun _ => ?_) <;> try (exfalso; simp_all; done) | refine jA ?_ | refine jB ?_ | refine jC ?_ | refine jD ?_ | refine jE ?_ | refine jF ?_ | refine jG ?_ | refine jH ?_ | refine jI ?_ | refine jJ ?_ | refine jK ?_ | with_reducible refine natK_lit ?_ | refine natK_of rfl ?_ | refine natK_any ?_ | refine jL ?_ | refine jM ?_ | refine jN ?_ | refine jO ?_ | refine jP ?_ | refine jQ ?_ | refine jR ?_ | refine jS ?_ | refine jT ?_ | refine jU (fun _ => ?_) | refine jV ?_ | refine jW ?_ | refine jX ?_ | refine jY ?_ | refine jZ ?_ | refine ja ?_ | refine jb ?_ | refine jc ?_ | refine jd ?_ | refine je ?_ | refine jf ?_ | refine jg ?_ | refine jh ?_ | refine ji ?_ | refine jj ?_ | refine jk ?_ | refine jn ?_ | refine jo ?_ | refine jp ?_ | refine jq ?_ | refine jr ?_ | refine js ?_ | refine callK_intro (cW) ?_ | refine callK_intro (r1) ?_ | refine headB_w (by omega) ?_ | refine headI_w6 (by omega) ?_ | exact ⟨n - 1, by omega, j + 1, tm, tk, by omega, by omega, by omega, rfl⟩ | refine jt ?_ | refine jx ?_ | refine jy ?_ | refine ju ?_ | refine sideK_intro (by first | (exfalso; simp_all; done) | (exfalso; omega)) ?_ | refine jv ?_)) <;> (try (conv => whnf))
      · have hc : (W.getD j w0).bk = false ∧ ¬ (W.getD j w0).ky % 16 = 15 := by
          cases hb : (W.getD j w0).bk <;> by_cases h15 : (W.getD j w0).ky % 16 = 15
          · rw [hb, sC_3 h15, if_neg hne] at x1
            exact absurd x1 (by decide)
          · exact ⟨rfl, h15⟩
          · rw [hb, sC_1 h15, if_neg hne] at x1
            exact absurd x1 (by decide)
          · rw [hb, sC_2 h15, if_pos rfl] at x2
            exact absurd x2 (by dsimp only; decide)
        obtain ⟨hb, h15⟩ := hc
        rw [hb, sC_4 h15, if_pos rfl] at x3 x4
        rw [x4] at r1
        dsimp only at r1 x3
        clear e1 e2 e3 x4 x1 x2 cc rc ca cb
        by_cases h50 : (W.getD j w0).d.length > 50
        · rw [show ((W.getD j w0).d.take 50).length = 50 by rw [List.length_take]; omega] at r1
          (repeat' ((conv => whnf) <;> first | with_reducible refine boolK_refl ?_ | refine natK_of (j := j) (by omega) ?_ | exact rfl | with_reducible refine boolK_dec (fun _ => ?_) (fun _ => ?_) <;> try (exfalso; omega) | refine boolK_beq (fun _ => ?_) (fun _ => ?_) <;> try (exfalso; first | omega | contradiction) | refine boolK_bne (fun _ => ?_) (fun _ => ?_) <;> try (exfalso; first | omega | contradiction) | (with_reducible first | refine boolK_not ?_ | refine boolK_and ?_ | refine boolK_or ?_ | refine boolK_true ?_ | refine boolK_false ?_) | refine boolK_intro (fun _ => ?_) (fun _ => ?_) <;> try (exfalso; simp_all; done) | refine jA ?_ | refine jB ?_ | refine jC ?_ | refine jD ?_ | refine jE ?_ | refine jF ?_ | refine jG ?_ | refine jH ?_ | refine jI ?_ | refine jJ ?_ | refine jK ?_ | with_reducible refine natK_lit ?_ | refine natK_of rfl ?_ | refine natK_any ?_ | refine jL ?_ | refine jM ?_ | refine jN ?_ | refine jO ?_ | refine jP ?_ | refine jQ ?_ | refine jR ?_ | refine jS ?_ | refine jT ?_ | refine jU (fun _ => ?_) | refine jV ?_ | refine jW ?_ | refine jX ?_ | refine jY ?_ | refine jZ ?_ | refine ja ?_ | refine jb ?_ | refine jc ?_ | refine jd ?_ | refine je ?_ | refine jf ?_ | refine jg ?_ | refine jh ?_ | refine ji ?_ | refine jj ?_ | refine jk ?_ | refine jn ?_ | refine jo ?_ | refine jp ?_ | refine jq ?_ | refine jr ?_ | refine js ?_ | refine callK_intro (cW) ?_ | refine callK_intro (r1) ?_ | refine headB_w (by omega) ?_ | refine headB_w0 (by omega) ?_ | refine headV_w3 (by omega) ?_ | refine headI_w4 (by omega) ?_ | refine headI_w5 (by omega) ?_ | refine headI_w6 (by omega) ?_ | refine headI_w7 (by omega) ?_ | exact ⟨n - 1, by omega, j + 1, 1000 + (W.getD j w0).nw / 8, (W.getD j w0).tk % 4, by omega, by omega, by omega, rfl⟩ | refine jt ?_ | refine jx ?_ | refine jy ?_ | refine ju ?_ | refine sideK_intro (by first | (rw [List.length_take]; omega)) ?_ | refine jv ?_)) <;> (try (conv => whnf))
        · rw [List.take_of_length_le (by omega)] at r1
          (repeat' ((conv => whnf) <;> first | with_reducible refine boolK_refl ?_ | refine natK_of (j := j) (by omega) ?_ | exact rfl | with_reducible refine boolK_dec (fun _ => ?_) (fun _ => ?_) <;> try (exfalso; omega) | refine boolK_beq (fun _ => ?_) (fun _ => ?_) <;> try (exfalso; first | omega | contradiction) | refine boolK_bne (fun _ => ?_) (fun _ => ?_) <;> try (exfalso; first | omega | contradiction) | (with_reducible first | refine boolK_not ?_ | refine boolK_and ?_ | refine boolK_or ?_ | refine boolK_true ?_ | refine boolK_false ?_) | refine boolK_intro (fun _ => ?_) (fun _ => ?_) <;> try (exfalso; simp_all; done) | refine jA ?_ | refine jB ?_ | refine jC ?_ | refine jD ?_ | refine jE ?_ | refine jF ?_ | refine jG ?_ | refine jH ?_ | refine jI ?_ | refine jJ ?_ | refine jK ?_ | with_reducible refine natK_lit ?_ | refine natK_of rfl ?_ | refine natK_any ?_ | refine jL ?_ | refine jM ?_ | refine jN ?_ | refine jO ?_ | refine jP ?_ | refine jQ ?_ | refine jR ?_ | refine jS ?_ | refine jT ?_ | refine jU (fun _ => ?_) | refine jV ?_ | refine jW ?_ | refine jX ?_ | refine jY ?_ | refine jZ ?_ | refine ja ?_ | refine jb ?_ | refine jc ?_ | refine jd ?_ | refine je ?_ | refine jf ?_ | refine jg ?_ | refine jh ?_ | refine ji ?_ | refine jj ?_ | refine jk ?_ | refine jn ?_ | refine jo ?_ | refine jp ?_ | refine jq ?_ | refine jr ?_ | refine js ?_ | refine callK_intro (cW) ?_ | refine callK_intro (r1) ?_ | refine headB_w (by omega) ?_ | refine headB_w0 (by omega) ?_ | refine headV_w3 (by omega) ?_ | refine headI_w4 (by omega) ?_ | refine headI_w5 (by omega) ?_ | refine headI_w6 (by omega) ?_ | refine headI_w7 (by omega) ?_ | exact ⟨n - 1, by omega, j + 1, 1000 + (W.getD j w0).nw / 8, (W.getD j w0).tk % 4, by omega, by omega, by omega, rfl⟩ | refine jt ?_ | refine jx ?_ | refine jy ?_ | refine ju ?_ | refine sideK_intro (by first | (rw [List.length_take]; omega)) ?_ | refine jv ?_)) <;> (try (conv => whnf))
    · (repeat' ((conv => whnf) <;> first | exact rfl | with_reducible refine boolK_dec (fun _ => ?_) (fun _ => ?_) <;> try (exfalso; omega) | refine boolK_beq (fun _ => ?_) (fun _ => ?_) <;> try (exfalso; first | omega | contradiction) | refine boolK_bne (fun _ => ?_) (fun _ => ?_) <;> try (exfalso; first | omega | contradiction) | (with_reducible first | refine boolK_not ?_ | refine boolK_and ?_ | refine boolK_or ?_ | refine boolK_true ?_ | refine boolK_false ?_) | refine boolK_intro (fun _ => ?_) (fun _ => ?_) <;> try (exfalso; simp_all; done) | refine jA ?_ | refine jB ?_ | refine jC ?_ | refine jD ?_ | refine jE ?_ | refine jF ?_ | refine jG ?_ | refine jH ?_ | refine jI ?_ | refine jJ ?_ | refine jK ?_ | with_reducible refine natK_lit ?_ | refine natK_of rfl ?_ | refine natK_any ?_ | refine jL ?_ | refine jM ?_ | refine jN ?_ | refine jO ?_ | refine jP ?_ | refine jQ ?_ | refine jR ?_ | refine jS ?_ | refine jT ?_ | refine jU (fun _ => ?_) | refine jV ?_ | refine jW ?_ | refine jX ?_ | refine jY ?_ | refine jZ ?_ | refine ja ?_ | refine jb ?_ | refine jc ?_ | refine jd ?_ | refine je ?_ | refine jf ?_ | refine jg ?_ | refine jh ?_ | refine ji ?_ | refine jj ?_ | refine jk ?_ | refine jn ?_ | refine jo ?_ | refine jp ?_ | refine jq ?_ | refine jr ?_ | refine js ?_ | refine jt ?_ | refine jx ?_ | refine jy ?_ | refine ju ?_ | refine jv ?_)) <;> (try (conv => whnf))
end Go.Sx
namespace Go.Proofs.Ytkphcbogdmblnaa
open Go.ChangeShapes Go.WideShapes Go.ChangeAt Go.RowKit Go.Sx
namespace ChannelOnceProof
set_option maxRecDepth 100000 in
theorem walk (W : World) (v0 v1 : Value) (ls0 ls1 : List L)
    (t0 : Typ (tabF tab) 5 ls0) (t1 : Typ (tabF tab) 35 ls1)
    (r0 : RelC (fun _ => False) W noMu (argC (tabF tab 5).agg ls0) v0) (r1 : RelC (fun _ => False) W noMu (argC (tabF tab 35).agg ls1) v1) :
    Calls Try.prog 6 #[v0, v1] W fun e w' => e = .returned (.bool true) ∧ Below W.heap.size W w' := by
  obtain ⟨a0, rfl⟩ := typ_u8 t0 rfl
  obtain ⟨a1, rfl, wa1⟩ := typ_slice t1 rfl
  exact calls_of_fn Try.func6 rfl rfl (c_ChannelOnce a0 _ wa1) (relCs_cons r0 (relCs_cons r1 relCs_nil))

set_option maxRecDepth 100000 in
theorem lifted (os : Os) (started : os.Started) (H : Type) (enc : TypeId × Value → H) :
    ReturnsInHanded {} Try.checked os 6 .any (Rows.channelOnceSpec.pre6 enc Try.prog Try.f6 Rows.channelOnceRow.domain false) (Rows.channelOnceSpec.post enc Try.prog Try.f6 false true false false) := by
  refine returnsInHanded_of_change (C := Try.checked) ownA started (by kernel_rfl) Try.func6
    (ChangeSpec.witness6 (enc := enc) (C := Try.checked) false ⟨#[], #[.int .u8 0, .slice none 0 0], []⟩ 8 (by kernel_rfl) (by kernel_rfl) (by kernel_rfl) (by kernel_rfl)) ?_
  intro W base args ds gs before hval0 hW hcnd _
  have hval : ∀ (j : Nat) t v, Try.f6.params[j]? = some t → args[j]? = some v → Value.okWide Try.prog W .any base t v := hval0
  have hW' := hW
  obtain ⟨p, q, hA0, hV, rfl, hfz, hnd⟩ := hW
  have hA : DataW.TrodAll enc Try.prog W 0 (fun _ => true) true Try.f6.params.toList args.toList ds p := hA0
  rw [Try.params6] at hA hval
  obtain ⟨v0, vs0, d0, ds0, p0, q0, hargs, rfl, rfl, h0, r0⟩ := trodAll_cons hA
  obtain ⟨v1, vs1, d1, ds1, p1, q1, rfl, rfl, rfl, h1, r1⟩ := trodAll_cons r0
  obtain ⟨rfl, rfl, rfl⟩ := trodAll_nil r1
  obtain rfl : args = #[v0, v1] := by cases args; simp_all
  obtain ⟨rfl, rfl⟩ := trodVars_none hV
  obtain ⟨ls0, t0, c0⟩ := rel_arg tokA (n := 9) rfl h0 (hval 0 5 v0 rfl rfl)
  obtain ⟨ls1, t1, c1⟩ := rel_arg tokA (n := 9) rfl h1 (hval 1 35 v1 rfl rfl)
  have lt0 : ∀ x ∈ p0, x.block < W.heap.size := by obtain ⟨m, hm⟩ := h0; exact DataW.trod_lt m _ _ _ hm
  have lt1 : ∀ x ∈ p1, x.block < W.heap.size := by obtain ⟨m, hm⟩ := h1; exact DataW.trod_lt m _ _ _ hm
  clear hA0 hval0
  refine (walk W v0 v1 ls0 ls1 t0 t1 c0 c1).mono fun e W' ⟨he, bel⟩ => ?_
  subst he
  exact ⟨_, rfl, _, _, _, [], _, [], hW', trodAll_mk1 (shut_bool Try.underlying4 _), (trodAll_cons_mk (Below.trod laidOutA (by kernel_rfl) (of_decide_eq_true (by kernel_rfl)) h0 bel lt0) (trodAll_cons_mk (Below.trod laidOutA (by kernel_rfl) (of_decide_eq_true (by kernel_rfl)) h1 bel lt1) trodAll_mk0)), rfl, bel.frame _, fun h => by cases h⟩

theorem over : Rows.channelOnceRow.holds Try.pinned (OpenSpec.ofChange Rows.channelOnceSpec) :=
  OpenClaim.holds_of_wide 6 Try.f6 rfl rfl rfl rfl rfl rfl rfl ⟨rfl, rfl, rfl, rfl, rfl⟩ rfl rfl rfl rfl rfl (by kernel_rfl) Try.func6 (by kernel_rfl)
    (of_decide_eq_true (by kernel_rfl)) (by unfold Func.isWrapper; first | (rw [if_pos (by decide +kernel)]; kernel_rfl) | (rw [if_neg (by decide +kernel)]; exact ⟨rfl, rfl⟩))
    (fun os started H enc _ => lifted os started H enc)
end ChannelOnceProof

theorem channelOnce_proved : Rows.ChannelOnceSaid := ChannelOnceProof.over
#print axioms channelOnce_proved
end Go.Proofs.Ytkphcbogdmblnaa

/-
  The statement ChannelReads: the law returns true for every input; no conditions.
-/
import Derived.Test.YtkphcbogdmblnaaCChanK
import Derived.Test.YtkphcbogdmblnaaLOwn
set_option linter.all false
namespace Go.Sx
open Go.Proofs Go.RowKit
noncomputable def g4 : Par := par 160 (nthLL [[0, 1, 2, 3], [0, 1, 2, 3, 26], [8], [0, 1, 2, 3, 34], [8], [1, 2, 3, 9, 10], [1, 2, 3, 9, 10, 11], [1, 2, 3, 9, 10, 11, 43], [1, 2, 3, 9, 10, 11], [1, 2, 3, 9, 10, 11, 12, 13], [1, 2, 3, 9, 10, 11, 12, 13, 51], [1, 2, 3, 9, 10, 11, 12, 13], [1, 2, 3, 9, 10, 11, 12, 13, 14], [1, 2, 3, 9, 10, 11, 12, 13, 14, 15, 16], [1, 2, 3, 9, 10, 11, 12, 13, 15, 16, 17, 18], [1, 2, 3, 9, 10, 11, 12, 13, 127], [8], [1, 2, 3, 9, 10, 11, 12, 13, 19, 20, 21], [1, 2, 3, 9, 10, 11, 19, 20, 21, 22, 23, 24], [1, 2, 3, 9, 10, 11, 22, 158], [8], [1, 2, 3, 9, 10, 11], [8]]) [8] (nthLL [[], [], [], [], [], [], [], [], [], [], [], [0, 0, 3, 7, 0, 0, 63, 0, 0, 384, 896, 1920, 3968, 8064, 16256, 127, 65535], [], [0, 0, 0, 6, 14, 30, 0, 0, 0, 0, 768, 1792, 3840, 7936, 0, 0, 49152, 114688, 245760, 524287, 1048575, 2097151, 2097151, 4194303, 16777215], [0, 0, 0, 6, 14, 30, 0, 0, 0, 0, 768, 1792, 3840, 7936, 0, 0, 49152, 114688, 245760, 524287, 1048575, 2097151, 2097151, 4194303, 16777215]])
set_option maxRecDepth 10000
set_option maxHeartbeats 16000000
theorem chR_s (c : CH) (b : List UInt8) (now : Int) : (chR c b now).1.s = c.s := by
  unfold chR
  repeat (split; rfl)
  rfl
theorem c_ChannelReads (sk : UInt8) (rows : List (List L)) (hrows : ∀ r ∈ rows, Typ (tabF tab) 41 r) (raw : List UInt8) (now : Int) : Fn Try.prog 4 [.o (.i .u8 (sk.toNat : Int)), .o (.sl rows.flatten rows.length), .o (.sl (raw.map u8) raw.length), .o (.i .i64 now)] [] (.one (.c (.o (.b true)))) [] := by
  obtain ⟨W, rfl, hW⟩ := wd_rows hrows
  rw [List.length_map]
  show Fn Try.prog _ [_, .o (.sl (flat wR W) W.length), _, _] _ _ _
  have hsk := byte_lt sk
  have rk := sess_range' (n := 1) (by omega)
  have cE := c_ends21 (sk.toNat : Int) (by omega)
  generalize sessN 1 = k at *
  generalize (sk.toNat : Int) / 8 = q at *
  refine Fn_intro (G := g4) (goodA rfl) (fn := Try.f4) rfl rfl rfl rfl rfl ?_
  by_cases hl : W.length > 30 ∨ raw.length > 400
  · (repeat' ((conv => whnf) <;> first | exact rfl | with_reducible refine boolK_dec (fun _ => ?_) (fun _ => ?_) <;> try (exfalso; omega) | refine boolK_beq (fun _ => ?_) (fun _ => ?_) <;> try (exfalso; first | omega | contradiction) | refine boolK_bne (fun _ => ?_) (fun _ => ?_) <;> try (exfalso; first | omega | contradiction) | (with_reducible first | refine boolK_not ?_ | refine boolK_and ?_ | refine boolK_or ?_ | refine boolK_true ?_ | refine boolK_false ?_) | refine boolK_intro (fun _ => ?_) (fun _ => ?_) <;> try (exfalso; simp_all; done) | refine jA ?_ | refine jB ?_ | refine jC ?_ | refine jD ?_ | refine jE ?_ | refine jF ?_ | refine jG ?_ | refine jH ?_ | refine jI ?_ | refine jJ ?_ | refine jK ?_ | with_reducible refine natK_lit ?_ | refine natK_of rfl ?_ | refine natK_any ?_ | refine jL ?_ | refine jM ?_ | refine jN ?_ | refine jP ?_ | refine jQ ?_ | refine jR ?_ | refine jS ?_ | refine jT ?_ | refine jU (fun _ => ?_) | refine jV ?_ | refine jW ?_ | refine jX ?_ | refine jY ?_ | refine jZ ?_ | refine ja ?_ | refine jb ?_ | refine jc ?_ | refine jd ?_ | refine je ?_ | refine jf ?_ | refine jg ?_ | refine jh ?_ | refine ji ?_ | refine jj ?_ | refine jk ?_ | refine jn ?_ | refine jo ?_ | refine jp ?_ | refine jq ?_ | refine jr ?_ | refine js ?_ | refine callK_intro (c_awake21) ?_ | refine jt ?_ | refine jx ?_ | refine jy ?_ | refine ju ?_ | refine jv ?_)) <;> (try (conv => whnf))
  · (repeat' ((conv => whnf) <;> first | exact rfl | with_reducible refine boolK_dec (fun _ => ?_) (fun _ => ?_) <;> try (exfalso; omega) | refine boolK_beq (fun _ => ?_) (fun _ => ?_) <;> try (exfalso; first | omega | contradiction) | refine boolK_bne (fun _ => ?_) (fun _ => ?_) <;> try (exfalso; first | omega | contradiction) | (with_reducible first | refine boolK_not ?_ | refine boolK_and ?_ | refine boolK_or ?_ | refine boolK_true ?_ | refine boolK_false ?_) | refine boolK_intro (fun _ => ?_) (fun _ => ?_) <;> try (exfalso; simp_all; done) | refine jA ?_ | refine jB ?_ | refine jC ?_ | refine jD ?_ | refine jE ?_ | refine jF ?_ | refine jG ?_ | refine jH ?_ | refine jI ?_ | refine jJ ?_ | refine jK ?_ | with_reducible refine natK_lit ?_ | refine natK_of rfl ?_ | refine natK_any ?_ | refine jL ?_ | refine jM ?_ | refine jN ?_ | refine jP ?_ | refine jQ ?_ | refine jR ?_ | refine jS ?_ | refine jT ?_ | refine jU (fun _ => ?_) | refine jV ?_ | refine jW ?_ | refine jX ?_ | refine jY ?_ | refine jZ ?_ | refine ja ?_ | refine jb ?_ | refine jc ?_ | refine jd ?_ | refine je ?_ | refine jf ?_ | refine jg ?_ | refine jh ?_ | refine ji ?_ | refine jj ?_ | refine jk ?_ | refine jn ?_ | refine jo ?_ | refine jp ?_ | refine jq ?_ | refine jr ?_ | refine js ?_ | refine callK_intro (c_awake21) ?_ | refine callK_intro (cE) ?_ | refine jt ?_ | refine jx ?_ | refine jy ?_ | refine ju ?_ | refine jv ?_)) <;> (try (conv => whnf))
    refine loopK_inv (G := g4) (fun n st => ∃ (j : Nat) (b : CH), n + j = W.length + 1 ∧ (0 ≤ b.s ∧ b.s ≤ 18446744073709551615) ∧
      st = ⟨[(1, .c (.o (.sl (flat wR W) W.length))), (2, .c (.o (.sl (raw.map u8) raw.length))), (3, .c (.o (.i .i64 now))), (9, .c (.o (.p 9 0))), (10, .c (.o (.p 10 0))), (11, .c (.o (.i .i64 (j : Int))))], [(9, .st [.i .u64 k, .i .i64 1, .i .i64 2, .i .i64 q, .i .i64 (-1), .i .i64 (-1)]), (10, .st [.i .u64 b.s, .i .i64 b.mi, .i .i64 b.pe, .i .i64 b.sk, .i .i64 b.lt, .i .i64 b.lk])]⟩) (n := W.length + 1) ⟨0, ⟨k, 2, 1, q, -1, -1⟩, by omega, rk, rfl⟩ ?_
    rintro n st ⟨j, b, hj, hb, rfl⟩
    by_cases hjl : j < W.length
    · obtain ⟨h1, h2, h3, h4, h5⟩ := hW _ (getD_mem (d := w0) hjl)
      obtain ⟨r, hr, -, cW⟩ := c_sendP ⟨k, 1, 2, q, -1, -1⟩ b rk hb (W.getD j w0).bk (W.getD j w0).sf (W.getD j w0).li (W.getD j w0).d rfl (W.getD j w0).nw (W.getD j w0).tk (W.getD j w0).a (W.getD j w0).ky (W.getD j w0).how ⟨h1, h2, h4, h5⟩
      dsimp only at cW
      have s1 := c_chSend k 1 2 q (-1) (-1) rk (W.getD j w0).sf (W.getD j w0).d rfl (1000 + (W.getD j w0).a / 8) (W.getD j w0).tk (W.getD j w0).li
      have s2 := c_rchSend k 1 2 q (-1) (-1) rk (W.getD j w0).sf (W.getD j w0).d rfl (1000 + (W.getD j w0).a / 8) (W.getD j w0).tk (W.getD j w0).li
      generalize chS ⟨k, 1, 2, q, -1, -1⟩ (W.getD j w0).sf (W.getD j w0).d (1000 + (W.getD j w0).a / 8) (W.getD j w0).tk (W.getD j w0).li = S1 at *
      have r1 := c_chRead b.s b.mi b.pe b.sk b.lt b.lk hb r rfl (by omega) (1000 + (W.getD j w0).a / 8)
      have r2 := c_rchRead b.s b.mi b.pe b.sk b.lt b.lk hb r rfl (by omega) (1000 + (W.getD j w0).a / 8)
      have hs := chR_s ⟨b.s, b.mi, b.pe, b.sk, b.lt, b.lk⟩ r (1000 + (W.getD j w0).a / 8)
      generalize chR ⟨b.s, b.mi, b.pe, b.sk, b.lt, b.lk⟩ r (1000 + (W.getD j w0).a / 8) = R1 at *
      dsimp only at hs
      (repeat' ((conv => whnf) <;> first | with_reducible refine boolK_refl ?_ | refine natK_of (j := j) (by omega) ?_ | exact rfl | with_reducible refine boolK_dec (fun _ => ?_) (fun _ => ?_) <;> try (exfalso; omega) | refine boolK_beq (fun _ => ?_) (fun _ => ?_) <;> try (exfalso; first | omega | contradiction) | refine boolK_bne (fun _ => ?_) (fun _ => ?_) <;> try (exfalso; first | omega | contradiction) | (with_reducible first | refine boolK_not ?_ | refine boolK_and ?_ | refine boolK_or ?_ | refine boolK_true ?_ | refine boolK_false ?_) | refine boolK_intro (fun _ => ?_) (fun _ => ?_) <;> try (exfalso; simp_all; done) | refine jA ?_ | refine jB ?_ | refine jC ?_ | refine jD ?_ | refine jE ?_ | refine jF ?_ | refine jG ?_ | refine jH ?_ | refine jI ?_ | refine jJ ?_ | refine jK ?_ | with_reducible refine natK_lit ?_ | refine natK_of rfl ?_ | refine natK_any ?_ | refine jL ?_ | refine jM ?_ | refine jN ?_ | refine jP ?_ | refine jQ ?_ | refine jR ?_ | refine jS ?_ | refine jT ?_ | refine jU (fun _ => ?_) | refine jV ?_ | refine jW ?_ | refine jX ?_ | refine jY ?_ | refine jZ ?_ | refine ja ?_ | refine jb ?_ | refine jc ?_ | refine jd ?_ | refine je ?_ | refine jf ?_ | refine jg ?_ | refine jh ?_ | refine ji ?_ | refine jj ?_ | refine jk ?_ | refine jn ?_ | refine jo ?_ | refine jp ?_ | refine jq ?_ | refine jr ?_ | refine js ?_ | refine callK_intro (cW) ?_ | refine callK_intro (s1) ?_ | refine callK_intro (s2) ?_ | refine callK_intro (r1) ?_ | refine callK_intro (r2) ?_ | refine headB_w (by omega) ?_ | refine headB_w1 (by omega) ?_ | refine headB_w2 (by omega) ?_ | refine headV_w3 (by omega) ?_ | refine headI_w5 (by omega) ?_ | refine headI_w6 (by omega) ?_ | exact ⟨n - 1, by omega, j + 1, R1.1, by omega, by omega, rfl⟩ | refine jt ?_ | refine jx ?_ | refine jy ?_ | refine ju ?_ | refine jv ?_)) <;> (try (conv => whnf))
    · have r1 := c_chRead b.s b.mi b.pe b.sk b.lt b.lk hb raw rfl (by omega) now
      have r2 := c_rchRead b.s b.mi b.pe b.sk b.lt b.lk hb raw rfl (by omega) now
      have hs := chR_s ⟨b.s, b.mi, b.pe, b.sk, b.lt, b.lk⟩ raw now
      generalize chR ⟨b.s, b.mi, b.pe, b.sk, b.lt, b.lk⟩ raw now = R1 at *
      dsimp only at hs
      (repeat' ((conv => whnf) <;> first | with_reducible refine boolK_refl ?_ | exact rfl | with_reducible refine boolK_dec (fun _ => ?_) (fun _ => ?_) <;> try (exfalso; omega) | refine boolK_beq (fun _ => ?_) (fun _ => ?_) <;> try (exfalso; first | omega | contradiction) | refine boolK_bne (fun _ => ?_) (fun _ => ?_) <;> try (exfalso; first | omega | contradiction) | (with_reducible first | refine boolK_not ?_ | refine boolK_and ?_ | refine boolK_or ?_ | refine boolK_true ?_ | refine boolK_false ?_) | refine boolK_intro (fun _ => ?_) (fun _ => ?_) <;> try (exfalso; simp_all; done) | refine jA ?_ | refine jB ?_ | refine jC ?_ | refine jD ?_ | refine jE ?_ | refine jF ?_ | refine jG ?_ | refine jH ?_ | refine jI ?_ | refine jJ ?_ | refine jK ?_ | with_reducible refine natK_lit ?_ | refine natK_of rfl ?_ | refine natK_any ?_ | refine jL ?_ | refine jM ?_ | refine jN ?_ | refine jP ?_ | refine jQ ?_ | refine jR ?_ | refine jS ?_ | refine jT ?_ | refine jU (fun _ => ?_) | refine jV ?_ | refine jW ?_ | refine jX ?_ | refine jY ?_ | refine jZ ?_ | refine ja ?_ | refine jb ?_ | refine jc ?_ | refine jd ?_ | refine je ?_ | refine jf ?_ | refine jg ?_ | refine jh ?_ | refine ji ?_ | refine jj ?_ | refine jk ?_ | refine jn ?_ | refine jo ?_ | refine jp ?_ | refine jq ?_ | refine jr ?_ | refine js ?_ | refine callK_intro (r1) ?_ | refine callK_intro (r2) ?_ | exact ⟨n - 1, by omega, j + 1, R1.1, by omega, by omega, rfl⟩ | refine jt ?_ | refine jx ?_ | refine jy ?_ | refine ju ?_ | refine jv ?_)) <;> (try (conv => whnf))
end Go.Sx
namespace Go.Proofs.Ytkphcbogdmblnaa
open Go.ChangeShapes Go.WideShapes Go.ChangeAt Go.RowKit Go.Sx
namespace ChannelReadsProof
set_option maxRecDepth 100000 in
theorem walk (W : World) (v0 v1 v2 v3 : Value) (ls0 ls1 ls2 ls3 : List L)
    (t0 : Typ (tabF tab) 5 ls0) (t1 : Typ (tabF tab) 35 ls1) (t2 : Typ (tabF tab) 36 ls2) (t3 : Typ (tabF tab) 3 ls3)
    (r0 : RelC (fun _ => False) W noMu (argC (tabF tab 5).agg ls0) v0) (r1 : RelC (fun _ => False) W noMu (argC (tabF tab 35).agg ls1) v1) (r2 : RelC (fun _ => False) W noMu (argC (tabF tab 36).agg ls2) v2) (r3 : RelC (fun _ => False) W noMu (argC (tabF tab 3).agg ls3) v3) :
    Calls Try.prog 4 #[v0, v1, v2, v3] W fun e w' => e = .returned (.bool true) ∧ Below W.heap.size W w' := by
  obtain ⟨a0, rfl⟩ := typ_u8 t0 rfl
  obtain ⟨a1, rfl, wa1⟩ := typ_slice t1 rfl
  obtain ⟨a2, rfl⟩ := typ_bytes t2 rfl rfl
  obtain ⟨a3, rfl, wa3⟩ := typ_int t3 rfl
  exact calls_of_fn Try.func4 rfl rfl (c_ChannelReads a0 _ wa1 a2 a3) (relCs_cons r0 (relCs_cons r1 (relCs_cons r2 (relCs_cons r3 relCs_nil))))

set_option maxRecDepth 100000 in
theorem lifted (os : Os) (started : os.Started) (H : Type) (enc : TypeId × Value → H) :
    ReturnsInHanded {} Try.checked os 4 .any (Rows.channelReadsSpec.pre6 enc Try.prog Try.f4 Rows.channelReadsRow.domain false) (Rows.channelReadsSpec.post enc Try.prog Try.f4 false true false false) := by
  refine returnsInHanded_of_change (C := Try.checked) ownA started (by kernel_rfl) Try.func4
    (ChangeSpec.witness6 (enc := enc) (C := Try.checked) false ⟨#[], #[.int .u8 0, .slice none 0 0, .slice none 0 0, .int .i64 0], []⟩ 8 (by kernel_rfl) (by kernel_rfl) (by kernel_rfl) (by kernel_rfl)) ?_
  intro W base args ds gs before hval0 hW hcnd _
  have hval : ∀ (j : Nat) t v, Try.f4.params[j]? = some t → args[j]? = some v → Value.okWide Try.prog W .any base t v := hval0
  have hW' := hW
  obtain ⟨p, q, hA0, hV, rfl, hfz, hnd⟩ := hW
  have hA : DataW.TrodAll enc Try.prog W 0 (fun _ => true) true Try.f4.params.toList args.toList ds p := hA0
  rw [Try.params4] at hA hval
  obtain ⟨v0, vs0, d0, ds0, p0, q0, hargs, rfl, rfl, h0, r0⟩ := trodAll_cons hA
  obtain ⟨v1, vs1, d1, ds1, p1, q1, rfl, rfl, rfl, h1, r1⟩ := trodAll_cons r0
  obtain ⟨v2, vs2, d2, ds2, p2, q2, rfl, rfl, rfl, h2, r2⟩ := trodAll_cons r1
  obtain ⟨v3, vs3, d3, ds3, p3, q3, rfl, rfl, rfl, h3, r3⟩ := trodAll_cons r2
  obtain ⟨rfl, rfl, rfl⟩ := trodAll_nil r3
  obtain rfl : args = #[v0, v1, v2, v3] := by cases args; simp_all
  obtain ⟨rfl, rfl⟩ := trodVars_none hV
  obtain ⟨ls0, t0, c0⟩ := rel_arg tokA (n := 9) rfl h0 (hval 0 5 v0 rfl rfl)
  obtain ⟨ls1, t1, c1⟩ := rel_arg tokA (n := 9) rfl h1 (hval 1 35 v1 rfl rfl)
  obtain ⟨ls2, t2, c2⟩ := rel_arg tokA (n := 9) rfl h2 (hval 2 36 v2 rfl rfl)
  obtain ⟨ls3, t3, c3⟩ := rel_arg tokA (n := 9) rfl h3 (hval 3 3 v3 rfl rfl)
  have lt0 : ∀ x ∈ p0, x.block < W.heap.size := by obtain ⟨m, hm⟩ := h0; exact DataW.trod_lt m _ _ _ hm
  have lt1 : ∀ x ∈ p1, x.block < W.heap.size := by obtain ⟨m, hm⟩ := h1; exact DataW.trod_lt m _ _ _ hm
  have lt2 : ∀ x ∈ p2, x.block < W.heap.size := by obtain ⟨m, hm⟩ := h2; exact DataW.trod_lt m _ _ _ hm
  have lt3 : ∀ x ∈ p3, x.block < W.heap.size := by obtain ⟨m, hm⟩ := h3; exact DataW.trod_lt m _ _ _ hm
  clear hA0 hval0
  refine (walk W v0 v1 v2 v3 ls0 ls1 ls2 ls3 t0 t1 t2 t3 c0 c1 c2 c3).mono fun e W' ⟨he, bel⟩ => ?_
  subst he
  exact ⟨_, rfl, _, _, _, [], _, [], hW', trodAll_mk1 (shut_bool Try.underlying4 _), (trodAll_cons_mk (Below.trod laidOutA (by kernel_rfl) (of_decide_eq_true (by kernel_rfl)) h0 bel lt0) (trodAll_cons_mk (Below.trod laidOutA (by kernel_rfl) (of_decide_eq_true (by kernel_rfl)) h1 bel lt1) (trodAll_cons_mk (Below.trod laidOutA (by kernel_rfl) (of_decide_eq_true (by kernel_rfl)) h2 bel lt2) (trodAll_cons_mk (Below.trod laidOutA (by kernel_rfl) (of_decide_eq_true (by kernel_rfl)) h3 bel lt3) trodAll_mk0)))), rfl, bel.frame _, fun h => by cases h⟩

theorem over : Rows.channelReadsRow.holds Try.pinned (OpenSpec.ofChange Rows.channelReadsSpec) :=
  OpenClaim.holds_of_wide 4 Try.f4 rfl rfl rfl rfl rfl rfl rfl ⟨rfl, rfl, rfl, rfl, rfl⟩ rfl rfl rfl rfl rfl (by kernel_rfl) Try.func4 (by kernel_rfl)
    (of_decide_eq_true (by kernel_rfl)) (by unfold Func.isWrapper; first | (rw [if_pos (by decide +kernel)]; kernel_rfl) | (rw [if_neg (by decide +kernel)]; exact ⟨rfl, rfl⟩))
    (fun os started H enc _ => lifted os started H enc)
end ChannelReadsProof

theorem channelReads_proved : Rows.ChannelReadsSaid := ChannelReadsProof.over
#print axioms channelReads_proved
end Go.Proofs.Ytkphcbogdmblnaa

/-
  The statement TicketEncodes: the law returns true for every input; no conditions.
-/
import Derived.Test.YtjgiijcnhhnkkabCTickL
import Derived.Test.YtjgiijcnhhnkkabLOwn
set_option linter.all false
namespace Go.Sx
open Go.Proofs
noncomputable def g10 : Par := par 67 (nthLL [[1, 2], [1, 2, 14], [4], [1, 2, 21], [4], [1, 2, 5], [1, 2, 5, 23], [1, 2, 5], [1, 2, 5, 6], [1, 2, 5, 6, 7, 8], [1, 2, 5, 6, 7, 8, 9, 10], [1, 2, 5, 6, 7, 8, 52], [4], [1, 2, 5, 6, 7, 54], [1, 2, 5, 6, 11, 12], [1, 2, 5, 66], [4], [4]]) [4] (nthLL [[], [], [], [], [], [], [], [], [0, 0, 2, 7, 0, 31, 63, 0, 255]])
set_option maxRecDepth 10000
set_option maxHeartbeats 4000000
theorem c_TicketEncodes (li : Bool) (x y z : List UInt8) (ad se lf is : Int) (sn si : List UInt8) (hse : 0 ≤ se ∧ se ≤ 18446744073709551615) (q : List UInt8) : Fn Try.prog 10 [.a [.b li, .s x, .s y, .s z, .i .i64 ad, .i .u64 se, .i .i64 lf, .i .i64 is, .s sn, .s si], .o (.sl (q.map u8) q.length)] [] (.one (.c (.o (.b true)))) [] := by
  refine Fn_intro (G := g10) (goodA rfl) (fn := Try.f10) rfl rfl rfl rfl rfl ?_
  by_cases hl : x.length > 100 ∨ y.length > 100 ∨ z.length > 100 ∨ sn.length > 100 ∨ si.length > 100 ∨ q.length > 40
  · (repeat' ((conv => whnf) <;>
           first
           | exact rfl
           | with_reducible refine boolK_dec (fun _ => ?_) (fun _ => ?_) <;> try (exfalso; omega)
           | refine boolK_beq (fun _ => ?_) (fun _ => ?_) <;> try (exfalso; first | omega | contradiction)
           | refine boolK_bne (fun _ => ?_) (fun _ => ?_) <;> try (exfalso; first | omega | contradiction)
           | with_reducible refine boolK_not ?_
           | with_reducible refine boolK_and ?_
           | with_reducible refine boolK_or ?_
           | with_reducible refine boolK_true ?_
           | with_reducible refine boolK_false ?_
           | refine boolK_intro (fun _ => ?_) (fun _ => ?_) <;> try (exfalso; simp_all; done)
           | refine wrapK_i64 (by omega) ?_
           | refine wrapK_u8 (by omega) ?_
           | refine convK_i64 (by omega) ?_
           | refine convK_byte ?_
           | refine convK_u64 (by omega) ?_
           | refine convK_u16 (by omega) ?_
           | refine convK_u32 (by omega) ?_
           | refine wrapK_byte ?_
           | refine wrapK_u64 (by omega) ?_
           | refine wrapK_u32 (by omega) ?_
           | refine wrapK_u16 (by omega) ?_
           | with_reducible refine natK_lit ?_
           | refine natK_of rfl ?_
           | refine natK_any ?_
           | refine quoK_i64 (by omega) ?_
           | refine quoK_u8 (by omega) ?_
           | refine quoK_u16 (by omega) ?_
           | refine remK_pos (by omega) ?_
           | refine headI_cons ?_
           | refine headS_cons ?_
           | refine headB_cons ?_
           | refine headV_cons ?_
           | refine headX_cons ?_
           | refine headI_u8 (by first | omega | (simp; omega)) (fun _ => ?_)
           | refine headI_ints (by first | omega | (simp; omega)) ?_
           | refine bytesK_map ?_
           | refine catK_nil ?_
           | refine catK_nil' ?_
           | refine catK_u8 ?_
           | refine catK_one ?_
           | refine catK_lit (by omega) ?_
           | refine catK_ints ?_
           | refine catK_int1 ?_
           | refine packK_u8 ?_
           | refine packK_0 ?_
           | refine packK_1 (by omega) ?_
           | refine packK_2 (by omega) (by omega) ?_
           | refine packK_3 (by omega) (by omega) (by omega) ?_
           | refine packK_4 (by omega) (by omega) (by omega) (by omega) ?_
           | refine packK_any ?_
           | refine shrK_8 0 (by omega) rfl (by omega) ?_
           | refine shrK_8 1 (by omega) rfl (by omega) ?_
           | refine shrK_8 2 (by omega) rfl (by omega) ?_
           | refine shrK_8 3 (by omega) rfl (by omega) ?_
           | refine shlK_8 (by omega) (by omega) ?_
           | refine bitK_or8 (by omega) (by omega) ?_
           | refine nilK_no (by omega) ?_
           | refine takeC_u8 ?_
           | refine dropC_u8 ?_
           | refine dropC_zero ?_
           | refine takeC_any ?_
           | refine dropC_any ?_
           | refine callK_intro (c_awake6) ?_
           | refine callK_intro (c_long6 _ _ _ _ _ _ _ _ _ _) ?_
           | refine catK_any ?_
           | refine eitherK_l ?_
           | refine nlK_sl ?_
           | refine sideK_intro (by first | omega | rfl | exact Nat.le_of_ble_eq_true rfl | (refine ⟨?_, ?_⟩ <;> first | omega | (simp; done) | (simp; omega)) | (simp; done) | (simp; omega)) ?_
           | refine drawK_intro (by kernel_rfl) (by kernel_rfl) ?_)) <;> (try (conv => whnf))
  · obtain ⟨a, b, c, d, e, f, g, h, i, j, hv, hf, cA⟩ := c_Ticket q rfl (by omega)
    obtain ⟨v1, v2, v3, _⟩ := tickC_ok hv
    obtain ⟨l1, l2, l3⟩ := valid_len v1
    have l4 := name_len v2
    have l5 := inst_len v3
    have key : ∀ (a : Bool) (b c d : List UInt8) (e f g h : Int) (i j : List UInt8), (0 ≤ f ∧ f ≤ 18446744073709551615) → tickC b c d e f g h i j = 0 → Fn Try.prog 58 [.o (.sl ((tickE a b c d e f g h i j).map u8) (tickE a b c d e f g h i j).length)] [] (.tup [.c (.a [.b a, .s b, .s c, .s d, .i .i64 e, .i .u64 f, .i .i64 g, .i .i64 h, .s i, .s j]), .c (.o (.i .i64 0))]) [] := by
      intro a b c d e f g h i j hf hv
      have hln := tickE_len (li := a) hv
      have c1 := c_DecodeT (tickE a b c d e f g h i j) rfl (by omega)
      rw [tickD_trip hf hv rfl] at c1
      exact c1
    have k1 := key a b c d e f g h i j hf hv
    have cE := c_EncodeT a b c d e f g h i j hf (by omega) (by omega) (by omega) (by omega) (by omega)
    have cR := c_rEncodeT a b c d e f g h i j hf (by omega) (by omega) (by omega) (by omega) (by omega)
    rw [tickN_ok hv] at cE cR
    dsimp only at cE cR
    generalize tickE a b c d e f g h i j = E at cE cR k1
    have dE := c_EncodeT li x y z ad se lf is sn si hse (by omega) (by omega) (by omega) (by omega) (by omega)
    have dR := c_rEncodeT li x y z ad se lf is sn si hse (by omega) (by omega) (by omega) (by omega) (by omega)
    by_cases hx : tickC x y z ad se lf is sn si = 0
    · have k2 := key li x y z ad se lf is sn si hse hx
      rw [tickN_ok hx] at dE dR
      dsimp only at dE dR
      generalize tickE li x y z ad se lf is sn si = E' at dE dR k2
      clear key
      (repeat' ((conv => whnf) <;>
           first
           | exact rfl
           | with_reducible refine boolK_dec (fun _ => ?_) (fun _ => ?_) <;> try (exfalso; omega)
           | refine boolK_beq (fun _ => ?_) (fun _ => ?_) <;> try (exfalso; first | omega | contradiction)
           | refine boolK_bne (fun _ => ?_) (fun _ => ?_) <;> try (exfalso; first | omega | contradiction)
           | with_reducible refine boolK_not ?_
           | with_reducible refine boolK_and ?_
           | with_reducible refine boolK_or ?_
           | with_reducible refine boolK_true ?_
           | with_reducible refine boolK_false ?_
           | refine boolK_intro (fun _ => ?_) (fun _ => ?_) <;> try (exfalso; simp_all; done)
           | refine wrapK_i64 (by omega) ?_
           | refine wrapK_u8 (by omega) ?_
           | refine convK_i64 (by omega) ?_
           | refine convK_byte ?_
           | refine convK_u64 (by omega) ?_
           | refine convK_u16 (by omega) ?_
           | refine convK_u32 (by omega) ?_
           | refine wrapK_byte ?_
           | refine wrapK_u64 (by omega) ?_
           | refine wrapK_u32 (by omega) ?_
           | refine wrapK_u16 (by omega) ?_
           | with_reducible refine natK_lit ?_
           | refine natK_of rfl ?_
           | refine natK_any ?_
           | refine quoK_i64 (by omega) ?_
           | refine quoK_u8 (by omega) ?_
           | refine quoK_u16 (by omega) ?_
           | refine remK_pos (by omega) ?_
           | refine headI_cons ?_
           | refine headS_cons ?_
           | refine headB_cons ?_
           | refine headV_cons ?_
           | refine headX_cons ?_
           | refine headI_u8 (by first | omega | (simp; omega)) (fun _ => ?_)
           | refine headI_ints (by first | omega | (simp; omega)) ?_
           | refine bytesK_map ?_
           | refine catK_nil ?_
           | refine catK_nil' ?_
           | refine catK_u8 ?_
           | refine catK_one ?_
           | refine catK_lit (by omega) ?_
           | refine catK_ints ?_
           | refine catK_int1 ?_
           | refine packK_u8 ?_
           | refine packK_0 ?_
           | refine packK_1 (by omega) ?_
           | refine packK_2 (by omega) (by omega) ?_
           | refine packK_3 (by omega) (by omega) (by omega) ?_
           | refine packK_4 (by omega) (by omega) (by omega) (by omega) ?_
           | refine packK_any ?_
           | refine shrK_8 0 (by omega) rfl (by omega) ?_
           | refine shrK_8 1 (by omega) rfl (by omega) ?_
           | refine shrK_8 2 (by omega) rfl (by omega) ?_
           | refine shrK_8 3 (by omega) rfl (by omega) ?_
           | refine shlK_8 (by omega) (by omega) ?_
           | refine bitK_or8 (by omega) (by omega) ?_
           | refine nilK_no (by omega) ?_
           | refine takeC_u8 ?_
           | refine dropC_u8 ?_
           | refine dropC_zero ?_
           | refine takeC_any ?_
           | refine dropC_any ?_
           | refine callK_intro (c_awake6) ?_
           | refine callK_intro (c_long6 _ _ _ _ _ _ _ _ _ _) ?_
           | refine callK_intro (cA) ?_
           | refine callK_intro (cE) ?_
           | refine callK_intro (cR) ?_
           | refine callK_intro (dE) ?_
           | refine callK_intro (dR) ?_
           | refine callK_intro (k1) ?_
           | refine callK_intro (k2) ?_
           | refine loopK_step (G := g10) ?_
           | refine catK_any ?_
           | refine eitherK_l ?_
           | refine nlK_sl ?_
           | refine sideK_intro (by first | omega | rfl | exact Nat.le_of_ble_eq_true rfl | (refine ⟨?_, ?_⟩ <;> first | omega | (simp; done) | (simp; omega)) | (simp; done) | (simp; omega)) ?_
           | refine drawK_intro (by kernel_rfl) (by kernel_rfl) ?_)) <;> (try (conv => whnf))
    · rw [tickN_no hx] at dE dR
      dsimp only at dE dR
      generalize tickC x y z ad se lf is sn si = er at dE dR hx
      clear key
      (repeat' ((conv => whnf) <;>
           first
           | exact rfl
           | with_reducible refine boolK_dec (fun _ => ?_) (fun _ => ?_) <;> try (exfalso; omega)
           | refine boolK_beq (fun _ => ?_) (fun _ => ?_) <;> try (exfalso; first | omega | contradiction)
           | refine boolK_bne (fun _ => ?_) (fun _ => ?_) <;> try (exfalso; first | omega | contradiction)
           | with_reducible refine boolK_not ?_
           | with_reducible refine boolK_and ?_
           | with_reducible refine boolK_or ?_
           | with_reducible refine boolK_true ?_
           | with_reducible refine boolK_false ?_
           | refine boolK_intro (fun _ => ?_) (fun _ => ?_) <;> try (exfalso; simp_all; done)
           | refine wrapK_i64 (by omega) ?_
           | refine wrapK_u8 (by omega) ?_
           | refine convK_i64 (by omega) ?_
           | refine convK_byte ?_
           | refine convK_u64 (by omega) ?_
           | refine convK_u16 (by omega) ?_
           | refine convK_u32 (by omega) ?_
           | refine wrapK_byte ?_
           | refine wrapK_u64 (by omega) ?_
           | refine wrapK_u32 (by omega) ?_
           | refine wrapK_u16 (by omega) ?_
           | with_reducible refine natK_lit ?_
           | refine natK_of rfl ?_
           | refine natK_any ?_
           | refine quoK_i64 (by omega) ?_
           | refine quoK_u8 (by omega) ?_
           | refine quoK_u16 (by omega) ?_
           | refine remK_pos (by omega) ?_
           | refine headI_cons ?_
           | refine headS_cons ?_
           | refine headB_cons ?_
           | refine headV_cons ?_
           | refine headX_cons ?_
           | refine headI_u8 (by first | omega | (simp; omega)) (fun _ => ?_)
           | refine headI_ints (by first | omega | (simp; omega)) ?_
           | refine bytesK_map ?_
           | refine catK_nil ?_
           | refine catK_nil' ?_
           | refine catK_u8 ?_
           | refine catK_one ?_
           | refine catK_lit (by omega) ?_
           | refine catK_ints ?_
           | refine catK_int1 ?_
           | refine packK_u8 ?_
           | refine packK_0 ?_
           | refine packK_1 (by omega) ?_
           | refine packK_2 (by omega) (by omega) ?_
           | refine packK_3 (by omega) (by omega) (by omega) ?_
           | refine packK_4 (by omega) (by omega) (by omega) (by omega) ?_
           | refine packK_any ?_
           | refine shrK_8 0 (by omega) rfl (by omega) ?_
           | refine shrK_8 1 (by omega) rfl (by omega) ?_
           | refine shrK_8 2 (by omega) rfl (by omega) ?_
           | refine shrK_8 3 (by omega) rfl (by omega) ?_
           | refine shlK_8 (by omega) (by omega) ?_
           | refine bitK_or8 (by omega) (by omega) ?_
           | refine nilK_no (by omega) ?_
           | refine takeC_u8 ?_
           | refine dropC_u8 ?_
           | refine dropC_zero ?_
           | refine takeC_any ?_
           | refine dropC_any ?_
           | refine callK_intro (c_awake6) ?_
           | refine callK_intro (c_long6 _ _ _ _ _ _ _ _ _ _) ?_
           | refine callK_intro (cA) ?_
           | refine callK_intro (cE) ?_
           | refine callK_intro (cR) ?_
           | refine callK_intro (dE) ?_
           | refine callK_intro (dR) ?_
           | refine callK_intro (k1) ?_
           | refine loopK_step (G := g10) ?_
           | refine catK_any ?_
           | refine eitherK_l ?_
           | refine nlK_sl ?_
           | refine sideK_intro (by first | omega | rfl | exact Nat.le_of_ble_eq_true rfl | (refine ⟨?_, ?_⟩ <;> first | omega | (simp; done) | (simp; omega)) | (simp; done) | (simp; omega)) ?_
           | refine drawK_intro (by kernel_rfl) (by kernel_rfl) ?_)) <;> (try (conv => whnf))
end Go.Sx
namespace Go.Proofs.Ytjgiijcnhhnkkab
open Go.ChangeShapes Go.WideShapes Go.ChangeAt Go.RowKit Go.Sx
namespace TicketEncodesProof
set_option maxRecDepth 100000 in
theorem walk (W : World) (v0 v1 : Value) (ls0 ls1 : List L)
    (t0 : Typ (tabF tab) 33 ls0) (t1 : Typ (tabF tab) 38 ls1)
    (r0 : RelC (fun _ => False) W noMu (argC (tabF tab 33).agg ls0) v0) (r1 : RelC (fun _ => False) W noMu (argC (tabF tab 38).agg ls1) v1) :
    Calls Try.prog 10 #[v0, v1] W fun e w' => e = .returned (.bool true) ∧ Below W.heap.size W w' := by
  obtain ⟨partsa0, rfl, hla0, hpa0⟩ := typ_struct t0 rfl
  obtain ⟨qa0_0, qa0_1, qa0_2, qa0_3, qa0_4, qa0_5, qa0_6, qa0_7, rfl⟩ : ∃ qa0_0 qa0_1 qa0_2 qa0_3 qa0_4 qa0_5 qa0_6 qa0_7, partsa0 = [qa0_0, qa0_1, qa0_2, qa0_3, qa0_4, qa0_5, qa0_6, qa0_7] := by
    match partsa0, hla0 with
    | [qa0_0, qa0_1, qa0_2, qa0_3, qa0_4, qa0_5, qa0_6, qa0_7], _ => exact ⟨qa0_0, qa0_1, qa0_2, qa0_3, qa0_4, qa0_5, qa0_6, qa0_7, rfl⟩
  have ta0_0 := hpa0 0 _ qa0_0 rfl rfl
  obtain ⟨a0_0, rfl⟩ := typ_bool ta0_0 rfl
  have ta0_1 := hpa0 1 _ qa0_1 rfl rfl
  obtain ⟨partsa0_1, rfl, hla0_1, hpa0_1⟩ := typ_struct ta0_1 rfl
  obtain ⟨qa0_1_0, qa0_1_1, qa0_1_2, rfl⟩ : ∃ qa0_1_0 qa0_1_1 qa0_1_2, partsa0_1 = [qa0_1_0, qa0_1_1, qa0_1_2] := by
    match partsa0_1, hla0_1 with
    | [qa0_1_0, qa0_1_1, qa0_1_2], _ => exact ⟨qa0_1_0, qa0_1_1, qa0_1_2, rfl⟩
  have ta0_1_0 := hpa0_1 0 _ qa0_1_0 rfl rfl
  obtain ⟨a0_1_0, rfl⟩ := typ_str ta0_1_0 rfl
  have ta0_1_1 := hpa0_1 1 _ qa0_1_1 rfl rfl
  obtain ⟨a0_1_1, rfl⟩ := typ_str ta0_1_1 rfl
  have ta0_1_2 := hpa0_1 2 _ qa0_1_2 rfl rfl
  obtain ⟨a0_1_2, rfl⟩ := typ_str ta0_1_2 rfl
  have ta0_2 := hpa0 2 _ qa0_2 rfl rfl
  obtain ⟨a0_2, rfl, wa0_2⟩ := typ_int ta0_2 rfl
  have ta0_3 := hpa0 3 _ qa0_3 rfl rfl
  obtain ⟨a0_3, rfl, wa0_3⟩ := typ_int ta0_3 rfl
  have ta0_4 := hpa0 4 _ qa0_4 rfl rfl
  obtain ⟨a0_4, rfl, wa0_4⟩ := typ_int ta0_4 rfl
  have ta0_5 := hpa0 5 _ qa0_5 rfl rfl
  obtain ⟨a0_5, rfl, wa0_5⟩ := typ_int ta0_5 rfl
  have ta0_6 := hpa0 6 _ qa0_6 rfl rfl
  obtain ⟨a0_6, rfl⟩ := typ_str ta0_6 rfl
  have ta0_7 := hpa0 7 _ qa0_7 rfl rfl
  obtain ⟨a0_7, rfl⟩ := typ_str ta0_7 rfl
  obtain ⟨a1, rfl⟩ := typ_bytes t1 rfl rfl
  exact calls_of_fn Try.func10 rfl rfl (c_TicketEncodes a0_0 a0_1_0 a0_1_1 a0_1_2 a0_2 a0_3 a0_4 a0_5 a0_6 a0_7 (wf_u64 wa0_3) a1) (relCs_cons r0 (relCs_cons r1 relCs_nil))

set_option maxRecDepth 100000 in
theorem lifted (os : Os) (started : os.Started) (H : Type) (enc : TypeId × Value → H) :
    ReturnsInHanded {} Try.checked os 10 .any (Rows.ticketEncodesSpec.pre6 enc Try.prog Try.f10 Rows.ticketEncodesRow.domain false) (Rows.ticketEncodesSpec.post enc Try.prog Try.f10 false true false false) := by
  refine returnsInHanded_of_change (C := Try.checked) ownA started (by kernel_rfl) Try.func10
    (ChangeSpec.witness6 (enc := enc) (C := Try.checked) false ⟨#[], #[.agg #[.bool false, .string ByteArray.empty, .string ByteArray.empty, .string ByteArray.empty, .int .i64 0, .int .u64 0, .int .i64 0, .int .i64 0, .string ByteArray.empty, .string ByteArray.empty], .slice none 0 0], []⟩ 8 (by kernel_rfl) (by kernel_rfl) (by kernel_rfl) (by kernel_rfl)) ?_
  intro W base args ds gs before hval0 hW hcnd _
  have hval : ∀ (j : Nat) t v, Try.f10.params[j]? = some t → args[j]? = some v → Value.okWide Try.prog W .any base t v := hval0
  have hW' := hW
  obtain ⟨p, q, hA0, hV, rfl, hfz, hnd⟩ := hW
  have hA : DataW.TrodAll enc Try.prog W 0 (fun _ => true) true Try.f10.params.toList args.toList ds p := hA0
  rw [Try.params10] at hA hval
  obtain ⟨v0, vs0, d0, ds0, p0, q0, hargs, rfl, rfl, h0, r0⟩ := trodAll_cons hA
  obtain ⟨v1, vs1, d1, ds1, p1, q1, rfl, rfl, rfl, h1, r1⟩ := trodAll_cons r0
  obtain ⟨rfl, rfl, rfl⟩ := trodAll_nil r1
  obtain rfl : args = #[v0, v1] := by cases args; simp_all
  obtain ⟨rfl, rfl⟩ := trodVars_none hV
  obtain ⟨ls0, t0, c0⟩ := rel_arg tokA (n := 9) rfl h0 (hval 0 33 v0 rfl rfl)
  obtain ⟨ls1, t1, c1⟩ := rel_arg tokA (n := 9) rfl h1 (hval 1 38 v1 rfl rfl)
  have lt0 : ∀ x ∈ p0, x.block < W.heap.size := by obtain ⟨m, hm⟩ := h0; exact DataW.trod_lt m _ _ _ hm
  have lt1 : ∀ x ∈ p1, x.block < W.heap.size := by obtain ⟨m, hm⟩ := h1; exact DataW.trod_lt m _ _ _ hm
  clear hA0 hval0
  refine (walk W v0 v1 ls0 ls1 t0 t1 c0 c1).mono fun e W' ⟨he, bel⟩ => ?_
  subst he
  exact ⟨_, rfl, _, _, _, [], _, [], hW', trodAll_mk1 (shut_bool Try.underlying4 _), (trodAll_cons_mk (Below.trod laidOutA (by kernel_rfl) (of_decide_eq_true (by kernel_rfl)) h0 bel lt0) (trodAll_cons_mk (Below.trod laidOutA (by kernel_rfl) (of_decide_eq_true (by kernel_rfl)) h1 bel lt1) trodAll_mk0)), rfl, bel.frame _, fun h => by cases h⟩

theorem over : Rows.ticketEncodesRow.holds Try.pinned (OpenSpec.ofChange Rows.ticketEncodesSpec) :=
  OpenClaim.holds_of_wide 10 Try.f10 rfl rfl rfl rfl rfl rfl rfl ⟨rfl, rfl, rfl, rfl, rfl⟩ rfl rfl rfl rfl rfl (by kernel_rfl) Try.func10 (by kernel_rfl)
    (of_decide_eq_true (by kernel_rfl)) (by unfold Func.isWrapper; first | (rw [if_pos (by decide +kernel)]; kernel_rfl) | (rw [if_neg (by decide +kernel)]; exact ⟨rfl, rfl⟩))
    (fun os started H enc _ => lifted os started H enc)
end TicketEncodesProof

theorem ticketEncodes_proved : Rows.TicketEncodesSaid := TicketEncodesProof.over
#print axioms ticketEncodes_proved
end Go.Proofs.Ytjgiijcnhhnkkab

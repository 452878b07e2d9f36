/-
  The statement ConverterConverts: the law returns true for every input; no conditions.
-/
import Derived.Test.YtcmcjiacpahliaaCConvL
import Derived.Test.YtcmcjiacpahliaaLOwn
set_option linter.all false
namespace Go.Sx
open Go.Proofs
noncomputable def g3 : Par := par 80 (nthLL [[1, 2, 3, 4, 5, 6, 7], [1, 2, 3, 4, 5, 6, 7, 23], [14], [1, 2, 3, 4, 5, 6, 7, 29], [14], [5, 7, 15], [7, 15], [7, 15, 16], [7, 15, 16, 53], [7, 15, 16], [7, 15, 16, 17], [7, 15, 16, 17, 18, 19], [7, 15, 16, 18, 19, 20, 21], [7, 15, 16, 79], [14], [14]]) [14] (nthLL [])
set_option maxRecDepth 10000
set_option maxHeartbeats 4000000
theorem c_ConverterConverts (x y z u v w : List UInt8) (se st en ad : Int) (hse : 0 ≤ se ∧ se ≤ 18446744073709551615) (hst : -9223372036854775808 ≤ st ∧ st ≤ 9223372036854775807) (hen : -9223372036854775808 ≤ en ∧ en ≤ 9223372036854775807) (a b k : UInt8) (s l : Int) (hs : 0 ≤ s ∧ s ≤ 4294967295) (hl : 0 ≤ l ∧ l ≤ 4294967295) (d : UInt8) : Fn Try.prog 3 [.a [.s x, .s y, .s z, .s u, .s v, .s w, .i .u64 se, .i .i64 st, .i .i64 en, .i .i64 ad], .o (.i .u8 (a.toNat : Int)), .o (.i .u8 (b.toNat : Int)), .o (.i .u8 (k.toNat : Int)), .o (.i .u32 s), .o (.i .u32 l), .o (.i .u8 (d.toNat : Int))] [] (.one (.c (.o (.b true)))) [] := by
  have ha := byte_lt a
  have hb := byte_lt b
  have hk := byte_lt k
  have hd := byte_lt d
  refine Fn_intro (G := g3) (goodA rfl) (fn := Try.f3) rfl rfl rfl rfl rfl ?_
  by_cases hlong : x.length > 100 ∨ y.length > 100 ∨ z.length > 100 ∨ u.length > 100 ∨ v.length > 100 ∨ w.length > 100
  · (repeat' ((conv => whnf) <;>
           first
           | exact rfl
           | with_reducible refine boolK_dec (fun _ => ?_) (fun _ => ?_) <;> try (exfalso; omega)
           | refine boolK_beq (fun _ => ?_) (fun _ => ?_) <;> try (exfalso; first | omega | contradiction)
           | refine boolK_bne (fun _ => ?_) (fun _ => ?_) <;> try (exfalso; first | omega | contradiction)
           | with_reducible refine boolK_not ?_
           | with_reducible refine boolK_and ?_
           | with_reducible refine boolK_or ?_
           | with_reducible refine boolK_true ?_
           | with_reducible refine boolK_false ?_
           | refine boolK_intro (fun _ => ?_) (fun _ => ?_) <;> try (exfalso; simp_all; done)
           | refine wrapK_i64 (by omega) ?_
           | refine wrapK_u8 (by omega) ?_
           | refine convK_i64 (by omega) ?_
           | refine convK_byte ?_
           | refine convK_u64 (by omega) ?_
           | refine convK_u16 (by omega) ?_
           | refine convK_u32 (by omega) ?_
           | refine wrapK_byte ?_
           | refine wrapK_u64 (by omega) ?_
           | refine wrapK_u32 (by omega) ?_
           | refine wrapK_u16 (by omega) ?_
           | with_reducible refine natK_lit ?_
           | refine natK_of rfl ?_
           | refine natK_any ?_
           | refine quoK_i64 (by omega) ?_
           | refine quoK_u8 (by omega) ?_
           | refine quoK_u16 (by omega) ?_
           | refine remK_pos (by omega) ?_
           | refine headI_cons ?_
           | refine headS_cons ?_
           | refine headB_cons ?_
           | refine headV_cons ?_
           | refine headX_cons ?_
           | refine headI_u8 (by first | omega | (simp; omega)) (fun _ => ?_)
           | refine headI_ints (by first | omega | (simp; omega)) ?_
           | refine bytesK_map ?_
           | refine catK_nil ?_
           | refine catK_nil' ?_
           | refine catK_u8 ?_
           | refine catK_one ?_
           | refine catK_lit (by omega) ?_
           | refine catK_ints ?_
           | refine catK_int1 ?_
           | refine packK_u8 ?_
           | refine packK_0 ?_
           | refine packK_1 (by omega) ?_
           | refine packK_2 (by omega) (by omega) ?_
           | refine packK_3 (by omega) (by omega) (by omega) ?_
           | refine packK_4 (by omega) (by omega) (by omega) (by omega) ?_
           | refine packK_any ?_
           | refine shrK_8 0 (by omega) rfl (by omega) ?_
           | refine shrK_8 1 (by omega) rfl (by omega) ?_
           | refine shrK_8 2 (by omega) rfl (by omega) ?_
           | refine shrK_8 3 (by omega) rfl (by omega) ?_
           | refine shlK_8 (by omega) (by omega) ?_
           | refine bitK_or8 (by omega) (by omega) ?_
           | refine nilK_no (by omega) ?_
           | refine takeC_u8 ?_
           | refine dropC_u8 ?_
           | refine dropC_zero ?_
           | refine takeC_any ?_
           | refine dropC_any ?_
           | refine callK_intro (c_awake26) ?_
           | refine callK_intro (c_long26 _ _ _ _ _ _) ?_
           | refine catK_any ?_
           | refine eitherK_l ?_
           | refine nlK_sl ?_
           | refine sideK_intro (by first | omega | rfl | exact Nat.le_of_ble_eq_true rfl | (refine ⟨?_, ?_⟩ <;> first | omega | (simp; done) | (simp; omega)) | (simp; done) | (simp; omega)) ?_
           | refine drawK_intro (by kernel_rfl) (by kernel_rfl) ?_)) <;> (try (conv => whnf))
  · have m1 := valid_len (user_valid a.toNat ((a.toNat : Int) / 3))
    have m2 := service_valid b.toNat
    have m3 := name_len m2.1
    have m4 := inst_len m2.2
    have ms := sess_range (n := (k.toNat : Int)) (by omega)
    have cU := c_User (a.toNat : Int) (by omega)
    have cS := c_Service (b.toNat : Int) (by omega)
    have cK := c_Session (k.toNat : Int) (by omega)
    generalize userN a.toNat = U at *
    generalize realmN ((a.toNat : Int) / 3) = R at *
    generalize serviceN b.toNat = N at *
    generalize serviceI b.toNat = I at *
    generalize realmN ((b.toNat : Int) / 3) = R' at *
    generalize sessN (k.toNat : Int) = S at *
    have c1 := c_Convert x y z u v w se st en ad hse hst hen (by omega) (by omega) (by omega) (by omega) (by omega)
    have c2 := c_rConvert x y z u v w se st en ad hse hst hen (by omega) (by omega) (by omega) (by omega) (by omega)
    generalize convS x y z u v se st en ad = V at c1 c2
    have c3 := c_Convert U [] R N I R' S (s % 100000) (s % 100000 + l % 100000) (d.toNat : Int) ms (by omega) (by omega) (by omega) (by simp) (by omega) (by omega) (by omega)
    have c4 := c_rConvert U [] R N I R' S (s % 100000) (s % 100000 + l % 100000) (d.toNat : Int) ms (by omega) (by omega) (by omega) (by simp) (by omega) (by omega) (by omega)
    generalize convS U [] R N I S (s % 100000) (s % 100000 + l % 100000) (d.toNat : Int) = V' at c3 c4
    (repeat' ((conv => whnf) <;>
           first
           | exact rfl
           | with_reducible refine boolK_dec (fun _ => ?_) (fun _ => ?_) <;> try (exfalso; omega)
           | refine boolK_beq (fun _ => ?_) (fun _ => ?_) <;> try (exfalso; first | omega | contradiction)
           | refine boolK_bne (fun _ => ?_) (fun _ => ?_) <;> try (exfalso; first | omega | contradiction)
           | with_reducible refine boolK_not ?_
           | with_reducible refine boolK_and ?_
           | with_reducible refine boolK_or ?_
           | with_reducible refine boolK_true ?_
           | with_reducible refine boolK_false ?_
           | refine boolK_intro (fun _ => ?_) (fun _ => ?_) <;> try (exfalso; simp_all; done)
           | refine wrapK_i64 (by omega) ?_
           | refine wrapK_u8 (by omega) ?_
           | refine convK_i64 (by omega) ?_
           | refine convK_byte ?_
           | refine convK_u64 (by omega) ?_
           | refine convK_u16 (by omega) ?_
           | refine convK_u32 (by omega) ?_
           | refine wrapK_byte ?_
           | refine wrapK_u64 (by omega) ?_
           | refine wrapK_u32 (by omega) ?_
           | refine wrapK_u16 (by omega) ?_
           | with_reducible refine natK_lit ?_
           | refine natK_of rfl ?_
           | refine natK_any ?_
           | refine quoK_i64 (by omega) ?_
           | refine quoK_u8 (by omega) ?_
           | refine quoK_u16 (by omega) ?_
           | refine remK_pos (by omega) ?_
           | refine headI_cons ?_
           | refine headS_cons ?_
           | refine headB_cons ?_
           | refine headV_cons ?_
           | refine headX_cons ?_
           | refine headI_u8 (by first | omega | (simp; omega)) (fun _ => ?_)
           | refine headI_ints (by first | omega | (simp; omega)) ?_
           | refine bytesK_map ?_
           | refine catK_nil ?_
           | refine catK_nil' ?_
           | refine catK_u8 ?_
           | refine catK_one ?_
           | refine catK_lit (by omega) ?_
           | refine catK_ints ?_
           | refine catK_int1 ?_
           | refine packK_u8 ?_
           | refine packK_0 ?_
           | refine packK_1 (by omega) ?_
           | refine packK_2 (by omega) (by omega) ?_
           | refine packK_3 (by omega) (by omega) (by omega) ?_
           | refine packK_4 (by omega) (by omega) (by omega) (by omega) ?_
           | refine packK_any ?_
           | refine shrK_8 0 (by omega) rfl (by omega) ?_
           | refine shrK_8 1 (by omega) rfl (by omega) ?_
           | refine shrK_8 2 (by omega) rfl (by omega) ?_
           | refine shrK_8 3 (by omega) rfl (by omega) ?_
           | refine shlK_8 (by omega) (by omega) ?_
           | refine bitK_or8 (by omega) (by omega) ?_
           | refine nilK_no (by omega) ?_
           | refine takeC_u8 ?_
           | refine dropC_u8 ?_
           | refine dropC_zero ?_
           | refine takeC_any ?_
           | refine dropC_any ?_
           | refine callK_intro (c_awake26) ?_
           | refine callK_intro (c_long26 _ _ _ _ _ _) ?_
           | refine callK_intro (cU) ?_
           | refine callK_intro (cS) ?_
           | refine callK_intro (cK) ?_
           | refine callK_intro (c1) ?_
           | refine callK_intro (c2) ?_
           | refine callK_intro (c3) ?_
           | refine callK_intro (c4) ?_
           | refine loopK_step (G := g3) ?_
           | refine catK_any ?_
           | refine eitherK_l ?_
           | refine nlK_sl ?_
           | refine sideK_intro (by first | omega | rfl | exact Nat.le_of_ble_eq_true rfl | (refine ⟨?_, ?_⟩ <;> first | omega | (simp; done) | (simp; omega)) | (simp; done) | (simp; omega)) ?_
           | refine drawK_intro (by kernel_rfl) (by kernel_rfl) ?_)) <;> (try (conv => whnf))
end Go.Sx
namespace Go.Proofs.Ytcmcjiacpahliaa
open Go.ChangeShapes Go.WideShapes Go.ChangeAt Go.RowKit Go.Sx
namespace ConverterConvertsProof
set_option maxRecDepth 100000 in
theorem walk (W : World) (v0 v1 v2 v3 v4 v5 v6 : Value) (ls0 ls1 ls2 ls3 ls4 ls5 ls6 : List L)
    (t0 : Typ (tabF tab) 27 ls0) (t1 : Typ (tabF tab) 5 ls1) (t2 : Typ (tabF tab) 5 ls2) (t3 : Typ (tabF tab) 5 ls3) (t4 : Typ (tabF tab) 28 ls4) (t5 : Typ (tabF tab) 28 ls5) (t6 : Typ (tabF tab) 5 ls6)
    (r0 : RelC (fun _ => False) W noMu (argC (tabF tab 27).agg ls0) v0) (r1 : RelC (fun _ => False) W noMu (argC (tabF tab 5).agg ls1) v1) (r2 : RelC (fun _ => False) W noMu (argC (tabF tab 5).agg ls2) v2) (r3 : RelC (fun _ => False) W noMu (argC (tabF tab 5).agg ls3) v3) (r4 : RelC (fun _ => False) W noMu (argC (tabF tab 28).agg ls4) v4) (r5 : RelC (fun _ => False) W noMu (argC (tabF tab 28).agg ls5) v5) (r6 : RelC (fun _ => False) W noMu (argC (tabF tab 5).agg ls6) v6) :
    Calls Try.prog 3 #[v0, v1, v2, v3, v4, v5, v6] W fun e w' => e = .returned (.bool true) ∧ Below W.heap.size W w' := by
  obtain ⟨partsa0, rfl, hla0, hpa0⟩ := typ_struct t0 rfl
  obtain ⟨qa0_0, qa0_1, qa0_2, qa0_3, qa0_4, qa0_5, rfl⟩ : ∃ qa0_0 qa0_1 qa0_2 qa0_3 qa0_4 qa0_5, partsa0 = [qa0_0, qa0_1, qa0_2, qa0_3, qa0_4, qa0_5] := by
    match partsa0, hla0 with
    | [qa0_0, qa0_1, qa0_2, qa0_3, qa0_4, qa0_5], _ => exact ⟨qa0_0, qa0_1, qa0_2, qa0_3, qa0_4, qa0_5, rfl⟩
  have ta0_0 := hpa0 0 _ qa0_0 rfl rfl
  obtain ⟨partsa0_0, rfl, hla0_0, hpa0_0⟩ := typ_struct ta0_0 rfl
  obtain ⟨qa0_0_0, qa0_0_1, qa0_0_2, rfl⟩ : ∃ qa0_0_0 qa0_0_1 qa0_0_2, partsa0_0 = [qa0_0_0, qa0_0_1, qa0_0_2] := by
    match partsa0_0, hla0_0 with
    | [qa0_0_0, qa0_0_1, qa0_0_2], _ => exact ⟨qa0_0_0, qa0_0_1, qa0_0_2, rfl⟩
  have ta0_0_0 := hpa0_0 0 _ qa0_0_0 rfl rfl
  obtain ⟨a0_0_0, rfl⟩ := typ_str ta0_0_0 rfl
  have ta0_0_1 := hpa0_0 1 _ qa0_0_1 rfl rfl
  obtain ⟨a0_0_1, rfl⟩ := typ_str ta0_0_1 rfl
  have ta0_0_2 := hpa0_0 2 _ qa0_0_2 rfl rfl
  obtain ⟨a0_0_2, rfl⟩ := typ_str ta0_0_2 rfl
  have ta0_1 := hpa0 1 _ qa0_1 rfl rfl
  obtain ⟨partsa0_1, rfl, hla0_1, hpa0_1⟩ := typ_struct ta0_1 rfl
  obtain ⟨qa0_1_0, qa0_1_1, qa0_1_2, rfl⟩ : ∃ qa0_1_0 qa0_1_1 qa0_1_2, partsa0_1 = [qa0_1_0, qa0_1_1, qa0_1_2] := by
    match partsa0_1, hla0_1 with
    | [qa0_1_0, qa0_1_1, qa0_1_2], _ => exact ⟨qa0_1_0, qa0_1_1, qa0_1_2, rfl⟩
  have ta0_1_0 := hpa0_1 0 _ qa0_1_0 rfl rfl
  obtain ⟨a0_1_0, rfl⟩ := typ_str ta0_1_0 rfl
  have ta0_1_1 := hpa0_1 1 _ qa0_1_1 rfl rfl
  obtain ⟨a0_1_1, rfl⟩ := typ_str ta0_1_1 rfl
  have ta0_1_2 := hpa0_1 2 _ qa0_1_2 rfl rfl
  obtain ⟨a0_1_2, rfl⟩ := typ_str ta0_1_2 rfl
  have ta0_2 := hpa0 2 _ qa0_2 rfl rfl
  obtain ⟨a0_2, rfl, wa0_2⟩ := typ_int ta0_2 rfl
  have ta0_3 := hpa0 3 _ qa0_3 rfl rfl
  obtain ⟨a0_3, rfl, wa0_3⟩ := typ_int ta0_3 rfl
  have ta0_4 := hpa0 4 _ qa0_4 rfl rfl
  obtain ⟨a0_4, rfl, wa0_4⟩ := typ_int ta0_4 rfl
  have ta0_5 := hpa0 5 _ qa0_5 rfl rfl
  obtain ⟨a0_5, rfl, wa0_5⟩ := typ_int ta0_5 rfl
  obtain ⟨a1, rfl⟩ := typ_u8 t1 rfl
  obtain ⟨a2, rfl⟩ := typ_u8 t2 rfl
  obtain ⟨a3, rfl⟩ := typ_u8 t3 rfl
  obtain ⟨a4, rfl, wa4⟩ := typ_int t4 rfl
  obtain ⟨a5, rfl, wa5⟩ := typ_int t5 rfl
  obtain ⟨a6, rfl⟩ := typ_u8 t6 rfl
  exact calls_of_fn Try.func3 rfl rfl (c_ConverterConverts a0_0_0 a0_0_1 a0_0_2 a0_1_0 a0_1_1 a0_1_2 a0_2 a0_3 a0_4 a0_5 (wf_u64 wa0_2) (wf_i64 wa0_3) (wf_i64 wa0_4) a1 a2 a3 a4 a5 (wf_u32 wa4) (wf_u32 wa5) a6) (relCs_cons r0 (relCs_cons r1 (relCs_cons r2 (relCs_cons r3 (relCs_cons r4 (relCs_cons r5 (relCs_cons r6 relCs_nil)))))))

set_option maxRecDepth 100000 in
theorem lifted (os : Os) (started : os.Started) (H : Type) (enc : TypeId × Value → H) :
    ReturnsInHanded {} Try.checked os 3 .any (Rows.converterConvertsSpec.pre6 enc Try.prog Try.f3 Rows.converterConvertsRow.domain false) (Rows.converterConvertsSpec.post enc Try.prog Try.f3 false true false false) := by
  refine returnsInHanded_of_change (C := Try.checked) ownA started (by kernel_rfl) Try.func3
    (ChangeSpec.witness6 (enc := enc) (C := Try.checked) false ⟨#[], #[.agg #[.string ByteArray.empty, .string ByteArray.empty, .string ByteArray.empty, .string ByteArray.empty, .string ByteArray.empty, .string ByteArray.empty, .int .u64 0, .int .i64 0, .int .i64 0, .int .i64 0], .int .u8 0, .int .u8 0, .int .u8 0, .int .u32 0, .int .u32 0, .int .u8 0], []⟩ 8 (by kernel_rfl) (by kernel_rfl) (by kernel_rfl) (by kernel_rfl)) ?_
  intro W base args ds gs before hval0 hW hcnd _
  have hval : ∀ (j : Nat) t v, Try.f3.params[j]? = some t → args[j]? = some v → Value.okWide Try.prog W .any base t v := hval0
  have hW' := hW
  obtain ⟨p, q, hA0, hV, rfl, hfz, hnd⟩ := hW
  have hA : DataW.TrodAll enc Try.prog W 0 (fun _ => true) true Try.f3.params.toList args.toList ds p := hA0
  rw [Try.params3] at hA hval
  obtain ⟨v0, vs0, d0, ds0, p0, q0, hargs, rfl, rfl, h0, r0⟩ := trodAll_cons hA
  obtain ⟨v1, vs1, d1, ds1, p1, q1, rfl, rfl, rfl, h1, r1⟩ := trodAll_cons r0
  obtain ⟨v2, vs2, d2, ds2, p2, q2, rfl, rfl, rfl, h2, r2⟩ := trodAll_cons r1
  obtain ⟨v3, vs3, d3, ds3, p3, q3, rfl, rfl, rfl, h3, r3⟩ := trodAll_cons r2
  obtain ⟨v4, vs4, d4, ds4, p4, q4, rfl, rfl, rfl, h4, r4⟩ := trodAll_cons r3
  obtain ⟨v5, vs5, d5, ds5, p5, q5, rfl, rfl, rfl, h5, r5⟩ := trodAll_cons r4
  obtain ⟨v6, vs6, d6, ds6, p6, q6, rfl, rfl, rfl, h6, r6⟩ := trodAll_cons r5
  obtain ⟨rfl, rfl, rfl⟩ := trodAll_nil r6
  obtain rfl : args = #[v0, v1, v2, v3, v4, v5, v6] := by cases args; simp_all
  obtain ⟨rfl, rfl⟩ := trodVars_none hV
  obtain ⟨ls0, t0, c0⟩ := rel_arg tokA (n := 9) rfl h0 (hval 0 27 v0 rfl rfl)
  obtain ⟨ls1, t1, c1⟩ := rel_arg tokA (n := 9) rfl h1 (hval 1 5 v1 rfl rfl)
  obtain ⟨ls2, t2, c2⟩ := rel_arg tokA (n := 9) rfl h2 (hval 2 5 v2 rfl rfl)
  obtain ⟨ls3, t3, c3⟩ := rel_arg tokA (n := 9) rfl h3 (hval 3 5 v3 rfl rfl)
  obtain ⟨ls4, t4, c4⟩ := rel_arg tokA (n := 9) rfl h4 (hval 4 28 v4 rfl rfl)
  obtain ⟨ls5, t5, c5⟩ := rel_arg tokA (n := 9) rfl h5 (hval 5 28 v5 rfl rfl)
  obtain ⟨ls6, t6, c6⟩ := rel_arg tokA (n := 9) rfl h6 (hval 6 5 v6 rfl rfl)
  have lt0 : ∀ x ∈ p0, x.block < W.heap.size := by obtain ⟨m, hm⟩ := h0; exact DataW.trod_lt m _ _ _ hm
  have lt1 : ∀ x ∈ p1, x.block < W.heap.size := by obtain ⟨m, hm⟩ := h1; exact DataW.trod_lt m _ _ _ hm
  have lt2 : ∀ x ∈ p2, x.block < W.heap.size := by obtain ⟨m, hm⟩ := h2; exact DataW.trod_lt m _ _ _ hm
  have lt3 : ∀ x ∈ p3, x.block < W.heap.size := by obtain ⟨m, hm⟩ := h3; exact DataW.trod_lt m _ _ _ hm
  have lt4 : ∀ x ∈ p4, x.block < W.heap.size := by obtain ⟨m, hm⟩ := h4; exact DataW.trod_lt m _ _ _ hm
  have lt5 : ∀ x ∈ p5, x.block < W.heap.size := by obtain ⟨m, hm⟩ := h5; exact DataW.trod_lt m _ _ _ hm
  have lt6 : ∀ x ∈ p6, x.block < W.heap.size := by obtain ⟨m, hm⟩ := h6; exact DataW.trod_lt m _ _ _ hm
  clear hA0 hval0
  refine (walk W v0 v1 v2 v3 v4 v5 v6 ls0 ls1 ls2 ls3 ls4 ls5 ls6 t0 t1 t2 t3 t4 t5 t6 c0 c1 c2 c3 c4 c5 c6).mono fun e W' ⟨he, bel⟩ => ?_
  subst he
  exact ⟨_, rfl, _, _, _, [], _, [], hW', trodAll_mk1 (shut_bool Try.underlying4 _), (trodAll_cons_mk (Below.trod laidOutA (by kernel_rfl) (of_decide_eq_true (by kernel_rfl)) h0 bel lt0) (trodAll_cons_mk (Below.trod laidOutA (by kernel_rfl) (of_decide_eq_true (by kernel_rfl)) h1 bel lt1) (trodAll_cons_mk (Below.trod laidOutA (by kernel_rfl) (of_decide_eq_true (by kernel_rfl)) h2 bel lt2) (trodAll_cons_mk (Below.trod laidOutA (by kernel_rfl) (of_decide_eq_true (by kernel_rfl)) h3 bel lt3) (trodAll_cons_mk (Below.trod laidOutA (by kernel_rfl) (of_decide_eq_true (by kernel_rfl)) h4 bel lt4) (trodAll_cons_mk (Below.trod laidOutA (by kernel_rfl) (of_decide_eq_true (by kernel_rfl)) h5 bel lt5) (trodAll_cons_mk (Below.trod laidOutA (by kernel_rfl) (of_decide_eq_true (by kernel_rfl)) h6 bel lt6) trodAll_mk0))))))), rfl, bel.frame _, fun h => by cases h⟩

theorem over : Rows.converterConvertsRow.holds Try.pinned (OpenSpec.ofChange Rows.converterConvertsSpec) :=
  OpenClaim.holds_of_wide 3 Try.f3 rfl rfl rfl rfl rfl rfl rfl ⟨rfl, rfl, rfl, rfl, rfl⟩ rfl rfl rfl rfl rfl (by kernel_rfl) Try.func3 (by kernel_rfl)
    (of_decide_eq_true (by kernel_rfl)) (by unfold Func.isWrapper; first | (rw [if_pos (by decide +kernel)]; kernel_rfl) | (rw [if_neg (by decide +kernel)]; exact ⟨rfl, rfl⟩))
    (fun os started H enc _ => lifted os started H enc)
end ConverterConvertsProof

theorem converterConverts_proved : Rows.ConverterConvertsSaid := ConverterConvertsProof.over
#print axioms converterConverts_proved
end Go.Proofs.Ytcmcjiacpahliaa

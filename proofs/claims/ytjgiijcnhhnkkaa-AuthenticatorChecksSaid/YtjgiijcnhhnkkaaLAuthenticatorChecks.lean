/-
  The statement AuthenticatorChecks: the law returns true for every input; no conditions.
-/
import Derived.Test.YtjgiijcnhhnkkaaCAuthD
import Derived.Test.YtjgiijcnhhnkkaaLOwn
set_option linter.all false
namespace Go.Sx
open Go.Proofs
noncomputable def g4 : Par := par 84 (nthLL [[1, 2, 3, 4, 5, 6], [1, 2, 3, 4, 5, 6, 17], [12], [1, 2, 3, 4, 5, 6, 29], [12], [2, 3, 4, 5, 6, 13], [2, 3, 4, 5, 6, 13, 14], [2, 5, 6, 13, 14, 15], [5, 6, 13, 14, 15, 44], [5, 6, 13, 14, 15, 44, 45], [6, 13, 14], [5, 6, 13, 14, 15, 44, 50], [6, 13, 14], [5, 6, 13, 14, 15, 44, 54], [6, 13, 14], [5, 6, 13, 14, 15, 44, 58], [6, 13, 14], [5, 6, 13, 14, 62], [6, 13, 14], [12]]) [12] (nthLL [[], [], [], [], [], [], [], [], [], [], [], [], [], [], [], [], [], [], [], [0, 1, 3, 7, 15, 31, 15, 127, 255, 511, 1023, 2047, 4095, 2047, 16383, 32767, 65535, 131071]])
set_option maxRecDepth 10000
set_option maxHeartbeats 4000000
theorem c_AuthenticatorChecks (x y z : List UInt8) (ck tk tm : Int) (q : List UInt8) (f : UInt8) (n : Int) (s : UInt8) (t : List UInt8) : Fn Try.prog 4 [.a [.s x, .s y, .s z, .i .i64 ck, .i .i64 tk, .i .i64 tm], .o (.sl (q.map u8) q.length), .o (.i .u8 (f.toNat : Int)), .o (.i .i64 n), .o (.i .u8 (s.toNat : Int)), .o (.s t)] [] (.one (.c (.o (.b true)))) [] := by
  have hf := byte_lt f
  have hs := byte_lt s
  refine Fn_intro (G := g4) (goodA rfl) (fn := Try.f4) rfl rfl rfl rfl rfl ?_
  by_cases hl : x.length > 100 ∨ y.length > 100 ∨ z.length > 100 ∨ t.length > 100 ∨ q.length > 40
  · (repeat' ((conv => whnf) <;>
           first
           | exact rfl
           | with_reducible refine boolK_dec (fun _ => ?_) (fun _ => ?_) <;> try (exfalso; omega)
           | refine boolK_beq (fun _ => ?_) (fun _ => ?_) <;> try (exfalso; first | omega | contradiction)
           | refine boolK_bne (fun _ => ?_) (fun _ => ?_) <;> try (exfalso; first | omega | contradiction)
           | with_reducible refine boolK_not ?_
           | with_reducible refine boolK_and ?_
           | with_reducible refine boolK_or ?_
           | with_reducible refine boolK_true ?_
           | with_reducible refine boolK_false ?_
           | refine boolK_intro (fun _ => ?_) (fun _ => ?_) <;> try (exfalso; simp_all; done)
           | refine wrapK_i64 (by omega) ?_
           | refine wrapK_u8 (by omega) ?_
           | refine convK_i64 (by omega) ?_
           | refine convK_byte ?_
           | refine convK_u64 (by omega) ?_
           | refine convK_u16 (by omega) ?_
           | refine convK_u32 (by omega) ?_
           | refine wrapK_byte ?_
           | refine wrapK_u64 (by omega) ?_
           | refine wrapK_u32 (by omega) ?_
           | refine wrapK_u16 (by omega) ?_
           | with_reducible refine natK_lit ?_
           | refine natK_of rfl ?_
           | refine natK_any ?_
           | refine quoK_i64 (by omega) ?_
           | refine quoK_u8 (by omega) ?_
           | refine quoK_u16 (by omega) ?_
           | refine remK_pos (by omega) ?_
           | refine headI_cons ?_
           | refine headS_cons ?_
           | refine headB_cons ?_
           | refine headV_cons ?_
           | refine headX_cons ?_
           | refine headI_u8 (by first | omega | (simp; omega)) (fun _ => ?_)
           | refine headI_ints (by first | omega | (simp; omega)) ?_
           | refine bytesK_map ?_
           | refine catK_nil ?_
           | refine catK_nil' ?_
           | refine catK_u8 ?_
           | refine catK_one ?_
           | refine catK_lit (by omega) ?_
           | refine catK_ints ?_
           | refine catK_int1 ?_
           | refine packK_u8 ?_
           | refine packK_0 ?_
           | refine packK_1 (by omega) ?_
           | refine packK_2 (by omega) (by omega) ?_
           | refine packK_3 (by omega) (by omega) (by omega) ?_
           | refine packK_4 (by omega) (by omega) (by omega) (by omega) ?_
           | refine packK_any ?_
           | refine shrK_8 0 (by omega) rfl (by omega) ?_
           | refine shrK_8 1 (by omega) rfl (by omega) ?_
           | refine shrK_8 2 (by omega) rfl (by omega) ?_
           | refine shrK_8 3 (by omega) rfl (by omega) ?_
           | refine shlK_8 (by omega) (by omega) ?_
           | refine bitK_or8 (by omega) (by omega) ?_
           | refine nilK_no (by omega) ?_
           | refine takeC_u8 ?_
           | refine dropC_u8 ?_
           | refine dropC_zero ?_
           | refine takeC_any ?_
           | refine dropC_any ?_
           | refine callK_intro (c_awake7) ?_
           | refine callK_intro (c_long7 _ _ _ _ _ _) ?_
           | refine catK_any ?_
           | refine eitherK_l ?_
           | refine nlK_sl ?_
           | refine sideK_intro (by first | omega | rfl | exact Nat.le_of_ble_eq_true rfl | (refine ⟨?_, ?_⟩ <;> first | omega | (simp; done) | (simp; omega)) | (simp; done) | (simp; omega)) ?_
           | refine drawK_intro (by kernel_rfl) (by kernel_rfl) ?_)) <;> (try (conv => whnf))
  · obtain ⟨a, b, c, d, e, g, hv, cA⟩ := c_Auth q rfl (by omega)
    obtain ⟨hv1, _⟩ := authC_ok hv
    obtain ⟨l1, l2, l3⟩ := valid_len hv1
    have h6 : (s.toNat : Int) % 6 = 0 ∨ (s.toNat : Int) % 6 = 1 ∨ (s.toNat : Int) % 6 = 2 ∨ (s.toNat : Int) % 6 = 3 ∨ (s.toNat : Int) % 6 = 4 ∨ (s.toNat : Int) % 6 = 5 := by omega
    have cC := c_CheckA a b c d e g (by omega) (by omega) (by omega)
    rw [hv] at cC
    obtain ⟨j, hj, hj6⟩ : ∃ j : Nat, (s.toNat : Int) % 6 = (j : Int) ∧ j < 6 := ⟨(s.toNat % 6), by omega, by omega⟩
    obtain ⟨v, hv'⟩ : ∃ v : Int, ∀ K : Int → List L → Prop, (∀ r, K v r) → headI .i64 (([.i .i64 n, .i .i64 ((s.toNat : Int) - 1), .i .i64 4294967296, .i .i64 4294967295, .i .i64 200, .i .i64 199] : List L).drop (j * 1)) K := by
      match j, hj6 with
      | 0, _ => exact ⟨_, fun K h => headI_cons (h _)⟩
      | 1, _ => exact ⟨_, fun K h => headI_cons (h _)⟩
      | 2, _ => exact ⟨_, fun K h => headI_cons (h _)⟩
      | 3, _ => exact ⟨_, fun K h => headI_cons (h _)⟩
      | 4, _ => exact ⟨_, fun K h => headI_cons (h _)⟩
      | 5, _ => exact ⟨_, fun K h => headI_cons (h _)⟩
    (repeat' ((conv => whnf) <;>
           first
           | refine natK_of (j := j) (by omega) ?_
           | refine hv' _ (fun _ => ?_)
           | exact rfl
           | with_reducible refine boolK_dec (fun _ => ?_) (fun _ => ?_) <;> try (exfalso; omega)
           | refine boolK_beq (fun _ => ?_) (fun _ => ?_) <;> try (exfalso; first | omega | contradiction)
           | refine boolK_bne (fun _ => ?_) (fun _ => ?_) <;> try (exfalso; first | omega | contradiction)
           | with_reducible refine boolK_not ?_
           | with_reducible refine boolK_and ?_
           | with_reducible refine boolK_or ?_
           | with_reducible refine boolK_true ?_
           | with_reducible refine boolK_false ?_
           | refine boolK_intro (fun _ => ?_) (fun _ => ?_) <;> try (exfalso; simp_all; done)
           | refine wrapK_i64 (by omega) ?_
           | refine wrapK_u8 (by omega) ?_
           | refine convK_i64 (by omega) ?_
           | refine convK_byte ?_
           | refine convK_u64 (by omega) ?_
           | refine convK_u16 (by omega) ?_
           | refine convK_u32 (by omega) ?_
           | refine wrapK_byte ?_
           | refine wrapK_u64 (by omega) ?_
           | refine wrapK_u32 (by omega) ?_
           | refine wrapK_u16 (by omega) ?_
           | with_reducible refine natK_lit ?_
           | refine natK_of rfl ?_
           | refine natK_any ?_
           | refine quoK_i64 (by omega) ?_
           | refine quoK_u8 (by omega) ?_
           | refine quoK_u16 (by omega) ?_
           | refine remK_pos (by omega) ?_
           | refine headI_cons ?_
           | refine headS_cons ?_
           | refine headB_cons ?_
           | refine headV_cons ?_
           | refine headX_cons ?_
           | refine headI_u8 (by first | omega | (simp; omega)) (fun _ => ?_)
           | refine headI_ints (by first | omega | (simp; omega)) ?_
           | refine bytesK_map ?_
           | refine catK_nil ?_
           | refine catK_nil' ?_
           | refine catK_u8 ?_
           | refine catK_one ?_
           | refine catK_lit (by omega) ?_
           | refine catK_ints ?_
           | refine catK_int1 ?_
           | refine packK_u8 ?_
           | refine packK_0 ?_
           | refine packK_1 (by omega) ?_
           | refine packK_2 (by omega) (by omega) ?_
           | refine packK_3 (by omega) (by omega) (by omega) ?_
           | refine packK_4 (by omega) (by omega) (by omega) (by omega) ?_
           | refine packK_any ?_
           | refine shrK_8 0 (by omega) rfl (by omega) ?_
           | refine shrK_8 1 (by omega) rfl (by omega) ?_
           | refine shrK_8 2 (by omega) rfl (by omega) ?_
           | refine shrK_8 3 (by omega) rfl (by omega) ?_
           | refine shlK_8 (by omega) (by omega) ?_
           | refine bitK_or8 (by omega) (by omega) ?_
           | refine nilK_no (by omega) ?_
           | refine takeC_u8 ?_
           | refine dropC_u8 ?_
           | refine dropC_zero ?_
           | refine takeC_any ?_
           | refine dropC_any ?_
           | refine callK_intro (c_awake7) ?_
           | refine callK_intro (c_long7 _ _ _ _ _ _) ?_
           | refine callK_intro (cA) ?_
           | refine callK_intro (cC) ?_
           | refine callK_intro (c_CheckA _ _ _ _ _ _ (by omega) (by omega) (by omega)) ?_
           | refine callK_intro (c_rCheckA _ _ _ _ _ _ (by omega) (by omega) (by omega)) ?_
           | refine catK_any ?_
           | refine eitherK_l ?_
           | refine nlK_sl ?_
           | refine sideK_intro (by first | omega | rfl | exact Nat.le_of_ble_eq_true rfl | (refine ⟨?_, ?_⟩ <;> first | omega | (simp; done) | (simp; omega)) | (simp; done) | (simp; omega)) ?_
           | refine drawK_intro (by kernel_rfl) (by kernel_rfl) ?_)) <;> (try (conv => whnf))
end Go.Sx
namespace Go.Proofs.Ytjgiijcnhhnkkaa
open Go.ChangeShapes Go.WideShapes Go.ChangeAt Go.RowKit Go.Sx
namespace AuthenticatorChecksProof
set_option maxRecDepth 100000 in
theorem walk (W : World) (v0 v1 v2 v3 v4 v5 : Value) (ls0 ls1 ls2 ls3 ls4 ls5 : List L)
    (t0 : Typ (tabF tab) 40 ls0) (t1 : Typ (tabF tab) 41 ls1) (t2 : Typ (tabF tab) 5 ls2) (t3 : Typ (tabF tab) 3 ls3) (t4 : Typ (tabF tab) 5 ls4) (t5 : Typ (tabF tab) 9 ls5)
    (r0 : RelC (fun _ => False) W noMu (argC (tabF tab 40).agg ls0) v0) (r1 : RelC (fun _ => False) W noMu (argC (tabF tab 41).agg ls1) v1) (r2 : RelC (fun _ => False) W noMu (argC (tabF tab 5).agg ls2) v2) (r3 : RelC (fun _ => False) W noMu (argC (tabF tab 3).agg ls3) v3) (r4 : RelC (fun _ => False) W noMu (argC (tabF tab 5).agg ls4) v4) (r5 : RelC (fun _ => False) W noMu (argC (tabF tab 9).agg ls5) v5) :
    Calls Try.prog 4 #[v0, v1, v2, v3, v4, v5] W fun e w' => e = .returned (.bool true) ∧ Below W.heap.size W w' := by
  obtain ⟨partsa0, rfl, hla0, hpa0⟩ := typ_struct t0 rfl
  obtain ⟨qa0_0, qa0_1, qa0_2, qa0_3, rfl⟩ : ∃ qa0_0 qa0_1 qa0_2 qa0_3, partsa0 = [qa0_0, qa0_1, qa0_2, qa0_3] := by
    match partsa0, hla0 with
    | [qa0_0, qa0_1, qa0_2, qa0_3], _ => exact ⟨qa0_0, qa0_1, qa0_2, qa0_3, rfl⟩
  have ta0_0 := hpa0 0 _ qa0_0 rfl rfl
  obtain ⟨partsa0_0, rfl, hla0_0, hpa0_0⟩ := typ_struct ta0_0 rfl
  obtain ⟨qa0_0_0, qa0_0_1, qa0_0_2, rfl⟩ : ∃ qa0_0_0 qa0_0_1 qa0_0_2, partsa0_0 = [qa0_0_0, qa0_0_1, qa0_0_2] := by
    match partsa0_0, hla0_0 with
    | [qa0_0_0, qa0_0_1, qa0_0_2], _ => exact ⟨qa0_0_0, qa0_0_1, qa0_0_2, rfl⟩
  have ta0_0_0 := hpa0_0 0 _ qa0_0_0 rfl rfl
  obtain ⟨a0_0_0, rfl⟩ := typ_str ta0_0_0 rfl
  have ta0_0_1 := hpa0_0 1 _ qa0_0_1 rfl rfl
  obtain ⟨a0_0_1, rfl⟩ := typ_str ta0_0_1 rfl
  have ta0_0_2 := hpa0_0 2 _ qa0_0_2 rfl rfl
  obtain ⟨a0_0_2, rfl⟩ := typ_str ta0_0_2 rfl
  have ta0_1 := hpa0 1 _ qa0_1 rfl rfl
  obtain ⟨a0_1, rfl, wa0_1⟩ := typ_int ta0_1 rfl
  have ta0_2 := hpa0 2 _ qa0_2 rfl rfl
  obtain ⟨a0_2, rfl, wa0_2⟩ := typ_int ta0_2 rfl
  have ta0_3 := hpa0 3 _ qa0_3 rfl rfl
  obtain ⟨a0_3, rfl, wa0_3⟩ := typ_int ta0_3 rfl
  obtain ⟨a1, rfl⟩ := typ_bytes t1 rfl rfl
  obtain ⟨a2, rfl⟩ := typ_u8 t2 rfl
  obtain ⟨a3, rfl, wa3⟩ := typ_int t3 rfl
  obtain ⟨a4, rfl⟩ := typ_u8 t4 rfl
  obtain ⟨a5, rfl⟩ := typ_str t5 rfl
  exact calls_of_fn Try.func4 rfl rfl (c_AuthenticatorChecks a0_0_0 a0_0_1 a0_0_2 a0_1 a0_2 a0_3 a1 a2 a3 a4 a5) (relCs_cons r0 (relCs_cons r1 (relCs_cons r2 (relCs_cons r3 (relCs_cons r4 (relCs_cons r5 relCs_nil))))))

set_option maxRecDepth 100000 in
theorem lifted (os : Os) (started : os.Started) (H : Type) (enc : TypeId × Value → H) :
    ReturnsInHanded {} Try.checked os 4 .any (Rows.authenticatorChecksSpec.pre6 enc Try.prog Try.f4 Rows.authenticatorChecksRow.domain false) (Rows.authenticatorChecksSpec.post enc Try.prog Try.f4 false true false false) := by
  refine returnsInHanded_of_change (C := Try.checked) ownA started (by kernel_rfl) Try.func4
    (ChangeSpec.witness6 (enc := enc) (C := Try.checked) false ⟨#[], #[.agg #[.string ByteArray.empty, .string ByteArray.empty, .string ByteArray.empty, .int .i64 0, .int .i64 0, .int .i64 0], .slice none 0 0, .int .u8 0, .int .i64 0, .int .u8 0, .string ByteArray.empty], []⟩ 8 (by kernel_rfl) (by kernel_rfl) (by kernel_rfl) (by kernel_rfl)) ?_
  intro W base args ds gs before hval0 hW hcnd _
  have hval : ∀ (j : Nat) t v, Try.f4.params[j]? = some t → args[j]? = some v → Value.okWide Try.prog W .any base t v := hval0
  have hW' := hW
  obtain ⟨p, q, hA0, hV, rfl, hfz, hnd⟩ := hW
  have hA : DataW.TrodAll enc Try.prog W 0 (fun _ => true) true Try.f4.params.toList args.toList ds p := hA0
  rw [Try.params4] at hA hval
  obtain ⟨v0, vs0, d0, ds0, p0, q0, hargs, rfl, rfl, h0, r0⟩ := trodAll_cons hA
  obtain ⟨v1, vs1, d1, ds1, p1, q1, rfl, rfl, rfl, h1, r1⟩ := trodAll_cons r0
  obtain ⟨v2, vs2, d2, ds2, p2, q2, rfl, rfl, rfl, h2, r2⟩ := trodAll_cons r1
  obtain ⟨v3, vs3, d3, ds3, p3, q3, rfl, rfl, rfl, h3, r3⟩ := trodAll_cons r2
  obtain ⟨v4, vs4, d4, ds4, p4, q4, rfl, rfl, rfl, h4, r4⟩ := trodAll_cons r3
  obtain ⟨v5, vs5, d5, ds5, p5, q5, rfl, rfl, rfl, h5, r5⟩ := trodAll_cons r4
  obtain ⟨rfl, rfl, rfl⟩ := trodAll_nil r5
  obtain rfl : args = #[v0, v1, v2, v3, v4, v5] := by cases args; simp_all
  obtain ⟨rfl, rfl⟩ := trodVars_none hV
  obtain ⟨ls0, t0, c0⟩ := rel_arg tokA (n := 9) rfl h0 (hval 0 40 v0 rfl rfl)
  obtain ⟨ls1, t1, c1⟩ := rel_arg tokA (n := 9) rfl h1 (hval 1 41 v1 rfl rfl)
  obtain ⟨ls2, t2, c2⟩ := rel_arg tokA (n := 9) rfl h2 (hval 2 5 v2 rfl rfl)
  obtain ⟨ls3, t3, c3⟩ := rel_arg tokA (n := 9) rfl h3 (hval 3 3 v3 rfl rfl)
  obtain ⟨ls4, t4, c4⟩ := rel_arg tokA (n := 9) rfl h4 (hval 4 5 v4 rfl rfl)
  obtain ⟨ls5, t5, c5⟩ := rel_arg tokA (n := 9) rfl h5 (hval 5 9 v5 rfl rfl)
  have lt0 : ∀ x ∈ p0, x.block < W.heap.size := by obtain ⟨m, hm⟩ := h0; exact DataW.trod_lt m _ _ _ hm
  have lt1 : ∀ x ∈ p1, x.block < W.heap.size := by obtain ⟨m, hm⟩ := h1; exact DataW.trod_lt m _ _ _ hm
  have lt2 : ∀ x ∈ p2, x.block < W.heap.size := by obtain ⟨m, hm⟩ := h2; exact DataW.trod_lt m _ _ _ hm
  have lt3 : ∀ x ∈ p3, x.block < W.heap.size := by obtain ⟨m, hm⟩ := h3; exact DataW.trod_lt m _ _ _ hm
  have lt4 : ∀ x ∈ p4, x.block < W.heap.size := by obtain ⟨m, hm⟩ := h4; exact DataW.trod_lt m _ _ _ hm
  have lt5 : ∀ x ∈ p5, x.block < W.heap.size := by obtain ⟨m, hm⟩ := h5; exact DataW.trod_lt m _ _ _ hm
  clear hA0 hval0
  refine (walk W v0 v1 v2 v3 v4 v5 ls0 ls1 ls2 ls3 ls4 ls5 t0 t1 t2 t3 t4 t5 c0 c1 c2 c3 c4 c5).mono fun e W' ⟨he, bel⟩ => ?_
  subst he
  exact ⟨_, rfl, _, _, _, [], _, [], hW', trodAll_mk1 (shut_bool Try.underlying4 _), (trodAll_cons_mk (Below.trod laidOutA (by kernel_rfl) (of_decide_eq_true (by kernel_rfl)) h0 bel lt0) (trodAll_cons_mk (Below.trod laidOutA (by kernel_rfl) (of_decide_eq_true (by kernel_rfl)) h1 bel lt1) (trodAll_cons_mk (Below.trod laidOutA (by kernel_rfl) (of_decide_eq_true (by kernel_rfl)) h2 bel lt2) (trodAll_cons_mk (Below.trod laidOutA (by kernel_rfl) (of_decide_eq_true (by kernel_rfl)) h3 bel lt3) (trodAll_cons_mk (Below.trod laidOutA (by kernel_rfl) (of_decide_eq_true (by kernel_rfl)) h4 bel lt4) (trodAll_cons_mk (Below.trod laidOutA (by kernel_rfl) (of_decide_eq_true (by kernel_rfl)) h5 bel lt5) trodAll_mk0)))))), rfl, bel.frame _, fun h => by cases h⟩

theorem over : Rows.authenticatorChecksRow.holds Try.pinned (OpenSpec.ofChange Rows.authenticatorChecksSpec) :=
  OpenClaim.holds_of_wide 4 Try.f4 rfl rfl rfl rfl rfl rfl rfl ⟨rfl, rfl, rfl, rfl, rfl⟩ rfl rfl rfl rfl rfl (by kernel_rfl) Try.func4 (by kernel_rfl)
    (of_decide_eq_true (by kernel_rfl)) (by unfold Func.isWrapper; first | (rw [if_pos (by decide +kernel)]; kernel_rfl) | (rw [if_neg (by decide +kernel)]; exact ⟨rfl, rfl⟩))
    (fun os started H enc _ => lifted os started H enc)
end AuthenticatorChecksProof

theorem authenticatorChecks_proved : Rows.AuthenticatorChecksSaid := AuthenticatorChecksProof.over
#print axioms authenticatorChecks_proved
end Go.Proofs.Ytjgiijcnhhnkkaa

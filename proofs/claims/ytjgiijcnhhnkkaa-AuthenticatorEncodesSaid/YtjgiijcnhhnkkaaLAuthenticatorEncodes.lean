/-
  The statement AuthenticatorEncodes: the law returns true for every input; no conditions.
-/
import Derived.Test.YtjgiijcnhhnkkaaCAuthD
import Derived.Test.YtjgiijcnhhnkkaaLOwn
set_option linter.all false
namespace Go.Sx
open Go.Proofs
noncomputable def g13 : Par := par 85 (nthLL [[1, 2, 3], [1, 2, 3, 18], [6], [1, 2, 3, 25], [6], [1, 2, 3, 7], [1, 2, 3, 7, 27], [1, 2, 3, 7], [1, 2, 3, 7, 8], [1, 2, 3, 7, 8, 9, 10], [1, 2, 3, 7, 8, 9, 10, 11, 12], [1, 2, 3, 7, 8, 9, 10, 58], [6], [1, 2, 3, 7, 8, 9, 60], [1, 2, 3, 7, 8, 9, 13, 14], [1, 2, 3, 7, 8, 13, 14, 16], [1, 2, 3, 7, 84], [6], [6]]) [6] (nthLL [[], [], [], [], [], [], [], [], [0, 0, 2, 7, 0, 31, 63, 0, 255]])
set_option maxRecDepth 10000
set_option maxHeartbeats 4000000
theorem c_AuthenticatorEncodes (x y z : List UInt8) (ck tk tm : Int) (q : List UInt8) (l : Bool) : Fn Try.prog 13 [.a [.s x, .s y, .s z, .i .i64 ck, .i .i64 tk, .i .i64 tm], .o (.sl (q.map u8) q.length), .o (.b l)] [] (.one (.c (.o (.b true)))) [] := by
  refine Fn_intro (G := g13) (goodA rfl) (fn := Try.f13) rfl rfl rfl rfl rfl ?_
  by_cases hl : x.length > 100 ∨ y.length > 100 ∨ z.length > 100 ∨ q.length > 40
  · (repeat' ((conv => whnf) <;>
           first
           | exact rfl
           | with_reducible refine boolK_dec (fun _ => ?_) (fun _ => ?_) <;> try (exfalso; omega)
           | refine boolK_beq (fun _ => ?_) (fun _ => ?_) <;> try (exfalso; first | omega | contradiction)
           | refine boolK_bne (fun _ => ?_) (fun _ => ?_) <;> try (exfalso; first | omega | contradiction)
           | with_reducible refine boolK_not ?_
           | with_reducible refine boolK_and ?_
           | with_reducible refine boolK_or ?_
           | with_reducible refine boolK_true ?_
           | with_reducible refine boolK_false ?_
           | refine boolK_intro (fun _ => ?_) (fun _ => ?_) <;> try (exfalso; simp_all; done)
           | refine wrapK_i64 (by omega) ?_
           | refine wrapK_u8 (by omega) ?_
           | refine convK_i64 (by omega) ?_
           | refine convK_byte ?_
           | refine convK_u64 (by omega) ?_
           | refine convK_u16 (by omega) ?_
           | refine convK_u32 (by omega) ?_
           | refine wrapK_byte ?_
           | refine wrapK_u64 (by omega) ?_
           | refine wrapK_u32 (by omega) ?_
           | refine wrapK_u16 (by omega) ?_
           | with_reducible refine natK_lit ?_
           | refine natK_of rfl ?_
           | refine natK_any ?_
           | refine quoK_i64 (by omega) ?_
           | refine quoK_u8 (by omega) ?_
           | refine quoK_u16 (by omega) ?_
           | refine remK_pos (by omega) ?_
           | refine headI_cons ?_
           | refine headS_cons ?_
           | refine headB_cons ?_
           | refine headV_cons ?_
           | refine headX_cons ?_
           | refine headI_u8 (by first | omega | (simp; omega)) (fun _ => ?_)
           | refine headI_ints (by first | omega | (simp; omega)) ?_
           | refine bytesK_map ?_
           | refine catK_nil ?_
           | refine catK_nil' ?_
           | refine catK_u8 ?_
           | refine catK_one ?_
           | refine catK_lit (by omega) ?_
           | refine catK_ints ?_
           | refine catK_int1 ?_
           | refine packK_u8 ?_
           | refine packK_0 ?_
           | refine packK_1 (by omega) ?_
           | refine packK_2 (by omega) (by omega) ?_
           | refine packK_3 (by omega) (by omega) (by omega) ?_
           | refine packK_4 (by omega) (by omega) (by omega) (by omega) ?_
           | refine packK_any ?_
           | refine shrK_8 0 (by omega) rfl (by omega) ?_
           | refine shrK_8 1 (by omega) rfl (by omega) ?_
           | refine shrK_8 2 (by omega) rfl (by omega) ?_
           | refine shrK_8 3 (by omega) rfl (by omega) ?_
           | refine shlK_8 (by omega) (by omega) ?_
           | refine bitK_or8 (by omega) (by omega) ?_
           | refine nilK_no (by omega) ?_
           | refine takeC_u8 ?_
           | refine dropC_u8 ?_
           | refine dropC_zero ?_
           | refine takeC_any ?_
           | refine dropC_any ?_
           | refine callK_intro (c_awake7) ?_
           | refine callK_intro (c_long7 _ _ _ _ _ _) ?_
           | refine catK_any ?_
           | refine eitherK_l ?_
           | refine nlK_sl ?_
           | refine sideK_intro (by first | omega | rfl | exact Nat.le_of_ble_eq_true rfl | (refine ⟨?_, ?_⟩ <;> first | omega | (simp; done) | (simp; omega)) | (simp; done) | (simp; omega)) ?_
           | refine drawK_intro (by kernel_rfl) (by kernel_rfl) ?_)) <;> (try (conv => whnf))
  · obtain ⟨a, b, c, d, e, g, hv, cA⟩ := c_Auth q rfl (by omega)
    obtain ⟨l1, l2, l3⟩ := valid_len (authC_ok hv).1
    have key : ∀ (a b c : List UInt8) (d e g : Int), authC a b c d e g = 0 → (Fn Try.prog 70 [.o (.sl ((authE l a b c d e g).map u8) (authE l a b c d e g).length), .o (.b l)] [] (.tup [.c (.a [.s a, .s b, .s c, .i .i64 d, .i .i64 e, .i .i64 g]), .c (.o (.i .i64 0))]) []) ∧ (Fn Try.prog 70 [.o (.sl ((authE l a b c d e g).map u8) (authE l a b c d e g).length), .o (.b (!l))] [] (.tup [.c (.a [.s [], .s [], .s [], .i .i64 0, .i .i64 0, .i .i64 0]), .c (.o (.i .i64 100))]) []) := by
      intro a b c d e g hv
      have hln := authE_len (l := l) hv
      constructor
      · have c1 := c_DecodeA (authE l a b c d e g) rfl (by omega) l
        rw [authD_trip hv rfl] at c1
        exact c1
      · have c1 := c_DecodeA (authE l a b c d e g) rfl (by omega) (!l)
        rw [authD_other hv rfl] at c1
        exact c1
    obtain ⟨k1, k2⟩ := key a b c d e g hv
    have cE := c_EncodeA l a b c d e g (by omega) (by omega) (by omega)
    have cR := c_rEncodeA l a b c d e g (by omega) (by omega) (by omega)
    rw [authN_ok hv] at cE cR
    have dE := c_EncodeA l x y z ck tk tm (by omega) (by omega) (by omega)
    have dR := c_rEncodeA l x y z ck tk tm (by omega) (by omega) (by omega)
    by_cases hx : authC x y z ck tk tm = 0
    · obtain ⟨k3, k4⟩ := key x y z ck tk tm hx
      rw [authN_ok hx] at dE dR
      (repeat' ((conv => whnf) <;>
           first
           | exact rfl
           | with_reducible refine boolK_dec (fun _ => ?_) (fun _ => ?_) <;> try (exfalso; omega)
           | refine boolK_beq (fun _ => ?_) (fun _ => ?_) <;> try (exfalso; first | omega | contradiction)
           | refine boolK_bne (fun _ => ?_) (fun _ => ?_) <;> try (exfalso; first | omega | contradiction)
           | with_reducible refine boolK_not ?_
           | with_reducible refine boolK_and ?_
           | with_reducible refine boolK_or ?_
           | with_reducible refine boolK_true ?_
           | with_reducible refine boolK_false ?_
           | refine boolK_intro (fun _ => ?_) (fun _ => ?_) <;> try (exfalso; simp_all; done)
           | refine wrapK_i64 (by omega) ?_
           | refine wrapK_u8 (by omega) ?_
           | refine convK_i64 (by omega) ?_
           | refine convK_byte ?_
           | refine convK_u64 (by omega) ?_
           | refine convK_u16 (by omega) ?_
           | refine convK_u32 (by omega) ?_
           | refine wrapK_byte ?_
           | refine wrapK_u64 (by omega) ?_
           | refine wrapK_u32 (by omega) ?_
           | refine wrapK_u16 (by omega) ?_
           | with_reducible refine natK_lit ?_
           | refine natK_of rfl ?_
           | refine natK_any ?_
           | refine quoK_i64 (by omega) ?_
           | refine quoK_u8 (by omega) ?_
           | refine quoK_u16 (by omega) ?_
           | refine remK_pos (by omega) ?_
           | refine headI_cons ?_
           | refine headS_cons ?_
           | refine headB_cons ?_
           | refine headV_cons ?_
           | refine headX_cons ?_
           | refine headI_u8 (by first | omega | (simp; omega)) (fun _ => ?_)
           | refine headI_ints (by first | omega | (simp; omega)) ?_
           | refine bytesK_map ?_
           | refine catK_nil ?_
           | refine catK_nil' ?_
           | refine catK_u8 ?_
           | refine catK_one ?_
           | refine catK_lit (by omega) ?_
           | refine catK_ints ?_
           | refine catK_int1 ?_
           | refine packK_u8 ?_
           | refine packK_0 ?_
           | refine packK_1 (by omega) ?_
           | refine packK_2 (by omega) (by omega) ?_
           | refine packK_3 (by omega) (by omega) (by omega) ?_
           | refine packK_4 (by omega) (by omega) (by omega) (by omega) ?_
           | refine packK_any ?_
           | refine shrK_8 0 (by omega) rfl (by omega) ?_
           | refine shrK_8 1 (by omega) rfl (by omega) ?_
           | refine shrK_8 2 (by omega) rfl (by omega) ?_
           | refine shrK_8 3 (by omega) rfl (by omega) ?_
           | refine shlK_8 (by omega) (by omega) ?_
           | refine bitK_or8 (by omega) (by omega) ?_
           | refine nilK_no (by omega) ?_
           | refine takeC_u8 ?_
           | refine dropC_u8 ?_
           | refine dropC_zero ?_
           | refine takeC_any ?_
           | refine dropC_any ?_
           | refine callK_intro (c_awake7) ?_
           | refine callK_intro (c_long7 _ _ _ _ _ _) ?_
           | refine callK_intro (cA) ?_
           | refine callK_intro (cE) ?_
           | refine callK_intro (cR) ?_
           | refine callK_intro (dE) ?_
           | refine callK_intro (dR) ?_
           | refine callK_intro (k1) ?_
           | refine callK_intro (k2) ?_
           | refine callK_intro (k3) ?_
           | refine callK_intro (k4) ?_
           | refine loopK_step (G := g13) ?_
           | refine catK_any ?_
           | refine eitherK_l ?_
           | refine nlK_sl ?_
           | refine sideK_intro (by first | omega | rfl | exact Nat.le_of_ble_eq_true rfl | (refine ⟨?_, ?_⟩ <;> first | omega | (simp; done) | (simp; omega)) | (simp; done) | (simp; omega)) ?_
           | refine drawK_intro (by kernel_rfl) (by kernel_rfl) ?_)) <;> (try (conv => whnf))
    · rw [authN_no hx] at dE dR
      (repeat' ((conv => whnf) <;>
           first
           | exact rfl
           | with_reducible refine boolK_dec (fun _ => ?_) (fun _ => ?_) <;> try (exfalso; omega)
           | refine boolK_beq (fun _ => ?_) (fun _ => ?_) <;> try (exfalso; first | omega | contradiction)
           | refine boolK_bne (fun _ => ?_) (fun _ => ?_) <;> try (exfalso; first | omega | contradiction)
           | with_reducible refine boolK_not ?_
           | with_reducible refine boolK_and ?_
           | with_reducible refine boolK_or ?_
           | with_reducible refine boolK_true ?_
           | with_reducible refine boolK_false ?_
           | refine boolK_intro (fun _ => ?_) (fun _ => ?_) <;> try (exfalso; simp_all; done)
           | refine wrapK_i64 (by omega) ?_
           | refine wrapK_u8 (by omega) ?_
           | refine convK_i64 (by omega) ?_
           | refine convK_byte ?_
           | refine convK_u64 (by omega) ?_
           | refine convK_u16 (by omega) ?_
           | refine convK_u32 (by omega) ?_
           | refine wrapK_byte ?_
           | refine wrapK_u64 (by omega) ?_
           | refine wrapK_u32 (by omega) ?_
           | refine wrapK_u16 (by omega) ?_
           | with_reducible refine natK_lit ?_
           | refine natK_of rfl ?_
           | refine natK_any ?_
           | refine quoK_i64 (by omega) ?_
           | refine quoK_u8 (by omega) ?_
           | refine quoK_u16 (by omega) ?_
           | refine remK_pos (by omega) ?_
           | refine headI_cons ?_
           | refine headS_cons ?_
           | refine headB_cons ?_
           | refine headV_cons ?_
           | refine headX_cons ?_
           | refine headI_u8 (by first | omega | (simp; omega)) (fun _ => ?_)
           | refine headI_ints (by first | omega | (simp; omega)) ?_
           | refine bytesK_map ?_
           | refine catK_nil ?_
           | refine catK_nil' ?_
           | refine catK_u8 ?_
           | refine catK_one ?_
           | refine catK_lit (by omega) ?_
           | refine catK_ints ?_
           | refine catK_int1 ?_
           | refine packK_u8 ?_
           | refine packK_0 ?_
           | refine packK_1 (by omega) ?_
           | refine packK_2 (by omega) (by omega) ?_
           | refine packK_3 (by omega) (by omega) (by omega) ?_
           | refine packK_4 (by omega) (by omega) (by omega) (by omega) ?_
           | refine packK_any ?_
           | refine shrK_8 0 (by omega) rfl (by omega) ?_
           | refine shrK_8 1 (by omega) rfl (by omega) ?_
           | refine shrK_8 2 (by omega) rfl (by omega) ?_
           | refine shrK_8 3 (by omega) rfl (by omega) ?_
           | refine shlK_8 (by omega) (by omega) ?_
           | refine bitK_or8 (by omega) (by omega) ?_
           | refine nilK_no (by omega) ?_
           | refine takeC_u8 ?_
           | refine dropC_u8 ?_
           | refine dropC_zero ?_
           | refine takeC_any ?_
           | refine dropC_any ?_
           | refine callK_intro (c_awake7) ?_
           | refine callK_intro (c_long7 _ _ _ _ _ _) ?_
           | refine callK_intro (cA) ?_
           | refine callK_intro (cE) ?_
           | refine callK_intro (cR) ?_
           | refine callK_intro (dE) ?_
           | refine callK_intro (dR) ?_
           | refine callK_intro (k1) ?_
           | refine callK_intro (k2) ?_
           | refine loopK_step (G := g13) ?_
           | refine catK_any ?_
           | refine eitherK_l ?_
           | refine nlK_sl ?_
           | refine sideK_intro (by first | omega | rfl | exact Nat.le_of_ble_eq_true rfl | (refine ⟨?_, ?_⟩ <;> first | omega | (simp; done) | (simp; omega)) | (simp; done) | (simp; omega)) ?_
           | refine drawK_intro (by kernel_rfl) (by kernel_rfl) ?_)) <;> (try (conv => whnf))
end Go.Sx
namespace Go.Proofs.Ytjgiijcnhhnkkaa
open Go.ChangeShapes Go.WideShapes Go.ChangeAt Go.RowKit Go.Sx
namespace AuthenticatorEncodesProof
set_option maxRecDepth 100000 in
theorem walk (W : World) (v0 v1 v2 : Value) (ls0 ls1 ls2 : List L)
    (t0 : Typ (tabF tab) 40 ls0) (t1 : Typ (tabF tab) 41 ls1) (t2 : Typ (tabF tab) 4 ls2)
    (r0 : RelC (fun _ => False) W noMu (argC (tabF tab 40).agg ls0) v0) (r1 : RelC (fun _ => False) W noMu (argC (tabF tab 41).agg ls1) v1) (r2 : RelC (fun _ => False) W noMu (argC (tabF tab 4).agg ls2) v2) :
    Calls Try.prog 13 #[v0, v1, v2] W fun e w' => e = .returned (.bool true) ∧ Below W.heap.size W w' := by
  obtain ⟨partsa0, rfl, hla0, hpa0⟩ := typ_struct t0 rfl
  obtain ⟨qa0_0, qa0_1, qa0_2, qa0_3, rfl⟩ : ∃ qa0_0 qa0_1 qa0_2 qa0_3, partsa0 = [qa0_0, qa0_1, qa0_2, qa0_3] := by
    match partsa0, hla0 with
    | [qa0_0, qa0_1, qa0_2, qa0_3], _ => exact ⟨qa0_0, qa0_1, qa0_2, qa0_3, rfl⟩
  have ta0_0 := hpa0 0 _ qa0_0 rfl rfl
  obtain ⟨partsa0_0, rfl, hla0_0, hpa0_0⟩ := typ_struct ta0_0 rfl
  obtain ⟨qa0_0_0, qa0_0_1, qa0_0_2, rfl⟩ : ∃ qa0_0_0 qa0_0_1 qa0_0_2, partsa0_0 = [qa0_0_0, qa0_0_1, qa0_0_2] := by
    match partsa0_0, hla0_0 with
    | [qa0_0_0, qa0_0_1, qa0_0_2], _ => exact ⟨qa0_0_0, qa0_0_1, qa0_0_2, rfl⟩
  have ta0_0_0 := hpa0_0 0 _ qa0_0_0 rfl rfl
  obtain ⟨a0_0_0, rfl⟩ := typ_str ta0_0_0 rfl
  have ta0_0_1 := hpa0_0 1 _ qa0_0_1 rfl rfl
  obtain ⟨a0_0_1, rfl⟩ := typ_str ta0_0_1 rfl
  have ta0_0_2 := hpa0_0 2 _ qa0_0_2 rfl rfl
  obtain ⟨a0_0_2, rfl⟩ := typ_str ta0_0_2 rfl
  have ta0_1 := hpa0 1 _ qa0_1 rfl rfl
  obtain ⟨a0_1, rfl, wa0_1⟩ := typ_int ta0_1 rfl
  have ta0_2 := hpa0 2 _ qa0_2 rfl rfl
  obtain ⟨a0_2, rfl, wa0_2⟩ := typ_int ta0_2 rfl
  have ta0_3 := hpa0 3 _ qa0_3 rfl rfl
  obtain ⟨a0_3, rfl, wa0_3⟩ := typ_int ta0_3 rfl
  obtain ⟨a1, rfl⟩ := typ_bytes t1 rfl rfl
  obtain ⟨a2, rfl⟩ := typ_bool t2 rfl
  exact calls_of_fn Try.func13 rfl rfl (c_AuthenticatorEncodes a0_0_0 a0_0_1 a0_0_2 a0_1 a0_2 a0_3 a1 a2) (relCs_cons r0 (relCs_cons r1 (relCs_cons r2 relCs_nil)))

set_option maxRecDepth 100000 in
theorem lifted (os : Os) (started : os.Started) (H : Type) (enc : TypeId × Value → H) :
    ReturnsInHanded {} Try.checked os 13 .any (Rows.authenticatorEncodesSpec.pre6 enc Try.prog Try.f13 Rows.authenticatorEncodesRow.domain false) (Rows.authenticatorEncodesSpec.post enc Try.prog Try.f13 false true false false) := by
  refine returnsInHanded_of_change (C := Try.checked) ownA started (by kernel_rfl) Try.func13
    (ChangeSpec.witness6 (enc := enc) (C := Try.checked) false ⟨#[], #[.agg #[.string ByteArray.empty, .string ByteArray.empty, .string ByteArray.empty, .int .i64 0, .int .i64 0, .int .i64 0], .slice none 0 0, .bool false], []⟩ 8 (by kernel_rfl) (by kernel_rfl) (by kernel_rfl) (by kernel_rfl)) ?_
  intro W base args ds gs before hval0 hW hcnd _
  have hval : ∀ (j : Nat) t v, Try.f13.params[j]? = some t → args[j]? = some v → Value.okWide Try.prog W .any base t v := hval0
  have hW' := hW
  obtain ⟨p, q, hA0, hV, rfl, hfz, hnd⟩ := hW
  have hA : DataW.TrodAll enc Try.prog W 0 (fun _ => true) true Try.f13.params.toList args.toList ds p := hA0
  rw [Try.params13] at hA hval
  obtain ⟨v0, vs0, d0, ds0, p0, q0, hargs, rfl, rfl, h0, r0⟩ := trodAll_cons hA
  obtain ⟨v1, vs1, d1, ds1, p1, q1, rfl, rfl, rfl, h1, r1⟩ := trodAll_cons r0
  obtain ⟨v2, vs2, d2, ds2, p2, q2, rfl, rfl, rfl, h2, r2⟩ := trodAll_cons r1
  obtain ⟨rfl, rfl, rfl⟩ := trodAll_nil r2
  obtain rfl : args = #[v0, v1, v2] := by cases args; simp_all
  obtain ⟨rfl, rfl⟩ := trodVars_none hV
  obtain ⟨ls0, t0, c0⟩ := rel_arg tokA (n := 9) rfl h0 (hval 0 40 v0 rfl rfl)
  obtain ⟨ls1, t1, c1⟩ := rel_arg tokA (n := 9) rfl h1 (hval 1 41 v1 rfl rfl)
  obtain ⟨ls2, t2, c2⟩ := rel_arg tokA (n := 9) rfl h2 (hval 2 4 v2 rfl rfl)
  have lt0 : ∀ x ∈ p0, x.block < W.heap.size := by obtain ⟨m, hm⟩ := h0; exact DataW.trod_lt m _ _ _ hm
  have lt1 : ∀ x ∈ p1, x.block < W.heap.size := by obtain ⟨m, hm⟩ := h1; exact DataW.trod_lt m _ _ _ hm
  have lt2 : ∀ x ∈ p2, x.block < W.heap.size := by obtain ⟨m, hm⟩ := h2; exact DataW.trod_lt m _ _ _ hm
  clear hA0 hval0
  refine (walk W v0 v1 v2 ls0 ls1 ls2 t0 t1 t2 c0 c1 c2).mono fun e W' ⟨he, bel⟩ => ?_
  subst he
  exact ⟨_, rfl, _, _, _, [], _, [], hW', trodAll_mk1 (shut_bool Try.underlying4 _), (trodAll_cons_mk (Below.trod laidOutA (by kernel_rfl) (of_decide_eq_true (by kernel_rfl)) h0 bel lt0) (trodAll_cons_mk (Below.trod laidOutA (by kernel_rfl) (of_decide_eq_true (by kernel_rfl)) h1 bel lt1) (trodAll_cons_mk (Below.trod laidOutA (by kernel_rfl) (of_decide_eq_true (by kernel_rfl)) h2 bel lt2) trodAll_mk0))), rfl, bel.frame _, fun h => by cases h⟩

theorem over : Rows.authenticatorEncodesRow.holds Try.pinned (OpenSpec.ofChange Rows.authenticatorEncodesSpec) :=
  OpenClaim.holds_of_wide 13 Try.f13 rfl rfl rfl rfl rfl rfl rfl ⟨rfl, rfl, rfl, rfl, rfl⟩ rfl rfl rfl rfl rfl (by kernel_rfl) Try.func13 (by kernel_rfl)
    (of_decide_eq_true (by kernel_rfl)) (by unfold Func.isWrapper; first | (rw [if_pos (by decide +kernel)]; kernel_rfl) | (rw [if_neg (by decide +kernel)]; exact ⟨rfl, rfl⟩))
    (fun os started H enc _ => lifted os started H enc)
end AuthenticatorEncodesProof

theorem authenticatorEncodes_proved : Rows.AuthenticatorEncodesSaid := AuthenticatorEncodesProof.over
#print axioms authenticatorEncodes_proved
end Go.Proofs.Ytjgiijcnhhnkkaa

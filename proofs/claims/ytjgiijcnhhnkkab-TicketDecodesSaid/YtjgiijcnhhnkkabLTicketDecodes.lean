/-
  The statement TicketDecodes: the law returns true for every input; no conditions.
-/
import Derived.Test.YtjgiijcnhhnkkabCTickL
import Derived.Test.YtjgiijcnhhnkkabLOwn
set_option linter.all false
namespace Go.Sx
open Go.Proofs
noncomputable def g11 : Par := par 73 (nthLL [[0, 1, 2, 3], [0, 1, 2, 3, 19], [8], [0, 1, 2, 3, 27], [8], [0, 2, 3, 9], [0, 2, 3, 9, 11], [0, 2, 9, 11], [0, 2, 9, 11, 12], [0, 2, 9, 11, 12, 42], [0, 2, 9, 11, 12], [0, 2, 9, 11, 12, 13], [0, 2, 9, 11, 12, 13, 14, 15], [0, 2, 9, 11, 12, 14, 15, 16, 17], [0, 2, 9, 11, 12, 72], [8], [8]]) [8, 11] (nthLL [])
set_option maxRecDepth 10000
set_option maxHeartbeats 4000000
theorem put_head (E : List UInt8) (x : UInt8) (h : 0 < E.length) : putAt (E.map u8) 0 [L.i .u8 (x.toNat : Int)] = (E.set 0 x).map u8 := put_u8 E 0 x h
theorem c_TicketDecodes (b q : List UInt8) (h : Int) (hh : 0 ≤ h ∧ h ≤ 65535) (fl : UInt8) : Fn Try.prog 11 [.o (.sl (b.map u8) b.length), .o (.sl (q.map u8) q.length), .o (.i .u16 h), .o (.i .u8 (fl.toNat : Int))] [] (.one (.c (.o (.b true)))) [] := by
  have hfl := byte_lt fl
  refine Fn_intro (G := g11) (goodA rfl) (fn := Try.f11) rfl rfl rfl rfl rfl ?_
  by_cases hl : b.length > 300 ∨ q.length > 40
  · (repeat' ((conv => whnf) <;>
           first
           | exact rfl
           | with_reducible refine boolK_dec (fun _ => ?_) (fun _ => ?_) <;> try (exfalso; omega)
           | refine boolK_beq (fun _ => ?_) (fun _ => ?_) <;> try (exfalso; first | omega | contradiction)
           | refine boolK_bne (fun _ => ?_) (fun _ => ?_) <;> try (exfalso; first | omega | contradiction)
           | with_reducible refine boolK_not ?_
           | with_reducible refine boolK_and ?_
           | with_reducible refine boolK_or ?_
           | with_reducible refine boolK_true ?_
           | with_reducible refine boolK_false ?_
           | refine boolK_intro (fun _ => ?_) (fun _ => ?_) <;> try (exfalso; simp_all; done)
           | refine wrapK_i64 (by omega) ?_
           | refine wrapK_u8 (by omega) ?_
           | refine convK_i64 (by omega) ?_
           | refine convK_byte ?_
           | refine convK_u64 (by omega) ?_
           | refine convK_u16 (by omega) ?_
           | refine convK_u32 (by omega) ?_
           | refine wrapK_byte ?_
           | refine wrapK_u64 (by omega) ?_
           | refine wrapK_u32 (by omega) ?_
           | refine wrapK_u16 (by omega) ?_
           | with_reducible refine natK_lit ?_
           | refine natK_of rfl ?_
           | refine natK_any ?_
           | refine quoK_i64 (by omega) ?_
           | refine quoK_u8 (by omega) ?_
           | refine quoK_u16 (by omega) ?_
           | refine remK_pos (by omega) ?_
           | refine headI_cons ?_
           | refine headS_cons ?_
           | refine headB_cons ?_
           | refine headV_cons ?_
           | refine headX_cons ?_
           | refine headI_u8 (by first | omega | (simp; omega)) (fun _ => ?_)
           | refine headI_ints (by first | omega | (simp; omega)) ?_
           | refine bytesK_map ?_
           | refine catK_nil ?_
           | refine catK_nil' ?_
           | refine catK_u8 ?_
           | refine catK_one ?_
           | refine catK_lit (by omega) ?_
           | refine catK_ints ?_
           | refine catK_int1 ?_
           | refine packK_u8 ?_
           | refine packK_0 ?_
           | refine packK_1 (by omega) ?_
           | refine packK_2 (by omega) (by omega) ?_
           | refine packK_3 (by omega) (by omega) (by omega) ?_
           | refine packK_4 (by omega) (by omega) (by omega) (by omega) ?_
           | refine packK_any ?_
           | refine shrK_8 0 (by omega) rfl (by omega) ?_
           | refine shrK_8 1 (by omega) rfl (by omega) ?_
           | refine shrK_8 2 (by omega) rfl (by omega) ?_
           | refine shrK_8 3 (by omega) rfl (by omega) ?_
           | refine shlK_8 (by omega) (by omega) ?_
           | refine bitK_or8 (by omega) (by omega) ?_
           | refine nilK_no (by omega) ?_
           | refine takeC_u8 ?_
           | refine dropC_u8 ?_
           | refine dropC_zero ?_
           | refine takeC_any ?_
           | refine dropC_any ?_
           | refine callK_intro (c_awake6) ?_
           | refine catK_any ?_
           | refine eitherK_l ?_
           | refine nlK_sl ?_
           | refine sideK_intro (by first | omega | rfl | exact Nat.le_of_ble_eq_true rfl | (refine ⟨?_, ?_⟩ <;> first | omega | (simp; done) | (simp; omega)) | (simp; done) | (simp; omega)) ?_
           | refine drawK_intro (by kernel_rfl) (by kernel_rfl) ?_)) <;> (try (conv => whnf))
  · obtain ⟨a, x, y, z, e, f, g, i, j, k, hv, hf, cA⟩ := c_Ticket q rfl (by omega)
    obtain ⟨v1, v2, v3, _⟩ := tickC_ok hv
    obtain ⟨l1, l2, l3⟩ := valid_len v1
    have l4 := name_len v2
    have l5 := inst_len v3
    have cR := c_rEncodeT a x y z e f g i j k hf (by omega) (by omega) (by omega) (by omega) (by omega)
    rw [tickN_ok hv] at cR
    dsimp only at cR
    have hln := tickE_len (li := a) hv
    obtain ⟨r, hr, cS⟩ := c_Spoil (tickE a x y z e f g i j k) rfl (by omega) h hh
    generalize tickE a x y z e f g i j k = E at cR hln hr cS
    have hset : (E.set 0 (byteOf ((fl.toNat : Int) % 4))).length = E.length := by simp
    have cD := c_DecodeT (E.set 0 (byteOf ((fl.toNat : Int) % 4))) (m := 0 + E.length) (by rw [hset]; omega) (by omega)
    have rD := c_rDecodeT (E.set 0 (byteOf ((fl.toNat : Int) % 4))) (m := 0 + E.length) (by rw [hset]; omega) (by omega)
    have hp := put_head E (byteOf ((fl.toNat : Int) % 4)) (by omega)
    have hby : ((byteOf ((fl.toNat : Int) % 4)).toNat : Int) = (fl.toNat : Int) % 4 := by rw [byteOf_val]; omega
    rw [hby] at hp
    rw [← hp] at cD rD
    generalize tickD (E.set 0 (byteOf ((fl.toNat : Int) % 4))) = D4 at cD rD
    (repeat' ((conv => whnf) <;>
           first
           | exact rfl
           | with_reducible refine boolK_dec (fun _ => ?_) (fun _ => ?_) <;> try (exfalso; omega)
           | refine boolK_beq (fun _ => ?_) (fun _ => ?_) <;> try (exfalso; first | omega | contradiction)
           | refine boolK_bne (fun _ => ?_) (fun _ => ?_) <;> try (exfalso; first | omega | contradiction)
           | with_reducible refine boolK_not ?_
           | with_reducible refine boolK_and ?_
           | with_reducible refine boolK_or ?_
           | with_reducible refine boolK_true ?_
           | with_reducible refine boolK_false ?_
           | refine boolK_intro (fun _ => ?_) (fun _ => ?_) <;> try (exfalso; simp_all; done)
           | refine wrapK_i64 (by omega) ?_
           | refine wrapK_u8 (by omega) ?_
           | refine convK_i64 (by omega) ?_
           | refine convK_byte ?_
           | refine convK_u64 (by omega) ?_
           | refine convK_u16 (by omega) ?_
           | refine convK_u32 (by omega) ?_
           | refine wrapK_byte ?_
           | refine wrapK_u64 (by omega) ?_
           | refine wrapK_u32 (by omega) ?_
           | refine wrapK_u16 (by omega) ?_
           | with_reducible refine natK_lit ?_
           | refine natK_of rfl ?_
           | refine natK_any ?_
           | refine quoK_i64 (by omega) ?_
           | refine quoK_u8 (by omega) ?_
           | refine quoK_u16 (by omega) ?_
           | refine remK_pos (by omega) ?_
           | refine headI_cons ?_
           | refine headS_cons ?_
           | refine headB_cons ?_
           | refine headV_cons ?_
           | refine headX_cons ?_
           | refine headI_u8 (by first | omega | (simp; omega)) (fun _ => ?_)
           | refine headI_ints (by first | omega | (simp; omega)) ?_
           | refine bytesK_map ?_
           | refine catK_nil ?_
           | refine catK_nil' ?_
           | refine catK_u8 ?_
           | refine catK_one ?_
           | refine catK_lit (by omega) ?_
           | refine catK_ints ?_
           | refine catK_int1 ?_
           | refine packK_u8 ?_
           | refine packK_0 ?_
           | refine packK_1 (by omega) ?_
           | refine packK_2 (by omega) (by omega) ?_
           | refine packK_3 (by omega) (by omega) (by omega) ?_
           | refine packK_4 (by omega) (by omega) (by omega) (by omega) ?_
           | refine packK_any ?_
           | refine shrK_8 0 (by omega) rfl (by omega) ?_
           | refine shrK_8 1 (by omega) rfl (by omega) ?_
           | refine shrK_8 2 (by omega) rfl (by omega) ?_
           | refine shrK_8 3 (by omega) rfl (by omega) ?_
           | refine shlK_8 (by omega) (by omega) ?_
           | refine bitK_or8 (by omega) (by omega) ?_
           | refine nilK_no (by omega) ?_
           | refine takeC_u8 ?_
           | refine dropC_u8 ?_
           | refine dropC_zero ?_
           | refine takeC_any ?_
           | refine dropC_any ?_
           | refine callK_intro (c_awake6) ?_
           | refine callK_intro (cA) ?_
           | refine callK_intro (cR) ?_
           | refine callK_intro (cS) ?_
           | refine callK_intro (cD) ?_
           | refine callK_intro (rD) ?_
           | refine callK_intro (c_DecodeT _ rfl (by omega)) ?_
           | refine callK_intro (c_rDecodeT _ rfl (by omega)) ?_
           | refine loopK_step (G := g11) ?_
           | refine catK_any ?_
           | refine eitherK_l ?_
           | refine nlK_sl ?_
           | refine sideK_intro (by first | omega | rfl | exact Nat.le_of_ble_eq_true rfl | (refine ⟨?_, ?_⟩ <;> first | omega | (simp; done) | (simp; omega)) | (simp; done) | (simp; omega)) ?_
           | refine drawK_intro (by kernel_rfl) (by kernel_rfl) ?_)) <;> (try (conv => whnf))
end Go.Sx
namespace Go.Proofs.Ytjgiijcnhhnkkab
open Go.ChangeShapes Go.WideShapes Go.ChangeAt Go.RowKit Go.Sx
namespace TicketDecodesProof
set_option maxRecDepth 100000 in
theorem walk (W : World) (v0 v1 v2 v3 : Value) (ls0 ls1 ls2 ls3 : List L)
    (t0 : Typ (tabF tab) 38 ls0) (t1 : Typ (tabF tab) 38 ls1) (t2 : Typ (tabF tab) 81 ls2) (t3 : Typ (tabF tab) 5 ls3)
    (r0 : RelC (fun _ => False) W noMu (argC (tabF tab 38).agg ls0) v0) (r1 : RelC (fun _ => False) W noMu (argC (tabF tab 38).agg ls1) v1) (r2 : RelC (fun _ => False) W noMu (argC (tabF tab 81).agg ls2) v2) (r3 : RelC (fun _ => False) W noMu (argC (tabF tab 5).agg ls3) v3) :
    Calls Try.prog 11 #[v0, v1, v2, v3] W fun e w' => e = .returned (.bool true) ∧ Below W.heap.size W w' := by
  obtain ⟨a0, rfl⟩ := typ_bytes t0 rfl rfl
  obtain ⟨a1, rfl⟩ := typ_bytes t1 rfl rfl
  obtain ⟨a2, rfl, wa2⟩ := typ_int t2 rfl
  obtain ⟨a3, rfl⟩ := typ_u8 t3 rfl
  exact calls_of_fn Try.func11 rfl rfl (c_TicketDecodes a0 a1 a2 (wf_u16 wa2) a3) (relCs_cons r0 (relCs_cons r1 (relCs_cons r2 (relCs_cons r3 relCs_nil))))

set_option maxRecDepth 100000 in
theorem lifted (os : Os) (started : os.Started) (H : Type) (enc : TypeId × Value → H) :
    ReturnsInHanded {} Try.checked os 11 .any (Rows.ticketDecodesSpec.pre6 enc Try.prog Try.f11 Rows.ticketDecodesRow.domain false) (Rows.ticketDecodesSpec.post enc Try.prog Try.f11 false true false false) := by
  refine returnsInHanded_of_change (C := Try.checked) ownA started (by kernel_rfl) Try.func11
    (ChangeSpec.witness6 (enc := enc) (C := Try.checked) false ⟨#[], #[.slice none 0 0, .slice none 0 0, .int .u16 0, .int .u8 0], []⟩ 8 (by kernel_rfl) (by kernel_rfl) (by kernel_rfl) (by kernel_rfl)) ?_
  intro W base args ds gs before hval0 hW hcnd _
  have hval : ∀ (j : Nat) t v, Try.f11.params[j]? = some t → args[j]? = some v → Value.okWide Try.prog W .any base t v := hval0
  have hW' := hW
  obtain ⟨p, q, hA0, hV, rfl, hfz, hnd⟩ := hW
  have hA : DataW.TrodAll enc Try.prog W 0 (fun _ => true) true Try.f11.params.toList args.toList ds p := hA0
  rw [Try.params11] at hA hval
  obtain ⟨v0, vs0, d0, ds0, p0, q0, hargs, rfl, rfl, h0, r0⟩ := trodAll_cons hA
  obtain ⟨v1, vs1, d1, ds1, p1, q1, rfl, rfl, rfl, h1, r1⟩ := trodAll_cons r0
  obtain ⟨v2, vs2, d2, ds2, p2, q2, rfl, rfl, rfl, h2, r2⟩ := trodAll_cons r1
  obtain ⟨v3, vs3, d3, ds3, p3, q3, rfl, rfl, rfl, h3, r3⟩ := trodAll_cons r2
  obtain ⟨rfl, rfl, rfl⟩ := trodAll_nil r3
  obtain rfl : args = #[v0, v1, v2, v3] := by cases args; simp_all
  obtain ⟨rfl, rfl⟩ := trodVars_none hV
  obtain ⟨ls0, t0, c0⟩ := rel_arg tokA (n := 9) rfl h0 (hval 0 38 v0 rfl rfl)
  obtain ⟨ls1, t1, c1⟩ := rel_arg tokA (n := 9) rfl h1 (hval 1 38 v1 rfl rfl)
  obtain ⟨ls2, t2, c2⟩ := rel_arg tokA (n := 9) rfl h2 (hval 2 81 v2 rfl rfl)
  obtain ⟨ls3, t3, c3⟩ := rel_arg tokA (n := 9) rfl h3 (hval 3 5 v3 rfl rfl)
  have lt0 : ∀ x ∈ p0, x.block < W.heap.size := by obtain ⟨m, hm⟩ := h0; exact DataW.trod_lt m _ _ _ hm
  have lt1 : ∀ x ∈ p1, x.block < W.heap.size := by obtain ⟨m, hm⟩ := h1; exact DataW.trod_lt m _ _ _ hm
  have lt2 : ∀ x ∈ p2, x.block < W.heap.size := by obtain ⟨m, hm⟩ := h2; exact DataW.trod_lt m _ _ _ hm
  have lt3 : ∀ x ∈ p3, x.block < W.heap.size := by obtain ⟨m, hm⟩ := h3; exact DataW.trod_lt m _ _ _ hm
  clear hA0 hval0
  refine (walk W v0 v1 v2 v3 ls0 ls1 ls2 ls3 t0 t1 t2 t3 c0 c1 c2 c3).mono fun e W' ⟨he, bel⟩ => ?_
  subst he
  exact ⟨_, rfl, _, _, _, [], _, [], hW', trodAll_mk1 (shut_bool Try.underlying4 _), (trodAll_cons_mk (Below.trod laidOutA (by kernel_rfl) (of_decide_eq_true (by kernel_rfl)) h0 bel lt0) (trodAll_cons_mk (Below.trod laidOutA (by kernel_rfl) (of_decide_eq_true (by kernel_rfl)) h1 bel lt1) (trodAll_cons_mk (Below.trod laidOutA (by kernel_rfl) (of_decide_eq_true (by kernel_rfl)) h2 bel lt2) (trodAll_cons_mk (Below.trod laidOutA (by kernel_rfl) (of_decide_eq_true (by kernel_rfl)) h3 bel lt3) trodAll_mk0)))), rfl, bel.frame _, fun h => by cases h⟩

theorem over : Rows.ticketDecodesRow.holds Try.pinned (OpenSpec.ofChange Rows.ticketDecodesSpec) :=
  OpenClaim.holds_of_wide 11 Try.f11 rfl rfl rfl rfl rfl rfl rfl ⟨rfl, rfl, rfl, rfl, rfl⟩ rfl rfl rfl rfl rfl (by kernel_rfl) Try.func11 (by kernel_rfl)
    (of_decide_eq_true (by kernel_rfl)) (by unfold Func.isWrapper; first | (rw [if_pos (by decide +kernel)]; kernel_rfl) | (rw [if_neg (by decide +kernel)]; exact ⟨rfl, rfl⟩))
    (fun os started H enc _ => lifted os started H enc)
end TicketDecodesProof

theorem ticketDecodes_proved : Rows.TicketDecodesSaid := TicketDecodesProof.over
#print axioms ticketDecodes_proved
end Go.Proofs.Ytjgiijcnhhnkkab

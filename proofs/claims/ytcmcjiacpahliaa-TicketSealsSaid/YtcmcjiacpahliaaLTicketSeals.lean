/-
  The statement TicketSeals: the law returns true for every input; no conditions.
-/
import Derived.Test.YtcmcjiacpahliaaCTickS
import Derived.Test.YtcmcjiacpahliaaLOwn
set_option linter.all false
namespace Go.Sx
open Go.Proofs
noncomputable def g9 : Par := par 118 (nthLL [[1, 2, 3, 4, 5, 6], [1, 2, 3, 4, 5, 6, 28], [12], [1, 2, 3, 4, 5, 6, 40], [12], [2, 3, 4, 5, 6, 13], [2, 3, 4, 5, 6, 13, 14], [2, 3, 4, 5, 6, 13, 14, 44], [2, 3, 4, 5, 6, 13, 14], [2, 3, 4, 5, 6, 13, 14, 15], [2, 3, 4, 5, 6, 13, 14, 15, 16], [2, 3, 4, 5, 6, 13, 14, 15, 16, 17, 18], [2, 3, 4, 5, 6, 13, 14, 16, 17, 18, 19, 20], [2, 3, 4, 5, 6, 13, 14, 16, 19, 84], [12], [2, 3, 4, 5, 6, 13, 14, 16, 19, 21], [2, 3, 4, 5, 6, 13, 14, 16, 19, 21, 86], [2, 3, 4, 5, 6, 13, 14, 16, 19, 21], [2, 3, 4, 5, 6, 13, 14, 16, 19, 21, 22], [2, 3, 4, 5, 6, 13, 14, 16, 19, 21, 22, 23, 24], [2, 3, 4, 5, 6, 13, 14, 16, 19, 21, 23, 24, 25, 26], [2, 3, 4, 5, 6, 13, 14, 16, 19, 21, 117], [12], [12]]) [12] (nthLL [])
set_option maxRecDepth 10000
set_option maxHeartbeats 16000000
theorem c_TicketSeals (li : Bool) (x y z : List UInt8) (ad se lf is : Int) (sn si : List UInt8) (hse : 0 ≤ se ∧ se ≤ 18446744073709551615) (q : List UInt8) (k : Int) (hk : 0 ≤ k ∧ k ≤ 18446744073709551615) (n : UInt8) (b : List UInt8) (h : Int) (hh : 0 ≤ h ∧ h ≤ 65535) : Fn Try.prog 9 [.a [.b li, .s x, .s y, .s z, .i .i64 ad, .i .u64 se, .i .i64 lf, .i .i64 is, .s sn, .s si], .o (.sl (q.map u8) q.length), .o (.i .u64 k), .o (.i .u8 (n.toNat : Int)), .o (.sl (b.map u8) b.length), .o (.i .u16 h)] [] (.one (.c (.o (.b true)))) [] := by
  have hn := byte_lt n
  refine Fn_intro (G := g9) (goodA rfl) (fn := Try.f9) rfl rfl rfl rfl rfl ?_
  by_cases hl : x.length > 100 ∨ y.length > 100 ∨ z.length > 100 ∨ sn.length > 100 ∨ si.length > 100 ∨ q.length > 40 ∨ b.length > 400
  · (repeat' ((conv => whnf) <;>
           first
           | exact rfl
           | with_reducible refine boolK_dec (fun _ => ?_) (fun _ => ?_) <;> try (exfalso; omega)
           | refine boolK_beq (fun _ => ?_) (fun _ => ?_) <;> try (exfalso; first | omega | contradiction)
           | refine boolK_bne (fun _ => ?_) (fun _ => ?_) <;> try (exfalso; first | omega | contradiction)
           | with_reducible refine boolK_not ?_
           | with_reducible refine boolK_and ?_
           | with_reducible refine boolK_or ?_
           | with_reducible refine boolK_true ?_
           | with_reducible refine boolK_false ?_
           | refine boolK_intro (fun _ => ?_) (fun _ => ?_) <;> try (exfalso; simp_all; done)
           | refine wrapK_i64 (by omega) ?_
           | refine wrapK_u8 (by omega) ?_
           | refine convK_i64 (by omega) ?_
           | refine convK_byte ?_
           | refine convK_u64 (by omega) ?_
           | refine convK_u16 (by omega) ?_
           | refine convK_u32 (by omega) ?_
           | refine wrapK_byte ?_
           | refine wrapK_u64 (by omega) ?_
           | refine wrapK_u32 (by omega) ?_
           | refine wrapK_u16 (by omega) ?_
           | with_reducible refine natK_lit ?_
           | refine natK_of rfl ?_
           | refine natK_any ?_
           | refine quoK_i64 (by omega) ?_
           | refine quoK_u8 (by omega) ?_
           | refine quoK_u16 (by omega) ?_
           | refine remK_pos (by omega) ?_
           | refine headI_cons ?_
           | refine headS_cons ?_
           | refine headB_cons ?_
           | refine headV_cons ?_
           | refine headX_cons ?_
           | refine headI_u8 (by first | omega | (simp; omega)) (fun _ => ?_)
           | refine headI_ints (by first | omega | (simp; omega)) ?_
           | refine bytesK_map ?_
           | refine catK_nil ?_
           | refine catK_nil' ?_
           | refine catK_u8 ?_
           | refine catK_one ?_
           | refine catK_lit (by omega) ?_
           | refine catK_ints ?_
           | refine catK_int1 ?_
           | refine packK_u8 ?_
           | refine packK_0 ?_
           | refine packK_1 (by omega) ?_
           | refine packK_2 (by omega) (by omega) ?_
           | refine packK_3 (by omega) (by omega) (by omega) ?_
           | refine packK_4 (by omega) (by omega) (by omega) (by omega) ?_
           | refine packK_any ?_
           | refine shrK_8 0 (by omega) rfl (by omega) ?_
           | refine shrK_8 1 (by omega) rfl (by omega) ?_
           | refine shrK_8 2 (by omega) rfl (by omega) ?_
           | refine shrK_8 3 (by omega) rfl (by omega) ?_
           | refine shlK_8 (by omega) (by omega) ?_
           | refine bitK_or8 (by omega) (by omega) ?_
           | refine nilK_no (by omega) ?_
           | refine takeC_u8 ?_
           | refine dropC_u8 ?_
           | refine dropC_zero ?_
           | refine takeC_any ?_
           | refine dropC_any ?_
           | refine callK_intro (c_awake6) ?_
           | refine callK_intro (c_long6 _ _ _ _ _ _ _ _ _ _) ?_
           | refine catK_any ?_
           | refine eitherK_l ?_
           | refine nlK_sl ?_
           | refine sideK_intro (by first | omega | rfl | exact Nat.le_of_ble_eq_true rfl | (refine ⟨?_, ?_⟩ <;> first | omega | (simp; done) | (simp; omega)) | (simp; done) | (simp; omega)) ?_
           | refine drawK_intro (by kernel_rfl) (by kernel_rfl) ?_)) <;> (try (conv => whnf))
  · obtain ⟨li', x', y', z', ad', se', lf', is', sn', si', hv, hse', cA⟩ := c_Ticket q rfl (by omega)
    obtain ⟨v1, v2, v3, _⟩ := tickC_ok hv
    obtain ⟨l1, l2, l3⟩ := valid_len v1
    have l4 := name_len v2
    have l5 := inst_len v3
    have cK := c_Long (n.toNat : Int) (by omega)
    have hk' := long_range (n := (n.toNat : Int)) (by omega)
    generalize longK (n.toNat : Int) = k' at *
    obtain ⟨O, cO, cR⟩ : ∃ O : List UInt8 → Int → TickT × Int, (∀ (b : List UInt8) {m : Nat} (hm : m = b.length) (hb : b.length ≤ 90000) (k : Int), Fn Try.prog 47 [.o (.sl (b.map u8) m), .o (.i .u64 k)] [] (.tup [.c (.a [.b (O b k).1.1, .s (O b k).1.2.1, .s (O b k).1.2.2.1, .s (O b k).1.2.2.2.1, .i .i64 (O b k).1.2.2.2.2.1, .i .u64 (O b k).1.2.2.2.2.2.1, .i .i64 (O b k).1.2.2.2.2.2.2.1, .i .i64 (O b k).1.2.2.2.2.2.2.2.1, .s (O b k).1.2.2.2.2.2.2.2.2.1, .s (O b k).1.2.2.2.2.2.2.2.2.2]), .c (.o (.i .i64 (O b k).2))]) []) ∧ (∀ (b : List UInt8) {m : Nat} (hm : m = b.length) (hb : b.length ≤ 90000) (k : Int), Fn Try.prog 48 [.o (.sl (b.map u8) m), .o (.i .u64 k)] [] (.tup [.c (.a [.b (O b k).1.1, .s (O b k).1.2.1, .s (O b k).1.2.2.1, .s (O b k).1.2.2.2.1, .i .i64 (O b k).1.2.2.2.2.1, .i .u64 (O b k).1.2.2.2.2.2.1, .i .i64 (O b k).1.2.2.2.2.2.2.1, .i .i64 (O b k).1.2.2.2.2.2.2.2.1, .s (O b k).1.2.2.2.2.2.2.2.2.1, .s (O b k).1.2.2.2.2.2.2.2.2.2]), .c (.o (.i .i64 (O b k).2))]) []) := ⟨openT, fun b m hm hb k => c_OpenT b hm hb k, fun b m hm hb k => c_rOpenT b hm hb k⟩
    have s1 := c_SealT li x y z ad se lf is sn si hse (by omega) (by omega) (by omega) (by omega) (by omega) k hk
    have t1 := c_rSealT li x y z ad se lf is sn si hse (by omega) (by omega) (by omega) (by omega) (by omega) k hk
    have e1 := sealS_len 1 k (tickN li x y z ad se lf is sn si)
    generalize sealS 1 k (tickN li x y z ad se lf is sn si) = V1 at *
    have s2 := c_SealT li x y z ad se lf is sn si hse (by omega) (by omega) (by omega) (by omega) (by omega) k' hk'
    have t2 := c_rSealT li x y z ad se lf is sn si hse (by omega) (by omega) (by omega) (by omega) (by omega) k' hk'
    have e2 := sealS_len 1 k' (tickN li x y z ad se lf is sn si)
    generalize sealS 1 k' (tickN li x y z ad se lf is sn si) = V2 at *
    have s3 := c_SealT li' x' y' z' ad' se' lf' is' sn' si' hse' (by omega) (by omega) (by omega) (by omega) (by omega) k hk
    have t3 := c_rSealT li' x' y' z' ad' se' lf' is' sn' si' hse' (by omega) (by omega) (by omega) (by omega) (by omega) k hk
    have e3 := sealS_len 1 k (tickN li' x' y' z' ad' se' lf' is' sn' si')
    generalize sealS 1 k (tickN li' x' y' z' ad' se' lf' is' sn' si') = V3 at *
    have s4 := c_SealT li' x' y' z' ad' se' lf' is' sn' si' hse' (by omega) (by omega) (by omega) (by omega) (by omega) k' hk'
    have t4 := c_rSealT li' x' y' z' ad' se' lf' is' sn' si' hse' (by omega) (by omega) (by omega) (by omega) (by omega) k' hk'
    have e4 := sealS_len 1 k' (tickN li' x' y' z' ad' se' lf' is' sn' si')
    generalize sealS 1 k' (tickN li' x' y' z' ad' se' lf' is' sn' si') = V4 at *
    obtain ⟨r1, f1, p1⟩ := c_Spoil V1.1 rfl (by omega) h hh
    obtain ⟨r2, f2, p2⟩ := c_Spoil V2.1 rfl (by omega) h hh
    obtain ⟨r3, f3, p3⟩ := c_Spoil V3.1 rfl (by omega) h hh
    obtain ⟨r4, f4, p4⟩ := c_Spoil V4.1 rfl (by omega) h hh
    (repeat' ((conv => whnf) <;>
           first
           | refine natK_of (j := 0) (by omega) ?_
           | refine natK_of (j := 1) (by omega) ?_
           | refine natK_of (j := 2) (by omega) ?_
           | exact rfl
           | with_reducible refine boolK_dec (fun _ => ?_) (fun _ => ?_) <;> try (exfalso; omega)
           | refine boolK_beq (fun _ => ?_) (fun _ => ?_) <;> try (exfalso; first | omega | contradiction)
           | refine boolK_bne (fun _ => ?_) (fun _ => ?_) <;> try (exfalso; first | omega | contradiction)
           | with_reducible refine boolK_not ?_
           | with_reducible refine boolK_and ?_
           | with_reducible refine boolK_or ?_
           | with_reducible refine boolK_true ?_
           | with_reducible refine boolK_false ?_
           | refine boolK_intro (fun _ => ?_) (fun _ => ?_) <;> try (exfalso; simp_all; done)
           | refine wrapK_i64 (by omega) ?_
           | refine wrapK_u8 (by omega) ?_
           | refine convK_i64 (by omega) ?_
           | refine convK_byte ?_
           | refine convK_u64 (by omega) ?_
           | refine convK_u16 (by omega) ?_
           | refine convK_u32 (by omega) ?_
           | refine wrapK_byte ?_
           | refine wrapK_u64 (by omega) ?_
           | refine wrapK_u32 (by omega) ?_
           | refine wrapK_u16 (by omega) ?_
           | with_reducible refine natK_lit ?_
           | refine natK_of rfl ?_
           | refine natK_any ?_
           | refine quoK_i64 (by omega) ?_
           | refine quoK_u8 (by omega) ?_
           | refine quoK_u16 (by omega) ?_
           | refine remK_pos (by omega) ?_
           | refine headI_cons ?_
           | refine headS_cons ?_
           | refine headB_cons ?_
           | refine headV_cons ?_
           | refine headX_cons ?_
           | refine headI_u8 (by first | omega | (simp; omega)) (fun _ => ?_)
           | refine headI_ints (by first | omega | (simp; omega)) ?_
           | refine bytesK_map ?_
           | refine catK_nil ?_
           | refine catK_nil' ?_
           | refine catK_u8 ?_
           | refine catK_one ?_
           | refine catK_lit (by omega) ?_
           | refine catK_ints ?_
           | refine catK_int1 ?_
           | refine packK_u8 ?_
           | refine packK_0 ?_
           | refine packK_1 (by omega) ?_
           | refine packK_2 (by omega) (by omega) ?_
           | refine packK_3 (by omega) (by omega) (by omega) ?_
           | refine packK_4 (by omega) (by omega) (by omega) (by omega) ?_
           | refine packK_any ?_
           | refine shrK_8 0 (by omega) rfl (by omega) ?_
           | refine shrK_8 1 (by omega) rfl (by omega) ?_
           | refine shrK_8 2 (by omega) rfl (by omega) ?_
           | refine shrK_8 3 (by omega) rfl (by omega) ?_
           | refine shlK_8 (by omega) (by omega) ?_
           | refine bitK_or8 (by omega) (by omega) ?_
           | refine nilK_no (by omega) ?_
           | refine takeC_u8 ?_
           | refine dropC_u8 ?_
           | refine dropC_zero ?_
           | refine takeC_any ?_
           | refine dropC_any ?_
           | refine callK_intro (c_awake6) ?_
           | refine callK_intro (c_long6 _ _ _ _ _ _ _ _ _ _) ?_
           | refine callK_intro (cA) ?_
           | refine callK_intro (cK) ?_
           | refine callK_intro (s1) ?_
           | refine callK_intro (t1) ?_
           | refine callK_intro (s2) ?_
           | refine callK_intro (t2) ?_
           | refine callK_intro (s3) ?_
           | refine callK_intro (t3) ?_
           | refine callK_intro (s4) ?_
           | refine callK_intro (t4) ?_
           | refine callK_intro (p1) ?_
           | refine callK_intro (p2) ?_
           | refine callK_intro (p3) ?_
           | refine callK_intro (p4) ?_
           | refine callK_intro (cO _ rfl (by omega) _) ?_
           | refine callK_intro (cR _ rfl (by omega) _) ?_
           | refine loopK_step (G := g9) ?_
           | refine catK_any ?_
           | refine eitherK_l ?_
           | refine nlK_sl ?_
           | refine sideK_intro (by first | omega | rfl | exact Nat.le_of_ble_eq_true rfl | (refine ⟨?_, ?_⟩ <;> first | omega | (simp; done) | (simp; omega)) | (simp; done) | (simp; omega)) ?_
           | refine drawK_intro (by kernel_rfl) (by kernel_rfl) ?_)) <;> (try (conv => whnf))
end Go.Sx
namespace Go.Proofs.Ytcmcjiacpahliaa
open Go.ChangeShapes Go.WideShapes Go.ChangeAt Go.RowKit Go.Sx
namespace TicketSealsProof
set_option maxRecDepth 100000 in
theorem walk (W : World) (v0 v1 v2 v3 v4 v5 : Value) (ls0 ls1 ls2 ls3 ls4 ls5 : List L)
    (t0 : Typ (tabF tab) 35 ls0) (t1 : Typ (tabF tab) 41 ls1) (t2 : Typ (tabF tab) 25 ls2) (t3 : Typ (tabF tab) 5 ls3) (t4 : Typ (tabF tab) 41 ls4) (t5 : Typ (tabF tab) 60 ls5)
    (r0 : RelC (fun _ => False) W noMu (argC (tabF tab 35).agg ls0) v0) (r1 : RelC (fun _ => False) W noMu (argC (tabF tab 41).agg ls1) v1) (r2 : RelC (fun _ => False) W noMu (argC (tabF tab 25).agg ls2) v2) (r3 : RelC (fun _ => False) W noMu (argC (tabF tab 5).agg ls3) v3) (r4 : RelC (fun _ => False) W noMu (argC (tabF tab 41).agg ls4) v4) (r5 : RelC (fun _ => False) W noMu (argC (tabF tab 60).agg ls5) v5) :
    Calls Try.prog 9 #[v0, v1, v2, v3, v4, v5] W fun e w' => e = .returned (.bool true) ∧ Below W.heap.size W w' := by
  obtain ⟨partsa0, rfl, hla0, hpa0⟩ := typ_struct t0 rfl
  obtain ⟨qa0_0, qa0_1, qa0_2, qa0_3, qa0_4, qa0_5, qa0_6, qa0_7, rfl⟩ : ∃ qa0_0 qa0_1 qa0_2 qa0_3 qa0_4 qa0_5 qa0_6 qa0_7, partsa0 = [qa0_0, qa0_1, qa0_2, qa0_3, qa0_4, qa0_5, qa0_6, qa0_7] := by
    match partsa0, hla0 with
    | [qa0_0, qa0_1, qa0_2, qa0_3, qa0_4, qa0_5, qa0_6, qa0_7], _ => exact ⟨qa0_0, qa0_1, qa0_2, qa0_3, qa0_4, qa0_5, qa0_6, qa0_7, rfl⟩
  have ta0_0 := hpa0 0 _ qa0_0 rfl rfl
  obtain ⟨a0_0, rfl⟩ := typ_bool ta0_0 rfl
  have ta0_1 := hpa0 1 _ qa0_1 rfl rfl
  obtain ⟨partsa0_1, rfl, hla0_1, hpa0_1⟩ := typ_struct ta0_1 rfl
  obtain ⟨qa0_1_0, qa0_1_1, qa0_1_2, rfl⟩ : ∃ qa0_1_0 qa0_1_1 qa0_1_2, partsa0_1 = [qa0_1_0, qa0_1_1, qa0_1_2] := by
    match partsa0_1, hla0_1 with
    | [qa0_1_0, qa0_1_1, qa0_1_2], _ => exact ⟨qa0_1_0, qa0_1_1, qa0_1_2, rfl⟩
  have ta0_1_0 := hpa0_1 0 _ qa0_1_0 rfl rfl
  obtain ⟨a0_1_0, rfl⟩ := typ_str ta0_1_0 rfl
  have ta0_1_1 := hpa0_1 1 _ qa0_1_1 rfl rfl
  obtain ⟨a0_1_1, rfl⟩ := typ_str ta0_1_1 rfl
  have ta0_1_2 := hpa0_1 2 _ qa0_1_2 rfl rfl
  obtain ⟨a0_1_2, rfl⟩ := typ_str ta0_1_2 rfl
  have ta0_2 := hpa0 2 _ qa0_2 rfl rfl
  obtain ⟨a0_2, rfl, wa0_2⟩ := typ_int ta0_2 rfl
  have ta0_3 := hpa0 3 _ qa0_3 rfl rfl
  obtain ⟨a0_3, rfl, wa0_3⟩ := typ_int ta0_3 rfl
  have ta0_4 := hpa0 4 _ qa0_4 rfl rfl
  obtain ⟨a0_4, rfl, wa0_4⟩ := typ_int ta0_4 rfl
  have ta0_5 := hpa0 5 _ qa0_5 rfl rfl
  obtain ⟨a0_5, rfl, wa0_5⟩ := typ_int ta0_5 rfl
  have ta0_6 := hpa0 6 _ qa0_6 rfl rfl
  obtain ⟨a0_6, rfl⟩ := typ_str ta0_6 rfl
  have ta0_7 := hpa0 7 _ qa0_7 rfl rfl
  obtain ⟨a0_7, rfl⟩ := typ_str ta0_7 rfl
  obtain ⟨a1, rfl⟩ := typ_bytes t1 rfl rfl
  obtain ⟨a2, rfl, wa2⟩ := typ_int t2 rfl
  obtain ⟨a3, rfl⟩ := typ_u8 t3 rfl
  obtain ⟨a4, rfl⟩ := typ_bytes t4 rfl rfl
  obtain ⟨a5, rfl, wa5⟩ := typ_int t5 rfl
  exact calls_of_fn Try.func9 rfl rfl (c_TicketSeals a0_0 a0_1_0 a0_1_1 a0_1_2 a0_2 a0_3 a0_4 a0_5 a0_6 a0_7 (wf_u64 wa0_3) a1 a2 (wf_u64 wa2) a3 a4 a5 (wf_u16 wa5)) (relCs_cons r0 (relCs_cons r1 (relCs_cons r2 (relCs_cons r3 (relCs_cons r4 (relCs_cons r5 relCs_nil))))))

set_option maxRecDepth 100000 in
theorem lifted (os : Os) (started : os.Started) (H : Type) (enc : TypeId × Value → H) :
    ReturnsInHanded {} Try.checked os 9 .any (Rows.ticketSealsSpec.pre6 enc Try.prog Try.f9 Rows.ticketSealsRow.domain false) (Rows.ticketSealsSpec.post enc Try.prog Try.f9 false true false false) := by
  refine returnsInHanded_of_change (C := Try.checked) ownA started (by kernel_rfl) Try.func9
    (ChangeSpec.witness6 (enc := enc) (C := Try.checked) false ⟨#[], #[.agg #[.bool false, .string ByteArray.empty, .string ByteArray.empty, .string ByteArray.empty, .int .i64 0, .int .u64 0, .int .i64 0, .int .i64 0, .string ByteArray.empty, .string ByteArray.empty], .slice none 0 0, .int .u64 0, .int .u8 0, .slice none 0 0, .int .u16 0], []⟩ 8 (by kernel_rfl) (by kernel_rfl) (by kernel_rfl) (by kernel_rfl)) ?_
  intro W base args ds gs before hval0 hW hcnd _
  have hval : ∀ (j : Nat) t v, Try.f9.params[j]? = some t → args[j]? = some v → Value.okWide Try.prog W .any base t v := hval0
  have hW' := hW
  obtain ⟨p, q, hA0, hV, rfl, hfz, hnd⟩ := hW
  have hA : DataW.TrodAll enc Try.prog W 0 (fun _ => true) true Try.f9.params.toList args.toList ds p := hA0
  rw [Try.params9] at hA hval
  obtain ⟨v0, vs0, d0, ds0, p0, q0, hargs, rfl, rfl, h0, r0⟩ := trodAll_cons hA
  obtain ⟨v1, vs1, d1, ds1, p1, q1, rfl, rfl, rfl, h1, r1⟩ := trodAll_cons r0
  obtain ⟨v2, vs2, d2, ds2, p2, q2, rfl, rfl, rfl, h2, r2⟩ := trodAll_cons r1
  obtain ⟨v3, vs3, d3, ds3, p3, q3, rfl, rfl, rfl, h3, r3⟩ := trodAll_cons r2
  obtain ⟨v4, vs4, d4, ds4, p4, q4, rfl, rfl, rfl, h4, r4⟩ := trodAll_cons r3
  obtain ⟨v5, vs5, d5, ds5, p5, q5, rfl, rfl, rfl, h5, r5⟩ := trodAll_cons r4
  obtain ⟨rfl, rfl, rfl⟩ := trodAll_nil r5
  obtain rfl : args = #[v0, v1, v2, v3, v4, v5] := by cases args; simp_all
  obtain ⟨rfl, rfl⟩ := trodVars_none hV
  obtain ⟨ls0, t0, c0⟩ := rel_arg tokA (n := 9) rfl h0 (hval 0 35 v0 rfl rfl)
  obtain ⟨ls1, t1, c1⟩ := rel_arg tokA (n := 9) rfl h1 (hval 1 41 v1 rfl rfl)
  obtain ⟨ls2, t2, c2⟩ := rel_arg tokA (n := 9) rfl h2 (hval 2 25 v2 rfl rfl)
  obtain ⟨ls3, t3, c3⟩ := rel_arg tokA (n := 9) rfl h3 (hval 3 5 v3 rfl rfl)
  obtain ⟨ls4, t4, c4⟩ := rel_arg tokA (n := 9) rfl h4 (hval 4 41 v4 rfl rfl)
  obtain ⟨ls5, t5, c5⟩ := rel_arg tokA (n := 9) rfl h5 (hval 5 60 v5 rfl rfl)
  have lt0 : ∀ x ∈ p0, x.block < W.heap.size := by obtain ⟨m, hm⟩ := h0; exact DataW.trod_lt m _ _ _ hm
  have lt1 : ∀ x ∈ p1, x.block < W.heap.size := by obtain ⟨m, hm⟩ := h1; exact DataW.trod_lt m _ _ _ hm
  have lt2 : ∀ x ∈ p2, x.block < W.heap.size := by obtain ⟨m, hm⟩ := h2; exact DataW.trod_lt m _ _ _ hm
  have lt3 : ∀ x ∈ p3, x.block < W.heap.size := by obtain ⟨m, hm⟩ := h3; exact DataW.trod_lt m _ _ _ hm
  have lt4 : ∀ x ∈ p4, x.block < W.heap.size := by obtain ⟨m, hm⟩ := h4; exact DataW.trod_lt m _ _ _ hm
  have lt5 : ∀ x ∈ p5, x.block < W.heap.size := by obtain ⟨m, hm⟩ := h5; exact DataW.trod_lt m _ _ _ hm
  clear hA0 hval0
  refine (walk W v0 v1 v2 v3 v4 v5 ls0 ls1 ls2 ls3 ls4 ls5 t0 t1 t2 t3 t4 t5 c0 c1 c2 c3 c4 c5).mono fun e W' ⟨he, bel⟩ => ?_
  subst he
  exact ⟨_, rfl, _, _, _, [], _, [], hW', trodAll_mk1 (shut_bool Try.underlying4 _), (trodAll_cons_mk (Below.trod laidOutA (by kernel_rfl) (of_decide_eq_true (by kernel_rfl)) h0 bel lt0) (trodAll_cons_mk (Below.trod laidOutA (by kernel_rfl) (of_decide_eq_true (by kernel_rfl)) h1 bel lt1) (trodAll_cons_mk (Below.trod laidOutA (by kernel_rfl) (of_decide_eq_true (by kernel_rfl)) h2 bel lt2) (trodAll_cons_mk (Below.trod laidOutA (by kernel_rfl) (of_decide_eq_true (by kernel_rfl)) h3 bel lt3) (trodAll_cons_mk (Below.trod laidOutA (by kernel_rfl) (of_decide_eq_true (by kernel_rfl)) h4 bel lt4) (trodAll_cons_mk (Below.trod laidOutA (by kernel_rfl) (of_decide_eq_true (by kernel_rfl)) h5 bel lt5) trodAll_mk0)))))), rfl, bel.frame _, fun h => by cases h⟩

theorem over : Rows.ticketSealsRow.holds Try.pinned (OpenSpec.ofChange Rows.ticketSealsSpec) :=
  OpenClaim.holds_of_wide 9 Try.f9 rfl rfl rfl rfl rfl rfl rfl ⟨rfl, rfl, rfl, rfl, rfl⟩ rfl rfl rfl rfl rfl (by kernel_rfl) Try.func9 (by kernel_rfl)
    (of_decide_eq_true (by kernel_rfl)) (by unfold Func.isWrapper; first | (rw [if_pos (by decide +kernel)]; kernel_rfl) | (rw [if_neg (by decide +kernel)]; exact ⟨rfl, rfl⟩))
    (fun os started H enc _ => lifted os started H enc)
end TicketSealsProof

theorem ticketSeals_proved : Rows.TicketSealsSaid := TicketSealsProof.over
#print axioms ticketSeals_proved
end Go.Proofs.Ytcmcjiacpahliaa

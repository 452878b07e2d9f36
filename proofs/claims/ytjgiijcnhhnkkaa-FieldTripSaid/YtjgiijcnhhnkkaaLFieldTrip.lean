/-
  The statement FieldTrip: the law returns true for every input; no conditions.
-/
import Derived.Test.YtjgiijcnhhnkkaaCLaw5
import Derived.Test.YtjgiijcnhhnkkaaCData
import Derived.Test.YtjgiijcnhhnkkaaCFieldP
set_option linter.all false
namespace Go.Sx
open Go.Proofs
noncomputable def g10 : Par := par 140 (nthLL [[0, 1, 2, 3, 4, 5, 6], [0, 1, 2, 3, 4, 5, 6, 31], [14], [0, 1, 2, 3, 4, 5, 6, 39], [14], [0, 1, 2, 3, 4, 6, 15], [0, 1, 2, 3, 4, 6, 15, 16], [0, 1, 2, 3, 4, 6, 15, 16], [0, 1, 2, 3, 4, 6, 15, 16], [0, 1, 2, 3, 4, 6, 15, 16], [0, 1, 2, 3, 4, 6, 15, 16, 17], [0, 2, 3, 4, 6, 15, 16, 17], [2, 3, 4, 6, 15, 16, 17, 18, 19, 20], [2, 3, 4, 15, 16, 17, 18, 20, 21, 22, 23], [2, 3, 4, 15, 16, 17, 18, 20, 21, 23, 24, 25, 26], [2, 3, 4, 15, 17, 18, 20, 21, 23, 24, 26, 27, 28, 29], [14]]) [14] (nthLL [])
set_option maxRecDepth 10000
set_option maxHeartbeats 4000000
theorem c_FieldTrip (f r : List UInt8) (n : Int) (hn : 0 ≤ n ∧ n ≤ 4294967295) (m : Int) (hm : 0 ≤ m ∧ m ≤ 65535) (o w : UInt8) (l : Bool) : Fn Try.prog 10 [.o (.sl (f.map u8) f.length), .o (.sl (r.map u8) r.length), .o (.i .u32 n), .o (.i .u16 m), .o (.i .u8 (o.toNat : Int)), .o (.i .u8 (w.toNat : Int)), .o (.b l)] [] (.one (.c (.o (.b true)))) [] := by
  have ho := byte_lt o
  have hw := byte_lt w
  refine Fn_intro (G := g10) (goodA rfl) (fn := Try.f10) rfl rfl rfl rfl rfl ?_
  by_cases hb : f.length > 200 ∨ r.length > 200
  · (repeat' ((conv => whnf) <;>
           first
           | exact rfl
           | with_reducible refine boolK_dec (fun _ => ?_) (fun _ => ?_) <;> try (exfalso; omega)
           | refine boolK_beq (fun _ => ?_) (fun _ => ?_) <;> try (exfalso; first | omega | contradiction)
           | refine boolK_bne (fun _ => ?_) (fun _ => ?_) <;> try (exfalso; first | omega | contradiction)
           | with_reducible refine boolK_not ?_
           | with_reducible refine boolK_and ?_
           | with_reducible refine boolK_or ?_
           | with_reducible refine boolK_true ?_
           | with_reducible refine boolK_false ?_
           | refine boolK_intro (fun _ => ?_) (fun _ => ?_) <;> try (exfalso; simp_all; done)
           | refine wrapK_i64 (by omega) ?_
           | refine wrapK_u8 (by omega) ?_
           | refine convK_i64 (by omega) ?_
           | refine convK_byte ?_
           | refine convK_u64 (by omega) ?_
           | refine convK_u16 (by omega) ?_
           | refine convK_u32 (by omega) ?_
           | refine wrapK_byte ?_
           | refine wrapK_u64 (by omega) ?_
           | refine wrapK_u32 (by omega) ?_
           | refine wrapK_u16 (by omega) ?_
           | with_reducible refine natK_lit ?_
           | refine natK_of rfl ?_
           | refine natK_any ?_
           | refine quoK_i64 (by omega) ?_
           | refine quoK_u8 (by omega) ?_
           | refine quoK_u16 (by omega) ?_
           | refine remK_pos (by omega) ?_
           | refine headI_cons ?_
           | refine headS_cons ?_
           | refine headB_cons ?_
           | refine headV_cons ?_
           | refine headX_cons ?_
           | refine headI_u8 (by first | omega | (simp; omega)) (fun _ => ?_)
           | refine headI_ints (by first | omega | (simp; omega)) ?_
           | refine bytesK_map ?_
           | refine catK_nil ?_
           | refine catK_nil' ?_
           | refine catK_u8 ?_
           | refine catK_one ?_
           | refine catK_lit (by omega) ?_
           | refine catK_ints ?_
           | refine catK_int1 ?_
           | refine packK_u8 ?_
           | refine packK_0 ?_
           | refine packK_1 (by omega) ?_
           | refine packK_2 (by omega) (by omega) ?_
           | refine packK_3 (by omega) (by omega) (by omega) ?_
           | refine packK_4 (by omega) (by omega) (by omega) (by omega) ?_
           | refine packK_any ?_
           | refine shrK_8 0 (by omega) rfl (by omega) ?_
           | refine shrK_8 1 (by omega) rfl (by omega) ?_
           | refine shrK_8 2 (by omega) rfl (by omega) ?_
           | refine shrK_8 3 (by omega) rfl (by omega) ?_
           | refine shlK_8 (by omega) (by omega) ?_
           | refine bitK_or8 (by omega) (by omega) ?_
           | refine nilK_no (by omega) ?_
           | refine takeC_u8 ?_
           | refine dropC_u8 ?_
           | refine dropC_zero ?_
           | refine takeC_any ?_
           | refine dropC_any ?_
           | refine callK_intro (c_awake5) ?_
           | refine catK_any ?_
           | refine eitherK_l ?_
           | refine nlK_sl ?_
           | refine sideK_intro (by first | omega | rfl | exact Nat.le_of_ble_eq_true rfl | (refine ⟨?_, ?_⟩ <;> first | omega | (simp; done) | (simp; omega)) | (simp; done) | (simp; omega)) ?_
           | refine drawK_intro (by kernel_rfl) (by kernel_rfl) ?_)) <;> (try (conv => whnf))
  · have hv := user_valid w.toNat ((w.toNat : Int) / 3)
    generalize hx : userN w.toNat = x at hv
    generalize hz : realmN ((w.toNat : Int) / 3) = z at hv
    obtain ⟨l1, l2, l3⟩ := valid_len hv
    have cU := c_User (w.toNat : Int) (by omega)
    rw [hx, hz] at cU
    generalize hB : f ++ numS l 4 n ++ numS l 2 m ++ numS false 1 (o.toNat : Int) ++ x ++ [0] ++ [] ++ [0] ++ z ++ [0] ++ r = B
    have hB' : B = f ++ numS l 4 n ++ numS l 2 m ++ numS false 1 (o.toNat : Int) ++ x ++ [0] ++ [] ++ [0] ++ z ++ [0] ++ r := hB.symm
    have hBl : B.length = f.length + 4 + 2 + 1 + x.length + 1 + 0 + 1 + z.length + 1 + r.length := by rw [hB']; simp; omega
    have g1 : getS l 4 B f.length = (n, (f.length : Int) + 4, 0) := getS4_at (p := f) (r := numS l 2 m ++ numS false 1 (o.toNat : Int) ++ x ++ [0] ++ [] ++ [0] ++ z ++ [0] ++ r) (by rw [hB']; simp) rfl hn
    have g2 : getS l 2 B ((f.length : Int) + 4) = (m, (f.length : Int) + 4 + 2, 0) := getS2_at (p := f ++ numS l 4 n) (r := numS false 1 (o.toNat : Int) ++ x ++ [0] ++ [] ++ [0] ++ z ++ [0] ++ r) (by rw [hB']; simp) (by simp) hm
    have g3 : getS false 1 B ((f.length : Int) + 4 + 2) = ((o.toNat : Int), (f.length : Int) + 4 + 2 + 1, 0) := getS1_at (p := f ++ numS l 4 n ++ numS l 2 m) (r := x ++ [0] ++ [] ++ [0] ++ z ++ [0] ++ r) (by rw [hB']; simp) (by simp; omega) (by omega)
    have g4 : prinS B ((f.length : Int) + 4 + 2 + 1) = ((x, [], z), (f.length : Int) + 4 + 2 + 1 + x.length + 1 + 0 + 1 + z.length + 1, 0) := prinS_at (p := f ++ numS l 4 n ++ numS l 2 m ++ numS false 1 (o.toNat : Int)) (r := r) (by rw [hB']; simp) (by simp; omega) hv
    have c1 : ∀ {q : Nat}, q = B.length → Fn Try.prog 61 [.o (.sl (B.map u8) q), .o (.i .i64 (f.length : Int)), .o (.b l)] [] (.tup [.c (.o (.i .i64 n)), .c (.o (.i .i64 ((f.length : Int) + 4))), .c (.o (.i .i64 0))]) [] := fun hq => by
      have c := c_Number B hq (by omega) f.length (by omega) l
      rw [g1] at c
      exact c
    have c2 : ∀ {q : Nat}, q = B.length → Fn Try.prog 62 [.o (.sl (B.map u8) q), .o (.i .i64 ((f.length : Int) + 4)), .o (.b l)] [] (.tup [.c (.o (.i .i64 m)), .c (.o (.i .i64 ((f.length : Int) + 4 + 2))), .c (.o (.i .i64 0))]) [] := fun hq => by
      have c := c_Short B hq (by omega) ((f.length : Int) + 4) (by omega) l
      rw [g2] at c
      exact c
    have c3 : ∀ {q : Nat}, q = B.length → Fn Try.prog 63 [.o (.sl (B.map u8) q), .o (.i .i64 ((f.length : Int) + 4 + 2))] [] (.tup [.c (.o (.i .i64 (o.toNat : Int))), .c (.o (.i .i64 ((f.length : Int) + 4 + 2 + 1))), .c (.o (.i .i64 0))]) [] := fun hq => by
      have c := c_Octet B hq (by omega) ((f.length : Int) + 4 + 2) (by omega)
      rw [g3] at c
      exact c
    have c4 : ∀ {q : Nat}, q = B.length → Fn Try.prog 34 [.o (.sl (B.map u8) q), .o (.i .i64 ((f.length : Int) + 4 + 2 + 1))] [] (.tup [.c (.a [.s x, .s [], .s z]), .c (.o (.i .i64 ((f.length : Int) + 4 + 2 + 1 + x.length + 1 + 0 + 1 + z.length + 1))), .c (.o (.i .i64 0))]) [] := fun hq => by
      have c := c_Principal B hq (by omega) ((f.length : Int) + 4 + 2 + 1) (by omega)
      rw [g4] at c
      exact c
    subst hB'
    have e0 : ([] : List UInt8).length = 0 := rfl
    (repeat' ((conv => whnf) <;>
           first
           | exact rfl
           | with_reducible refine boolK_dec (fun _ => ?_) (fun _ => ?_) <;> try (exfalso; omega)
           | refine boolK_beq (fun _ => ?_) (fun _ => ?_) <;> try (exfalso; first | omega | contradiction)
           | refine boolK_bne (fun _ => ?_) (fun _ => ?_) <;> try (exfalso; first | omega | contradiction)
           | with_reducible refine boolK_not ?_
           | with_reducible refine boolK_and ?_
           | with_reducible refine boolK_or ?_
           | with_reducible refine boolK_true ?_
           | with_reducible refine boolK_false ?_
           | refine boolK_intro (fun _ => ?_) (fun _ => ?_) <;> try (exfalso; simp_all; done)
           | refine wrapK_i64 (by omega) ?_
           | refine wrapK_u8 (by omega) ?_
           | refine convK_i64 (by omega) ?_
           | refine convK_byte ?_
           | refine convK_u64 (by omega) ?_
           | refine convK_u16 (by omega) ?_
           | refine convK_u32 (by omega) ?_
           | refine wrapK_byte ?_
           | refine wrapK_u64 (by omega) ?_
           | refine wrapK_u32 (by omega) ?_
           | refine wrapK_u16 (by omega) ?_
           | with_reducible refine natK_lit ?_
           | refine natK_of rfl ?_
           | refine natK_any ?_
           | refine quoK_i64 (by omega) ?_
           | refine quoK_u8 (by omega) ?_
           | refine quoK_u16 (by omega) ?_
           | refine remK_pos (by omega) ?_
           | refine headI_cons ?_
           | refine headS_cons ?_
           | refine headB_cons ?_
           | refine headV_cons ?_
           | refine headX_cons ?_
           | refine headI_u8 (by first | omega | (simp; omega)) (fun _ => ?_)
           | refine headI_ints (by first | omega | (simp; omega)) ?_
           | refine bytesK_map ?_
           | refine catK_nil ?_
           | refine catK_nil' ?_
           | refine catK_u8 ?_
           | refine catK_one ?_
           | refine catK_lit (by omega) ?_
           | refine catK_ints ?_
           | refine catK_int1 ?_
           | refine packK_u8 ?_
           | refine packK_0 ?_
           | refine packK_1 (by omega) ?_
           | refine packK_2 (by omega) (by omega) ?_
           | refine packK_3 (by omega) (by omega) (by omega) ?_
           | refine packK_4 (by omega) (by omega) (by omega) (by omega) ?_
           | refine packK_any ?_
           | refine shrK_8 0 (by omega) rfl (by omega) ?_
           | refine shrK_8 1 (by omega) rfl (by omega) ?_
           | refine shrK_8 2 (by omega) rfl (by omega) ?_
           | refine shrK_8 3 (by omega) rfl (by omega) ?_
           | refine shlK_8 (by omega) (by omega) ?_
           | refine bitK_or8 (by omega) (by omega) ?_
           | refine nilK_no (by omega) ?_
           | refine takeC_u8 ?_
           | refine dropC_u8 ?_
           | refine dropC_zero ?_
           | refine takeC_any ?_
           | refine dropC_any ?_
           | refine callK_intro (c_awake5) ?_
           | refine callK_intro (cU) ?_
           | refine callK_intro (c_PutNumber f rfl (by first | omega | (simp; done) | (simp; omega)) _ _) ?_
           | refine callK_intro (c_PutShort (f ++ numS l 4 n) (by first | rfl | (simp; done) | (simp; omega)) (by first | omega | (simp; done) | (simp; omega)) _ _) ?_
           | refine callK_intro (c_PutOctet (f ++ numS l 4 n ++ numS l 2 m) (by first | rfl | (simp; done) | (simp; omega)) (by first | omega | (simp; done) | (simp; omega)) _) ?_
           | refine callK_intro (c_PutPrincipal (f ++ numS l 4 n ++ numS l 2 m ++ numS false 1 (o.toNat : Int)) (by first | rfl | (simp; done) | (simp; omega)) _ _ _ (by first | omega | (simp; done) | (simp; omega))) ?_
           | refine callK_intro (c1 (by first | rfl | (simp; done) | (simp; omega))) ?_
           | refine callK_intro (c2 (by first | rfl | (simp; done) | (simp; omega))) ?_
           | refine callK_intro (c3 (by first | rfl | (simp; done) | (simp; omega))) ?_
           | refine callK_intro (c4 (by first | rfl | (simp; done) | (simp; omega))) ?_
           | refine catK_any ?_
           | refine eitherK_l ?_
           | refine nlK_sl ?_
           | refine sideK_intro (by first | omega | rfl | exact Nat.le_of_ble_eq_true rfl | (refine ⟨?_, ?_⟩ <;> first | omega | (simp; done) | (simp; omega)) | (simp; done) | (simp; omega)) ?_
           | refine drawK_intro (by kernel_rfl) (by kernel_rfl) ?_)) <;> (try (conv => whnf))
end Go.Sx
namespace Go.Proofs.Ytjgiijcnhhnkkaa
open Go.ChangeShapes Go.WideShapes Go.ChangeAt Go.RowKit Go.Sx
namespace FieldTripProof
set_option maxRecDepth 100000 in
theorem walk (W : World) (v0 v1 v2 v3 v4 v5 v6 : Value) (ls0 ls1 ls2 ls3 ls4 ls5 ls6 : List L)
    (t0 : Typ (tabF tab) 41 ls0) (t1 : Typ (tabF tab) 41 ls1) (t2 : Typ (tabF tab) 28 ls2) (t3 : Typ (tabF tab) 48 ls3) (t4 : Typ (tabF tab) 5 ls4) (t5 : Typ (tabF tab) 5 ls5) (t6 : Typ (tabF tab) 4 ls6)
    (r0 : RelC (fun _ => False) W noMu (argC (tabF tab 41).agg ls0) v0) (r1 : RelC (fun _ => False) W noMu (argC (tabF tab 41).agg ls1) v1) (r2 : RelC (fun _ => False) W noMu (argC (tabF tab 28).agg ls2) v2) (r3 : RelC (fun _ => False) W noMu (argC (tabF tab 48).agg ls3) v3) (r4 : RelC (fun _ => False) W noMu (argC (tabF tab 5).agg ls4) v4) (r5 : RelC (fun _ => False) W noMu (argC (tabF tab 5).agg ls5) v5) (r6 : RelC (fun _ => False) W noMu (argC (tabF tab 4).agg ls6) v6) :
    Calls Try.prog 10 #[v0, v1, v2, v3, v4, v5, v6] W fun e w' => e = .returned (.bool true) ∧ Below W.heap.size W w' := by
  obtain ⟨a0, rfl⟩ := typ_bytes t0 rfl rfl
  obtain ⟨a1, rfl⟩ := typ_bytes t1 rfl rfl
  obtain ⟨a2, rfl, wa2⟩ := typ_int t2 rfl
  obtain ⟨a3, rfl, wa3⟩ := typ_int t3 rfl
  obtain ⟨a4, rfl⟩ := typ_u8 t4 rfl
  obtain ⟨a5, rfl⟩ := typ_u8 t5 rfl
  obtain ⟨a6, rfl⟩ := typ_bool t6 rfl
  exact calls_of_fn Try.func10 rfl rfl (c_FieldTrip a0 a1 a2 (wf_u32 wa2) a3 (wf_u16 wa3) a4 a5 a6) (relCs_cons r0 (relCs_cons r1 (relCs_cons r2 (relCs_cons r3 (relCs_cons r4 (relCs_cons r5 (relCs_cons r6 relCs_nil)))))))

set_option maxRecDepth 100000 in
theorem lifted (os : Os) (started : os.Started) (H : Type) (enc : TypeId × Value → H) :
    ReturnsInHanded {} Try.checked os 10 .any (Rows.fieldTripSpec.pre6 enc Try.prog Try.f10 Rows.fieldTripRow.domain false) (Rows.fieldTripSpec.post enc Try.prog Try.f10 false true false false) := by
  refine returnsInHanded_of_change (C := Try.checked) ownA started (by kernel_rfl) Try.func10
    (ChangeSpec.witness6 (enc := enc) (C := Try.checked) false ⟨#[], #[.slice none 0 0, .slice none 0 0, .int .u32 0, .int .u16 0, .int .u8 0, .int .u8 0, .bool false], []⟩ 8 (by kernel_rfl) (by kernel_rfl) (by kernel_rfl) (by kernel_rfl)) ?_
  intro W base args ds gs before hval0 hW hcnd _
  have hval : ∀ (j : Nat) t v, Try.f10.params[j]? = some t → args[j]? = some v → Value.okWide Try.prog W .any base t v := hval0
  have hW' := hW
  obtain ⟨p, q, hA0, hV, rfl, hfz, hnd⟩ := hW
  have hA : DataW.TrodAll enc Try.prog W 0 (fun _ => true) true Try.f10.params.toList args.toList ds p := hA0
  rw [Try.params10] at hA hval
  obtain ⟨v0, vs0, d0, ds0, p0, q0, hargs, rfl, rfl, h0, r0⟩ := trodAll_cons hA
  obtain ⟨v1, vs1, d1, ds1, p1, q1, rfl, rfl, rfl, h1, r1⟩ := trodAll_cons r0
  obtain ⟨v2, vs2, d2, ds2, p2, q2, rfl, rfl, rfl, h2, r2⟩ := trodAll_cons r1
  obtain ⟨v3, vs3, d3, ds3, p3, q3, rfl, rfl, rfl, h3, r3⟩ := trodAll_cons r2
  obtain ⟨v4, vs4, d4, ds4, p4, q4, rfl, rfl, rfl, h4, r4⟩ := trodAll_cons r3
  obtain ⟨v5, vs5, d5, ds5, p5, q5, rfl, rfl, rfl, h5, r5⟩ := trodAll_cons r4
  obtain ⟨v6, vs6, d6, ds6, p6, q6, rfl, rfl, rfl, h6, r6⟩ := trodAll_cons r5
  obtain ⟨rfl, rfl, rfl⟩ := trodAll_nil r6
  obtain rfl : args = #[v0, v1, v2, v3, v4, v5, v6] := by cases args; simp_all
  obtain ⟨rfl, rfl⟩ := trodVars_none hV
  obtain ⟨ls0, t0, c0⟩ := rel_arg tokA (n := 9) rfl h0 (hval 0 41 v0 rfl rfl)
  obtain ⟨ls1, t1, c1⟩ := rel_arg tokA (n := 9) rfl h1 (hval 1 41 v1 rfl rfl)
  obtain ⟨ls2, t2, c2⟩ := rel_arg tokA (n := 9) rfl h2 (hval 2 28 v2 rfl rfl)
  obtain ⟨ls3, t3, c3⟩ := rel_arg tokA (n := 9) rfl h3 (hval 3 48 v3 rfl rfl)
  obtain ⟨ls4, t4, c4⟩ := rel_arg tokA (n := 9) rfl h4 (hval 4 5 v4 rfl rfl)
  obtain ⟨ls5, t5, c5⟩ := rel_arg tokA (n := 9) rfl h5 (hval 5 5 v5 rfl rfl)
  obtain ⟨ls6, t6, c6⟩ := rel_arg tokA (n := 9) rfl h6 (hval 6 4 v6 rfl rfl)
  have lt0 : ∀ x ∈ p0, x.block < W.heap.size := by obtain ⟨m, hm⟩ := h0; exact DataW.trod_lt m _ _ _ hm
  have lt1 : ∀ x ∈ p1, x.block < W.heap.size := by obtain ⟨m, hm⟩ := h1; exact DataW.trod_lt m _ _ _ hm
  have lt2 : ∀ x ∈ p2, x.block < W.heap.size := by obtain ⟨m, hm⟩ := h2; exact DataW.trod_lt m _ _ _ hm
  have lt3 : ∀ x ∈ p3, x.block < W.heap.size := by obtain ⟨m, hm⟩ := h3; exact DataW.trod_lt m _ _ _ hm
  have lt4 : ∀ x ∈ p4, x.block < W.heap.size := by obtain ⟨m, hm⟩ := h4; exact DataW.trod_lt m _ _ _ hm
  have lt5 : ∀ x ∈ p5, x.block < W.heap.size := by obtain ⟨m, hm⟩ := h5; exact DataW.trod_lt m _ _ _ hm
  have lt6 : ∀ x ∈ p6, x.block < W.heap.size := by obtain ⟨m, hm⟩ := h6; exact DataW.trod_lt m _ _ _ hm
  clear hA0 hval0
  refine (walk W v0 v1 v2 v3 v4 v5 v6 ls0 ls1 ls2 ls3 ls4 ls5 ls6 t0 t1 t2 t3 t4 t5 t6 c0 c1 c2 c3 c4 c5 c6).mono fun e W' ⟨he, bel⟩ => ?_
  subst he
  exact ⟨_, rfl, _, _, _, [], _, [], hW', trodAll_mk1 (shut_bool Try.underlying4 _), (trodAll_cons_mk (Below.trod laidOutA (by kernel_rfl) (of_decide_eq_true (by kernel_rfl)) h0 bel lt0) (trodAll_cons_mk (Below.trod laidOutA (by kernel_rfl) (of_decide_eq_true (by kernel_rfl)) h1 bel lt1) (trodAll_cons_mk (Below.trod laidOutA (by kernel_rfl) (of_decide_eq_true (by kernel_rfl)) h2 bel lt2) (trodAll_cons_mk (Below.trod laidOutA (by kernel_rfl) (of_decide_eq_true (by kernel_rfl)) h3 bel lt3) (trodAll_cons_mk (Below.trod laidOutA (by kernel_rfl) (of_decide_eq_true (by kernel_rfl)) h4 bel lt4) (trodAll_cons_mk (Below.trod laidOutA (by kernel_rfl) (of_decide_eq_true (by kernel_rfl)) h5 bel lt5) (trodAll_cons_mk (Below.trod laidOutA (by kernel_rfl) (of_decide_eq_true (by kernel_rfl)) h6 bel lt6) trodAll_mk0))))))), rfl, bel.frame _, fun h => by cases h⟩

theorem over : Rows.fieldTripRow.holds Try.pinned (OpenSpec.ofChange Rows.fieldTripSpec) :=
  OpenClaim.holds_of_wide 10 Try.f10 rfl rfl rfl rfl rfl rfl rfl ⟨rfl, rfl, rfl, rfl, rfl⟩ rfl rfl rfl rfl rfl (by kernel_rfl) Try.func10 (by kernel_rfl)
    (of_decide_eq_true (by kernel_rfl)) (by unfold Func.isWrapper; first | (rw [if_pos (by decide +kernel)]; kernel_rfl) | (rw [if_neg (by decide +kernel)]; exact ⟨rfl, rfl⟩))
    (fun os started H enc _ => lifted os started H enc)
end FieldTripProof

theorem fieldTrip_proved : Rows.FieldTripSaid := FieldTripProof.over
#print axioms fieldTrip_proved
end Go.Proofs.Ytjgiijcnhhnkkaa

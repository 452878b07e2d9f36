/-
  The statement HeaderPuts: the law returns true for every input; no conditions.
-/
import Derived.Test.YtifacpjiieoalaaCHeader
import Derived.Test.YtifacpjiieoalaaRows
import Derived.ProofKit
import Derived.OpenShut
set_option linter.all false
namespace Go.Sx
open Go.Proofs
noncomputable def g15 : Par := par 18 (nthLL [[], [1], [0]]) [0] (nthLL [])
noncomputable def g3 : Par := par 67 (nthLL [[0, 1, 2, 3], [0, 1, 2, 3, 16], [8], [0, 1, 2, 3, 19], [8], [0, 1, 2, 3, 9], [0, 1, 2, 3, 9, 21], [0, 1, 2, 3, 9], [0, 1, 2, 3, 9, 10], [0, 1, 2, 3, 9, 10, 11], [0, 1, 2, 3, 9, 10, 11, 41], [8], [0, 1, 2, 3, 9, 10, 11, 44], [0, 1, 2, 3, 9, 10, 12, 13, 14], [0, 1, 2, 3, 9, 66], [8], [8]]) [8] (nthLL [[], [], [], [], [], [], [], [], [], [], [0, 1, 0, 0, 12, 28, 63]])
set_option maxRecDepth 10000
theorem c_awake8 : Fn Try.prog 15 [] [] (.one (.c (.o (.b true)))) [] := by
  refine Fn_intro (G := g15) (goodA rfl) (fn := Try.f15) rfl rfl rfl rfl rfl ?_
  repeat' ((conv => whnf) <;>
           first
           | exact rfl
           | refine boolK_dec (fun _ => ?_) (fun _ => ?_) <;> try (exfalso; omega)
           | refine boolK_beq (fun _ => ?_) (fun _ => ?_) <;> try (exfalso; first | omega | contradiction)
           | refine boolK_bne (fun _ => ?_) (fun _ => ?_) <;> try (exfalso; first | omega | contradiction)
           | refine boolK_not ?_
           | refine boolK_and ?_
           | refine boolK_or ?_
           | refine boolK_true ?_
           | refine boolK_false ?_
           | refine boolK_intro (fun _ => ?_) (fun _ => ?_) <;> try (exfalso; simp_all; done)
           | refine wrapK_i64 (by omega) ?_
           | refine wrapK_u8 (by omega) ?_
           | refine convK_i64 (by omega) ?_
           | refine convK_byte ?_
           | refine convK_u64 (by omega) ?_
           | refine convK_u16 (by omega) ?_
           | refine convK_u32 (by omega) ?_
           | refine wrapK_byte ?_
           | refine wrapK_u64 (by omega) ?_
           | refine wrapK_u32 (by omega) ?_
           | refine wrapK_u16 (by omega) ?_
           | refine natK_of rfl ?_
           | refine natK_any ?_
           | refine quoK_i64 (by omega) ?_
           | refine quoK_u8 (by omega) ?_
           | refine quoK_u16 (by omega) ?_
           | refine remK_pos (by omega) ?_
           | refine headI_cons ?_
           | refine headS_cons ?_
           | refine headB_cons ?_
           | refine headV_cons ?_
           | refine headX_cons ?_
           | refine headI_u8 (by first | omega | (simp; omega)) (fun _ => ?_)
           | refine headI_ints (by first | omega | (simp; omega)) ?_
           | refine bytesK_map ?_
           | refine catK_nil ?_
           | refine catK_nil' ?_
           | refine catK_u8 ?_
           | refine catK_one ?_
           | refine catK_lit (by omega) ?_
           | refine catK_ints ?_
           | refine catK_int1 ?_
           | refine packK_u8 ?_
           | refine packK_0 ?_
           | refine packK_1 (by omega) ?_
           | refine packK_2 (by omega) (by omega) ?_
           | refine packK_3 (by omega) (by omega) (by omega) ?_
           | refine packK_4 (by omega) (by omega) (by omega) (by omega) ?_
           | refine packK_any ?_
           | refine nilK_no (by omega) ?_
           | refine takeC_u8 ?_
           | refine dropC_u8 ?_
           | refine dropC_zero ?_
           | refine takeC_any ?_
           | refine dropC_any ?_
           | refine callK_intro (c_put _ _) ?_
           | refine catK_any ?_
           | refine eitherK_l ?_
           | refine nlK_sl ?_
           | refine sideK_intro (by first | rfl | (exfalso; simp_all [putS]; done) | (simp [putS]; done)) ?_
           | refine drawK_intro (by kernel_rfl) (by kernel_rfl) ?_)

theorem c_HeaderPuts (raw : Int) (x : UInt8) (l : Bool) (rest : List UInt8) : Fn Try.prog 3 [.o (.i .i64 raw), .o (.i .u8 (x.toNat : Int)), .o (.b l), .o (.sl (rest.map u8) rest.length)] [] (.one (.c (.o (.b true)))) [] := by
  have hx := byte_lt x
  refine Fn_intro (G := g3) (goodA rfl) (fn := Try.f3) rfl rfl rfl rfl rfl ?_
  repeat' ((conv => whnf) <;>
           first
           | exact rfl
           | refine boolK_dec (fun _ => ?_) (fun _ => ?_) <;> try (exfalso; omega)
           | refine boolK_beq (fun _ => ?_) (fun _ => ?_) <;> try (exfalso; first | omega | contradiction)
           | refine boolK_bne (fun _ => ?_) (fun _ => ?_) <;> try (exfalso; first | omega | contradiction)
           | refine boolK_not ?_
           | refine boolK_and ?_
           | refine boolK_or ?_
           | refine boolK_true ?_
           | refine boolK_false ?_
           | refine boolK_intro (fun _ => ?_) (fun _ => ?_) <;> try (exfalso; simp_all; done)
           | refine wrapK_i64 (by omega) ?_
           | refine wrapK_u8 (by omega) ?_
           | refine convK_i64 (by omega) ?_
           | refine convK_byte ?_
           | refine convK_u64 (by omega) ?_
           | refine convK_u16 (by omega) ?_
           | refine convK_u32 (by omega) ?_
           | refine wrapK_byte ?_
           | refine wrapK_u64 (by omega) ?_
           | refine wrapK_u32 (by omega) ?_
           | refine wrapK_u16 (by omega) ?_
           | refine natK_of rfl ?_
           | refine natK_any ?_
           | refine quoK_i64 (by omega) ?_
           | refine quoK_u8 (by omega) ?_
           | refine quoK_u16 (by omega) ?_
           | refine remK_pos (by omega) ?_
           | refine headI_cons ?_
           | refine headS_cons ?_
           | refine headB_cons ?_
           | refine headV_cons ?_
           | refine headX_cons ?_
           | refine headI_u8 (by first | omega | (simp; omega)) (fun _ => ?_)
           | refine headI_ints (by first | omega | (simp; omega)) ?_
           | refine bytesK_map ?_
           | refine catK_nil ?_
           | refine catK_nil' ?_
           | refine catK_u8 ?_
           | refine catK_one ?_
           | refine catK_lit (by omega) ?_
           | refine catK_ints ?_
           | refine catK_int1 ?_
           | refine packK_u8 ?_
           | refine packK_0 ?_
           | refine packK_1 (by omega) ?_
           | refine packK_2 (by omega) (by omega) ?_
           | refine packK_3 (by omega) (by omega) (by omega) ?_
           | refine packK_4 (by omega) (by omega) (by omega) (by omega) ?_
           | refine packK_any ?_
           | refine nilK_no (by omega) ?_
           | refine takeC_u8 ?_
           | refine dropC_u8 ?_
           | refine dropC_zero ?_
           | refine takeC_any ?_
           | refine dropC_any ?_
           | refine callK_intro (c_awake8) ?_
           | refine callK_intro (c_put _ _) ?_
           | refine callK_intro (c_rput _ _) ?_
           | refine callK_intro (c_read_put _ _ _ (by simp) (by assumption)) ?_
           | refine loopK_step (G := g3) ?_
           | refine catK_any ?_
           | refine eitherK_l ?_
           | refine nlK_sl ?_
           | refine sideK_intro (by first | omega | rfl | (simp; done) | (refine ⟨?_, by simp⟩; have := putS_len raw l; have := putS_len (x.toNat % 13) l; omega)) ?_
           | refine drawK_intro (by kernel_rfl) (by kernel_rfl) ?_)
end Go.Sx
namespace Go.Proofs.Ytifacpjiieoalaa
open Go.ChangeShapes Go.WideShapes Go.ChangeAt Go.RowKit Go.Sx
namespace HeaderPutsProof
theorem own : ownKnob Try.prog.godebug = none := by kernel_rfl
theorem laidOut : laidOutB Try.prog = true := by kernel_rfl
theorem walk (W : World) (v0 v1 v2 v3 : Value) (ls0 ls1 ls2 ls3 : List L)
    (t0 : Typ (tabF tab) 3 ls0) (t1 : Typ (tabF tab) 5 ls1) (t2 : Typ (tabF tab) 4 ls2) (t3 : Typ (tabF tab) 22 ls3)
    (r0 : RelC (fun _ => False) W noMu (argC (tabF tab 3).agg ls0) v0) (r1 : RelC (fun _ => False) W noMu (argC (tabF tab 5).agg ls1) v1) (r2 : RelC (fun _ => False) W noMu (argC (tabF tab 4).agg ls2) v2) (r3 : RelC (fun _ => False) W noMu (argC (tabF tab 22).agg ls3) v3) :
    Calls Try.prog 3 #[v0, v1, v2, v3] W fun e w' => e = .returned (.bool true) ∧ Below W.heap.size W w' := by
  obtain ⟨a0, rfl, wa0⟩ := typ_int t0 rfl
  obtain ⟨a1, rfl⟩ := typ_u8 t1 rfl
  obtain ⟨a2, rfl⟩ := typ_bool t2 rfl
  obtain ⟨a3, rfl⟩ := typ_bytes t3 rfl rfl
  exact calls_of_fn Try.func3 rfl rfl (c_HeaderPuts a0 a1 a2 a3) (relCs_cons r0 (relCs_cons r1 (relCs_cons r2 (relCs_cons r3 relCs_nil))))

set_option maxRecDepth 100000 in
theorem lifted (os : Os) (started : os.Started) (H : Type) (enc : TypeId × Value → H) :
    ReturnsInHanded {} Try.checked os 3 .any (Rows.headerPutsSpec.pre6 enc Try.prog Try.f3 Rows.headerPutsRow.domain false) (Rows.headerPutsSpec.post enc Try.prog Try.f3 false true false false) := by
  refine returnsInHanded_of_change (C := Try.checked) own started (by kernel_rfl) Try.func3
    (ChangeSpec.witness6 (enc := enc) (C := Try.checked) false ⟨#[], #[.int .i64 0, .int .u8 0, .bool false, .slice none 0 0], []⟩ 8 (by kernel_rfl) (by kernel_rfl) (by kernel_rfl) (by kernel_rfl)) ?_
  intro W base args ds gs before hval0 hW hcnd _
  have hval : ∀ (j : Nat) t v, Try.f3.params[j]? = some t → args[j]? = some v → Value.okWide Try.prog W .any base t v := hval0
  have hW' := hW
  obtain ⟨p, q, hA0, hV, rfl, hfz, hnd⟩ := hW
  have hA : DataW.TrodAll enc Try.prog W 0 (fun _ => true) true Try.f3.params.toList args.toList ds p := hA0
  rw [Try.params3] at hA hval
  obtain ⟨v0, vs0, d0, ds0, p0, q0, hargs, rfl, rfl, h0, r0⟩ := trodAll_cons hA
  obtain ⟨v1, vs1, d1, ds1, p1, q1, rfl, rfl, rfl, h1, r1⟩ := trodAll_cons r0
  obtain ⟨v2, vs2, d2, ds2, p2, q2, rfl, rfl, rfl, h2, r2⟩ := trodAll_cons r1
  obtain ⟨v3, vs3, d3, ds3, p3, q3, rfl, rfl, rfl, h3, r3⟩ := trodAll_cons r2
  obtain ⟨rfl, rfl, rfl⟩ := trodAll_nil r3
  obtain rfl : args = #[v0, v1, v2, v3] := by cases args; simp_all
  obtain ⟨rfl, rfl⟩ := trodVars_none hV
  obtain ⟨ls0, t0, c0⟩ := rel_arg tokA (n := 9) rfl h0 (hval 0 3 v0 rfl rfl)
  obtain ⟨ls1, t1, c1⟩ := rel_arg tokA (n := 9) rfl h1 (hval 1 5 v1 rfl rfl)
  obtain ⟨ls2, t2, c2⟩ := rel_arg tokA (n := 9) rfl h2 (hval 2 4 v2 rfl rfl)
  obtain ⟨ls3, t3, c3⟩ := rel_arg tokA (n := 9) rfl h3 (hval 3 22 v3 rfl rfl)
  have lt0 : ∀ x ∈ p0, x.block < W.heap.size := by obtain ⟨m, hm⟩ := h0; exact DataW.trod_lt m _ _ _ hm
  have lt1 : ∀ x ∈ p1, x.block < W.heap.size := by obtain ⟨m, hm⟩ := h1; exact DataW.trod_lt m _ _ _ hm
  have lt2 : ∀ x ∈ p2, x.block < W.heap.size := by obtain ⟨m, hm⟩ := h2; exact DataW.trod_lt m _ _ _ hm
  have lt3 : ∀ x ∈ p3, x.block < W.heap.size := by obtain ⟨m, hm⟩ := h3; exact DataW.trod_lt m _ _ _ hm
  clear hA0 hval0
  refine (walk W v0 v1 v2 v3 ls0 ls1 ls2 ls3 t0 t1 t2 t3 c0 c1 c2 c3).mono fun e W' ⟨he, bel⟩ => ?_
  subst he
  exact ⟨_, rfl, _, _, _, [], _, [], hW', trodAll_mk1 (shut_bool Try.underlying4 _), (trodAll_cons_mk (Below.trod laidOut (by kernel_rfl) (of_decide_eq_true (by kernel_rfl)) h0 bel lt0) (trodAll_cons_mk (Below.trod laidOut (by kernel_rfl) (of_decide_eq_true (by kernel_rfl)) h1 bel lt1) (trodAll_cons_mk (Below.trod laidOut (by kernel_rfl) (of_decide_eq_true (by kernel_rfl)) h2 bel lt2) (trodAll_cons_mk (Below.trod laidOut (by kernel_rfl) (of_decide_eq_true (by kernel_rfl)) h3 bel lt3) trodAll_mk0)))), rfl, bel.frame _, fun h => by cases h⟩

theorem over : Rows.headerPutsRow.holds Try.pinned (OpenSpec.ofChange Rows.headerPutsSpec) :=
  OpenClaim.holds_of_wide 3 Try.f3 rfl rfl rfl rfl rfl rfl rfl ⟨rfl, rfl, rfl, rfl, rfl⟩ rfl rfl rfl rfl rfl (by kernel_rfl) Try.func3 (by kernel_rfl)
    (of_decide_eq_true (by kernel_rfl)) (by unfold Func.isWrapper; first | (rw [if_pos (by decide +kernel)]; kernel_rfl) | (rw [if_neg (by decide +kernel)]; exact ⟨rfl, rfl⟩))
    (fun os started H enc _ => lifted os started H enc)
end HeaderPutsProof

theorem headerPuts_proved : Rows.HeaderPutsSaid := HeaderPutsProof.over
#print axioms headerPuts_proved
end Go.Proofs.Ytifacpjiieoalaa

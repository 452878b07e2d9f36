/-
  The statement FieldPads: the law returns true for every input; no conditions.
-/
import Derived.Test.YtifacpjiieoalaaCLaw5
set_option linter.all false
namespace Go.Sx
open Go.Proofs
noncomputable def g6 : Par := par 103 (nthLL [[0], [0, 6], [2], [0, 9], [2], [0, 3], [0, 3, 37], [2], [0, 3, 4], [0, 3, 4, 41], [0, 3, 4], [0, 3, 4, 71], [2], [2]]) [2] (nthLL [[], [], [], [], [], [], [], [], [], [], [], [0, 0, 2, 7, 15, 31, 31, 127, 255, 31, 31, 1567, 3615, 8191, 16383, 32767, 65535, 65535, 196607, 524287, 1048575, 2097151, 2097151, 8388607, 16777215, 33554431, 67108863, 134217727]])
set_option maxRecDepth 10000
theorem pads_1 (b : List UInt8) : paddingS (padS b) b.length = true := by
  have hp : padN b.length = (8 - b.length % 8) % 8 := rfl
  refine paddingS_ok ?_ ?_ ?_ ?_
  · simp; omega
  · simp; omega
  · simp; omega
  · intro i hi
    rw [padS, List.getD_eq_getElem?_getD, List.getElem?_append_right (by omega), List.getElem?_replicate]
    split <;> rfl
theorem pads_2 (b : List UInt8) : paddingS (padS b ++ [0]) b.length = false := by
  have hp : padN b.length = (8 - b.length % 8) % 8 := rfl
  exact paddingS_no (by simp; omega)
theorem pads_3 (b : List UInt8) (h : ¬ padN b.length = 0) : paddingS ((padS b).take (b.length + padN b.length - 1) ++ [1]) b.length = false := by
  have hl : ((padS b).take (b.length + padN b.length - 1)).length = b.length + padN b.length - 1 := by simp
  refine paddingS_bad (j := padN b.length - 1) (by omega) (by simp; omega) ?_
  rw [List.getD_eq_getElem?_getD, List.getElem?_append_right (by omega), show ((b.length : Int) + ((padN b.length - 1 : Nat) : Int)).toNat - ((padS b).take (b.length + padN b.length - 1)).length = 0 by omega]
  decide
theorem pads_in {b : List UInt8} {i : Nat} (h : i < b.length) : (padS b).getD i 0 = b.getD i 0 := by
  rw [padS, List.getD_eq_getElem?_getD, List.getD_eq_getElem?_getD, List.getElem?_append_left h]
theorem pads_out {b : List UInt8} {i : Nat} (h : ¬ i < b.length) : (padS b).getD i 0 = 0 := by
  rw [padS, List.getD_eq_getElem?_getD, List.getElem?_append_right (by omega), List.getElem?_replicate]
  split <;> rfl

theorem c_FieldPads (b : List UInt8) : Fn Try.prog 6 [.o (.sl (b.map u8) b.length)] [] (.one (.c (.o (.b true)))) [] := by
  have hp : padN b.length = (8 - b.length % 8) % 8 := rfl
  have hp8 := padN_lt b.length
  refine Fn_intro (G := g6) (goodA rfl) (fn := Try.f6) rfl rfl rfl rfl rfl ?_
  by_cases hb : b.length > 300
  · (repeat' ((conv => whnf) <;>
           first
           | exact rfl
           | refine boolK_dec (fun _ => ?_) (fun _ => ?_) <;> try (exfalso; omega)
           | refine boolK_beq (fun _ => ?_) (fun _ => ?_) <;> try (exfalso; first | omega | contradiction)
           | refine boolK_bne (fun _ => ?_) (fun _ => ?_) <;> try (exfalso; first | omega | contradiction)
           | refine boolK_not ?_
           | refine boolK_and ?_
           | refine boolK_or ?_
           | refine boolK_true ?_
           | refine boolK_false ?_
           | refine boolK_intro (fun _ => ?_) (fun _ => ?_) <;> try (exfalso; simp_all; done)
           | refine wrapK_i64 (by omega) ?_
           | refine wrapK_u8 (by omega) ?_
           | refine convK_i64 (by omega) ?_
           | refine convK_byte ?_
           | refine convK_u64 (by omega) ?_
           | refine convK_u16 (by omega) ?_
           | refine convK_u32 (by omega) ?_
           | refine wrapK_byte ?_
           | refine wrapK_u64 (by omega) ?_
           | refine wrapK_u32 (by omega) ?_
           | refine wrapK_u16 (by omega) ?_
           | with_reducible refine natK_lit ?_
           | refine natK_of rfl ?_
           | refine natK_any ?_
           | refine quoK_i64 (by omega) ?_
           | refine quoK_u8 (by omega) ?_
           | refine quoK_u16 (by omega) ?_
           | refine remK_pos (by omega) ?_
           | refine headI_cons ?_
           | refine headS_cons ?_
           | refine headB_cons ?_
           | refine headV_cons ?_
           | refine headX_cons ?_
           | refine headI_u8 (by first | omega | (simp; omega)) (fun _ => ?_)
           | refine headI_ints (by first | omega | (simp; omega)) ?_
           | refine bytesK_map ?_
           | refine catK_nil ?_
           | refine catK_nil' ?_
           | refine catK_u8 ?_
           | refine catK_one ?_
           | refine catK_lit (by omega) ?_
           | refine catK_ints ?_
           | refine catK_int1 ?_
           | refine packK_u8 ?_
           | refine packK_0 ?_
           | refine packK_1 (by omega) ?_
           | refine packK_2 (by omega) (by omega) ?_
           | refine packK_3 (by omega) (by omega) (by omega) ?_
           | refine packK_4 (by omega) (by omega) (by omega) (by omega) ?_
           | refine packK_any ?_
           | refine shrK_8 0 (by omega) rfl (by omega) ?_
           | refine shrK_8 1 (by omega) rfl (by omega) ?_
           | refine shrK_8 2 (by omega) rfl (by omega) ?_
           | refine shrK_8 3 (by omega) rfl (by omega) ?_
           | refine shlK_8 (by omega) (by omega) ?_
           | refine bitK_or8 (by omega) (by omega) ?_
           | refine nilK_no (by omega) ?_
           | refine takeC_u8 ?_
           | refine dropC_u8 ?_
           | refine dropC_zero ?_
           | refine takeC_any ?_
           | refine dropC_any ?_
           | refine callK_intro (c_awake5) ?_
           | refine catK_any ?_
           | refine eitherK_l ?_
           | refine nlK_sl ?_
           | refine sideK_intro (by first | omega | rfl | exact Nat.le_of_ble_eq_true rfl | (refine ⟨?_, ?_⟩ <;> first | omega | (simp; done) | (simp; omega)) | (simp; done) | (simp; omega)) ?_
           | refine drawK_intro (by kernel_rfl) (by kernel_rfl) ?_)) <;> (try (conv => whnf))
  · have c1 := c_Padding (padS b) rfl (by simp; omega) b.length (by omega)
    rw [pads_1] at c1
    have c2 := c_Padding (padS b ++ [0]) (m := (padS b).length + 1) (by simp) (by simp; omega) b.length (by omega)
    rw [pads_2] at c2
    have hl := padS_len b
    have c3 : ¬ padN b.length = 0 → Fn Try.prog 24 [.o (.sl (((padS b).take (b.length + padN b.length - 1) ++ [1]).map u8) (b.length + padN b.length - 1 + 1)), .o (.i .i64 b.length)] [] (.one (.c (.o (.b false)))) [] := fun h => by
      have c := c_Padding ((padS b).take (b.length + padN b.length - 1) ++ [1]) (m := b.length + padN b.length - 1 + 1) (by simp) (by simp; omega) b.length (by omega)
      rw [pads_3 b h] at c
      exact c
    (repeat' ((conv => whnf) <;>
           first
           | exact rfl
           | refine boolK_dec (fun _ => ?_) (fun _ => ?_) <;> try (exfalso; omega)
           | refine boolK_beq (fun _ => ?_) (fun _ => ?_) <;> try (exfalso; first | omega | contradiction)
           | refine boolK_bne (fun _ => ?_) (fun _ => ?_) <;> try (exfalso; first | omega | contradiction)
           | refine boolK_not ?_
           | refine boolK_and ?_
           | refine boolK_or ?_
           | refine boolK_true ?_
           | refine boolK_false ?_
           | refine boolK_intro (fun _ => ?_) (fun _ => ?_) <;> try (exfalso; simp_all; done)
           | refine wrapK_i64 (by omega) ?_
           | refine wrapK_u8 (by omega) ?_
           | refine convK_i64 (by omega) ?_
           | refine convK_byte ?_
           | refine convK_u64 (by omega) ?_
           | refine convK_u16 (by omega) ?_
           | refine convK_u32 (by omega) ?_
           | refine wrapK_byte ?_
           | refine wrapK_u64 (by omega) ?_
           | refine wrapK_u32 (by omega) ?_
           | refine wrapK_u16 (by omega) ?_
           | with_reducible refine natK_lit ?_
           | refine natK_of rfl ?_
           | refine natK_any ?_
           | refine quoK_i64 (by omega) ?_
           | refine quoK_u8 (by omega) ?_
           | refine quoK_u16 (by omega) ?_
           | refine remK_pos (by omega) ?_
           | refine headI_cons ?_
           | refine headS_cons ?_
           | refine headB_cons ?_
           | refine headV_cons ?_
           | refine headX_cons ?_
           | refine headI_u8 (by first | omega | (simp; omega)) (fun _ => ?_)
           | refine headI_ints (by first | omega | (simp; omega)) ?_
           | refine bytesK_map ?_
           | refine catK_nil ?_
           | refine catK_nil' ?_
           | refine catK_u8 ?_
           | refine catK_one ?_
           | refine catK_lit (by omega) ?_
           | refine catK_ints ?_
           | refine catK_int1 ?_
           | refine packK_u8 ?_
           | refine packK_0 ?_
           | refine packK_1 (by omega) ?_
           | refine packK_2 (by omega) (by omega) ?_
           | refine packK_3 (by omega) (by omega) (by omega) ?_
           | refine packK_4 (by omega) (by omega) (by omega) (by omega) ?_
           | refine packK_any ?_
           | refine shrK_8 0 (by omega) rfl (by omega) ?_
           | refine shrK_8 1 (by omega) rfl (by omega) ?_
           | refine shrK_8 2 (by omega) rfl (by omega) ?_
           | refine shrK_8 3 (by omega) rfl (by omega) ?_
           | refine shlK_8 (by omega) (by omega) ?_
           | refine bitK_or8 (by omega) (by omega) ?_
           | refine nilK_no (by omega) ?_
           | refine takeC_u8 ?_
           | refine dropC_u8 ?_
           | refine dropC_zero ?_
           | refine takeC_any ?_
           | refine dropC_any ?_
           | refine callK_intro (c_awake5) ?_
           | refine callK_intro (c_Pad _ rfl (by omega)) ?_
           | refine callK_intro (c1) ?_
           | refine catK_any ?_
           | refine eitherK_l ?_
           | refine nlK_sl ?_
           | refine sideK_intro (by first | omega | rfl | exact Nat.le_of_ble_eq_true rfl | (refine ⟨?_, ?_⟩ <;> first | omega | (simp; done) | (simp; omega)) | (simp; done) | (simp; omega)) ?_
           | refine drawK_intro (by kernel_rfl) (by kernel_rfl) ?_)) <;> (try (conv => whnf))
    refine loopK_inv (G := g6) (fun n st => ∃ (j : Nat), n + j = (padS b).length ∧
      st = ⟨[(0, .c (.o (.sl (b.map u8) b.length))), (3, .c (.o (.sl ((padS b).map u8) (padS b).length))), (4, .c (.o (.i .i64 (j : Int))))], []⟩) (n := (padS b).length) ⟨0, by omega, rfl⟩ ?_
    rintro n st ⟨j, hj, rfl⟩
    have e : (j < b.length → ((padS b).getD j 0).toNat = (b.getD j 0).toNat) ∧ (¬ j < b.length → ((padS b).getD j 0).toNat = 0) := ⟨fun h => by rw [pads_in h], fun h => by rw [pads_out h]; rfl⟩
    (repeat' ((conv => whnf) <;>
           first
           | exact rfl
           | refine boolK_dec (fun _ => ?_) (fun _ => ?_) <;> try (exfalso; omega)
           | refine boolK_beq (fun _ => ?_) (fun _ => ?_) <;> try (exfalso; first | omega | contradiction)
           | refine boolK_bne (fun _ => ?_) (fun _ => ?_) <;> try (exfalso; first | omega | contradiction)
           | refine boolK_not ?_
           | refine boolK_and ?_
           | refine boolK_or ?_
           | refine boolK_true ?_
           | refine boolK_false ?_
           | refine boolK_intro (fun _ => ?_) (fun _ => ?_) <;> try (exfalso; simp_all; done)
           | refine wrapK_i64 (by omega) ?_
           | refine wrapK_u8 (by omega) ?_
           | refine convK_i64 (by omega) ?_
           | refine convK_byte ?_
           | refine convK_u64 (by omega) ?_
           | refine convK_u16 (by omega) ?_
           | refine convK_u32 (by omega) ?_
           | refine wrapK_byte ?_
           | refine wrapK_u64 (by omega) ?_
           | refine wrapK_u32 (by omega) ?_
           | refine wrapK_u16 (by omega) ?_
           | with_reducible refine natK_lit ?_
           | refine natK_of rfl ?_
           | refine natK_any ?_
           | refine quoK_i64 (by omega) ?_
           | refine quoK_u8 (by omega) ?_
           | refine quoK_u16 (by omega) ?_
           | refine remK_pos (by omega) ?_
           | refine headI_cons ?_
           | refine headS_cons ?_
           | refine headB_cons ?_
           | refine headV_cons ?_
           | refine headX_cons ?_
           | refine headI_u8 (by first | omega | (simp; omega)) (fun _ => ?_)
           | refine headI_ints (by first | omega | (simp; omega)) ?_
           | refine bytesK_map ?_
           | refine catK_nil ?_
           | refine catK_nil' ?_
           | refine catK_u8 ?_
           | refine catK_one ?_
           | refine catK_lit (by omega) ?_
           | refine catK_ints ?_
           | refine catK_int1 ?_
           | refine packK_u8 ?_
           | refine packK_0 ?_
           | refine packK_1 (by omega) ?_
           | refine packK_2 (by omega) (by omega) ?_
           | refine packK_3 (by omega) (by omega) (by omega) ?_
           | refine packK_4 (by omega) (by omega) (by omega) (by omega) ?_
           | refine packK_any ?_
           | refine shrK_8 0 (by omega) rfl (by omega) ?_
           | refine shrK_8 1 (by omega) rfl (by omega) ?_
           | refine shrK_8 2 (by omega) rfl (by omega) ?_
           | refine shrK_8 3 (by omega) rfl (by omega) ?_
           | refine shlK_8 (by omega) (by omega) ?_
           | refine bitK_or8 (by omega) (by omega) ?_
           | refine nilK_no (by omega) ?_
           | refine takeC_u8 ?_
           | refine dropC_u8 ?_
           | refine dropC_zero ?_
           | refine takeC_any ?_
           | refine dropC_any ?_
           | exact ⟨n - 1, by omega, j + 1, by omega, rfl⟩
           | refine callK_at c2 (by rw [Nat.zero_add]; rfl) ?_
           | refine callK_at (c3 (by omega)) (by rw [show (((padS b).length : Int) - 1).toNat = b.length + padN b.length - 1 by omega, Nat.zero_add, Nat.sub_zero]; rfl) ?_
           | refine catK_any ?_
           | refine eitherK_l ?_
           | refine nlK_sl ?_
           | refine sideK_intro (by first | omega | rfl | exact Nat.le_of_ble_eq_true rfl | (refine ⟨?_, ?_⟩ <;> first | omega | (simp; done) | (simp; omega)) | (simp; done) | (simp; omega)) ?_
           | refine drawK_intro (by kernel_rfl) (by kernel_rfl) ?_)) <;> (try (conv => whnf))
end Go.Sx
namespace Go.Proofs.Ytifacpjiieoalaa
open Go.ChangeShapes Go.WideShapes Go.ChangeAt Go.RowKit Go.Sx
namespace FieldPadsProof
theorem walk (W : World) (v0 : Value) (ls0 : List L)
    (t0 : Typ (tabF tab) 22 ls0)
    (r0 : RelC (fun _ => False) W noMu (argC (tabF tab 22).agg ls0) v0) :
    Calls Try.prog 6 #[v0] W fun e w' => e = .returned (.bool true) ∧ Below W.heap.size W w' := by
  obtain ⟨a0, rfl⟩ := typ_bytes t0 rfl rfl
  exact calls_of_fn Try.func6 rfl rfl (c_FieldPads a0) (relCs_cons r0 relCs_nil)

set_option maxRecDepth 100000 in
theorem lifted (os : Os) (started : os.Started) (H : Type) (enc : TypeId × Value → H) :
    ReturnsInHanded {} Try.checked os 6 .any (Rows.fieldPadsSpec.pre6 enc Try.prog Try.f6 Rows.fieldPadsRow.domain false) (Rows.fieldPadsSpec.post enc Try.prog Try.f6 false true false false) := by
  refine returnsInHanded_of_change (C := Try.checked) ownA started (by kernel_rfl) Try.func6
    (ChangeSpec.witness6 (enc := enc) (C := Try.checked) false ⟨#[], #[.slice none 0 0], []⟩ 8 (by kernel_rfl) (by kernel_rfl) (by kernel_rfl) (by kernel_rfl)) ?_
  intro W base args ds gs before hval0 hW hcnd _
  have hval : ∀ (j : Nat) t v, Try.f6.params[j]? = some t → args[j]? = some v → Value.okWide Try.prog W .any base t v := hval0
  have hW' := hW
  obtain ⟨p, q, hA0, hV, rfl, hfz, hnd⟩ := hW
  have hA : DataW.TrodAll enc Try.prog W 0 (fun _ => true) true Try.f6.params.toList args.toList ds p := hA0
  rw [Try.params6] at hA hval
  obtain ⟨v0, vs0, d0, ds0, p0, q0, hargs, rfl, rfl, h0, r0⟩ := trodAll_cons hA
  obtain ⟨rfl, rfl, rfl⟩ := trodAll_nil r0
  obtain rfl : args = #[v0] := by cases args; simp_all
  obtain ⟨rfl, rfl⟩ := trodVars_none hV
  obtain ⟨ls0, t0, c0⟩ := rel_arg tokA (n := 9) rfl h0 (hval 0 22 v0 rfl rfl)
  have lt0 : ∀ x ∈ p0, x.block < W.heap.size := by obtain ⟨m, hm⟩ := h0; exact DataW.trod_lt m _ _ _ hm
  clear hA0 hval0
  refine (walk W v0 ls0 t0 c0).mono fun e W' ⟨he, bel⟩ => ?_
  subst he
  exact ⟨_, rfl, _, _, _, [], _, [], hW', trodAll_mk1 (shut_bool Try.underlying4 _), (trodAll_cons_mk (Below.trod laidOutA (by kernel_rfl) (of_decide_eq_true (by kernel_rfl)) h0 bel lt0) trodAll_mk0), rfl, bel.frame _, fun h => by cases h⟩

theorem over : Rows.fieldPadsRow.holds Try.pinned (OpenSpec.ofChange Rows.fieldPadsSpec) :=
  OpenClaim.holds_of_wide 6 Try.f6 rfl rfl rfl rfl rfl rfl rfl ⟨rfl, rfl, rfl, rfl, rfl⟩ rfl rfl rfl rfl rfl (by kernel_rfl) Try.func6 (by kernel_rfl)
    (of_decide_eq_true (by kernel_rfl)) (by unfold Func.isWrapper; first | (rw [if_pos (by decide +kernel)]; kernel_rfl) | (rw [if_neg (by decide +kernel)]; exact ⟨rfl, rfl⟩))
    (fun os started H enc _ => lifted os started H enc)
end FieldPadsProof

theorem fieldPads_proved : Rows.FieldPadsSaid := FieldPadsProof.over
#print axioms fieldPads_proved
end Go.Proofs.Ytifacpjiieoalaa

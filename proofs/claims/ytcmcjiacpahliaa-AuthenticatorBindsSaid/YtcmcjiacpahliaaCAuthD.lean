/-
  Contracts of the functions that decode authenticators, and of the data's authenticators.
-/
import Derived.Test.YtcmcjiacpahliaaCAuth
set_option linter.all false
namespace Go.Sx
open Go.Proofs Go.RowKit
noncomputable def g88 : Par := par 60 (nthLL [[0, 1, 4], [0, 1, 4, 6], [0, 1, 4, 6, 7], [0, 1, 4, 6, 7], [0, 1, 4, 6, 7], [0, 1, 4, 6, 7], [0, 1, 4, 6], [0, 4, 6, 8, 9], [4, 6, 57], [4, 5], [4, 5]]) [4, 5] (nthLL [])
noncomputable def g90 : Par := par 51 (nthLL [[0, 1, 4], [0, 1, 4, 6], [0, 1, 4, 6], [0, 1, 4, 6, 7], [0, 1, 4, 6, 7], [0, 1, 4, 6, 7], [0, 1, 4, 6, 7], [0, 4, 6, 7, 8, 9], [4, 7, 48], [4, 5], [4, 5]]) [4, 5] (nthLL [])
noncomputable def g36 : Par := par 41 (nthLL [[0, 2], [2, 3], [2, 3, 4], [2, 3, 4], [2, 3, 4, 29], [2, 4], [2]]) [2] (nthLL [])
noncomputable def g34 : Par := par 28 (nthLL [[], [1, 2], [0]]) [0] (nthLL [])
noncomputable def g35 : Par := par 22 (nthLL [[1], [2]]) [2] (nthLL [])
set_option maxRecDepth 10000
set_option maxHeartbeats 2000000
theorem authD_yes {l : Bool} {b : List UInt8} (h2 : (authN l (aP b).1.1 (aP b).1.2.1 (aP b).1.2.2 (aC l b).1 (aT l b).1 (aM l b).1).2 = 0) (h3 : (authN l (aP b).1.1 (aP b).1.2.1 (aP b).1.2.2 (aC l b).1 (aT l b).1 (aM l b).1).1 = b) : authD l b = (((aP b).1.1, (aP b).1.2.1, (aP b).1.2.2, (aC l b).1, (aT l b).1, (aM l b).1), 0) := by rw [authD, if_pos ⟨h2, h3⟩]
theorem authD_no {l : Bool} {b : List UInt8} (h : ¬ (authN l (aP b).1.1 (aP b).1.2.1 (aP b).1.2.2 (aC l b).1 (aT l b).1 (aM l b).1).2 = 0 ∨ ¬ (authN l (aP b).1.1 (aP b).1.2.1 (aP b).1.2.2 (aC l b).1 (aT l b).1 (aM l b).1).1 = b) : authD l b = (([], [], [], 0, 0, 0), 100) := by
  rw [authD, if_neg (fun hh => by rcases h with h | h; exact h hh.1; exact h hh.2)]
theorem c_DecodeA (b : List UInt8) {m : Nat} (hm : m = b.length) (hb : b.length ≤ 100000) (l : Bool) : Fn Try.prog 88 [.o (.sl (b.map u8) m), .o (.b l)] [] (.tup [.c (.a [.s (authD l b).1.1, .s (authD l b).1.2.1, .s (authD l b).1.2.2.1, .i .i64 (authD l b).1.2.2.2.1, .i .i64 (authD l b).1.2.2.2.2.1, .i .i64 (authD l b).1.2.2.2.2.2]), .c (.o (.i .i64 (authD l b).2))]) [] := by
  have cP := c_Principal b hm (by omega) 1 (by omega)
  have nP := prin_next b 1
  have lP := prin_len b 1
  rw [show prinS b 1 = aP b from rfl] at cP nP lP
  have cC := c_Number b hm (by omega) (aP b).2.1 (by omega) l
  have nC := get_next l 4 b (aP b).2.1
  rw [show getS l 4 b (aP b).2.1 = aC l b from rfl] at cC nC
  have cT := c_Octet b hm (by omega) (aC l b).2.1 (by omega)
  have nT := get_next false 1 b (aC l b).2.1
  rw [show getS false 1 b (aC l b).2.1 = aT l b from rfl] at cT nT
  have cM := c_Number b hm (by omega) (aT l b).2.1 (by omega) l
  rw [show getS l 4 b (aT l b).2.1 = aM l b from rfl] at cM
  refine Fn_intro (G := g88) (goodA rfl) (fn := Try.f88) rfl rfl rfl rfl rfl ?_
  (repeat' ((conv => whnf) <;>
           first
           | exact rfl
           | with_reducible refine boolK_dec (fun _ => ?_) (fun _ => ?_) <;> try (exfalso; omega)
           | refine boolK_beq (fun _ => ?_) (fun _ => ?_) <;> try (exfalso; first | omega | contradiction)
           | refine boolK_bne (fun _ => ?_) (fun _ => ?_) <;> try (exfalso; first | omega | contradiction)
           | with_reducible refine boolK_not ?_
           | with_reducible refine boolK_and ?_
           | with_reducible refine boolK_or ?_
           | with_reducible refine boolK_true ?_
           | with_reducible refine boolK_false ?_
           | refine boolK_intro (fun _ => ?_) (fun _ => ?_) <;> try (exfalso; simp_all; done)
           | refine wrapK_i64 (by omega) ?_
           | refine wrapK_u8 (by omega) ?_
           | refine convK_i64 (by omega) ?_
           | refine convK_byte ?_
           | refine convK_u64 (by omega) ?_
           | refine convK_u16 (by omega) ?_
           | refine convK_u32 (by omega) ?_
           | refine wrapK_byte ?_
           | refine wrapK_u64 (by omega) ?_
           | refine wrapK_u32 (by omega) ?_
           | refine wrapK_u16 (by omega) ?_
           | with_reducible refine natK_lit ?_
           | refine natK_of rfl ?_
           | refine natK_any ?_
           | refine quoK_i64 (by omega) ?_
           | refine quoK_u8 (by omega) ?_
           | refine quoK_u16 (by omega) ?_
           | refine remK_pos (by omega) ?_
           | refine headI_cons ?_
           | refine headS_cons ?_
           | refine headB_cons ?_
           | refine headV_cons ?_
           | refine headX_cons ?_
           | refine headI_u8 (by first | omega | (simp; omega)) (fun _ => ?_)
           | refine headI_ints (by first | omega | (simp; omega)) ?_
           | refine bytesK_map ?_
           | refine catK_nil ?_
           | refine catK_nil' ?_
           | refine catK_u8 ?_
           | refine catK_one ?_
           | refine catK_lit (by omega) ?_
           | refine catK_ints ?_
           | refine catK_int1 ?_
           | refine packK_u8 ?_
           | refine packK_0 ?_
           | refine packK_1 (by omega) ?_
           | refine packK_2 (by omega) (by omega) ?_
           | refine packK_3 (by omega) (by omega) (by omega) ?_
           | refine packK_4 (by omega) (by omega) (by omega) (by omega) ?_
           | refine packK_any ?_
           | refine shrK_8 0 (by omega) rfl (by omega) ?_
           | refine shrK_8 1 (by omega) rfl (by omega) ?_
           | refine shrK_8 2 (by omega) rfl (by omega) ?_
           | refine shrK_8 3 (by omega) rfl (by omega) ?_
           | refine shlK_8 (by omega) (by omega) ?_
           | refine bitK_or8 (by omega) (by omega) ?_
           | refine nilK_no (by omega) ?_
           | refine takeC_u8 ?_
           | refine dropC_u8 ?_
           | refine dropC_zero ?_
           | refine takeC_any ?_
           | refine dropC_any ?_
           | refine callK_intro (cP) ?_
           | refine callK_intro (cC) ?_
           | refine callK_intro (cT) ?_
           | refine callK_intro (cM) ?_
           | refine callK_intro (c_EncodeA _ _ _ _ _ _ _ (by omega) (by omega) (by omega)) ?_
           | refine callK_intro (c_Equal _ _ rfl hm) ?_
           | refine catK_any ?_
           | refine eitherK_l ?_
           | refine nlK_sl ?_
           | refine sideK_intro (by first | omega | rfl | exact Nat.le_of_ble_eq_true rfl | (refine ⟨?_, ?_⟩ <;> first | omega | (simp; done) | (simp; omega)) | (simp; done) | (simp; omega) | first | (rw [authD_no (.inl (by assumption))]; done) | (rw [authD_no (.inl (by assumption))]; rfl) | (rw [authD_no (.inl (by assumption))]; exact ⟨rfl, rfl⟩) | (rw [authD_no (.inl (by assumption))]; exact ⟨rfl, rfl, rfl⟩) | first | (rw [authD_no (.inr (by assumption))]; done) | (rw [authD_no (.inr (by assumption))]; rfl) | (rw [authD_no (.inr (by assumption))]; exact ⟨rfl, rfl⟩) | (rw [authD_no (.inr (by assumption))]; exact ⟨rfl, rfl, rfl⟩) | first | (rw [authD_yes (by assumption) (by assumption)]; done) | (rw [authD_yes (by assumption) (by assumption)]; rfl) | (rw [authD_yes (by assumption) (by assumption)]; exact ⟨rfl, rfl⟩) | (rw [authD_yes (by assumption) (by assumption)]; exact ⟨rfl, rfl, rfl⟩)) ?_
           | refine drawK_intro (by kernel_rfl) (by kernel_rfl) ?_)) <;> (try (conv => whnf))
theorem c_rDecodeA (b : List UInt8) {m : Nat} (hm : m = b.length) (hb : b.length ≤ 100000) (l : Bool) : Fn Try.prog 90 [.o (.sl (b.map u8) m), .o (.b l)] [] (.tup [.c (.a [.s (authD l b).1.1, .s (authD l b).1.2.1, .s (authD l b).1.2.2.1, .i .i64 (authD l b).1.2.2.2.1, .i .i64 (authD l b).1.2.2.2.2.1, .i .i64 (authD l b).1.2.2.2.2.2]), .c (.o (.i .i64 (authD l b).2))]) [] := by
  obtain ⟨q0, q1, q2, q3, q4, q5⟩ := rA_bounds l b
  have t0 := text_len b (rA0 b)
  have t1 := text_len b (rA1 b)
  have t2 := text_len b (rA2 b)
  have r0 : Fn Try.prog 129 [.o (.p 1000 0)] [(1000, .st [.sl (b.map u8) m, .i .i64 0, .b l, .b false])] (.one (.c (.o (.i .i64 (getS false 1 b 0).1)))) [(1000, .st [.sl (b.map u8) m, .i .i64 (rA0 b), .b l, .b (rB0 b)])] := c_rdOctet b hm (by omega) 0 (by omega) l false
  have r1 : Fn Try.prog 155 [.o (.p 1000 0)] [(1000, .st [.sl (b.map u8) m, .i .i64 (rA0 b), .b l, .b (rB0 b)])] (.one (.c (.a [.s (textS b (rA0 b)).1, .s (textS b (rA1 b)).1, .s (textS b (rA2 b)).1]))) [(1000, .st [.sl (b.map u8) m, .i .i64 (rA3 b), .b l, .b (rB3 b)])] := c_rdPrincipal b hm (by omega) (rA0 b) q0 l (rB0 b) (rA1 b) (rA2 b) rfl rfl
  have r2 : Fn Try.prog 128 [.o (.p 1000 0)] [(1000, .st [.sl (b.map u8) m, .i .i64 (rA3 b), .b l, .b (rB3 b)])] (.one (.c (.o (.i .i64 (getS l 4 b (rA3 b)).1)))) [(1000, .st [.sl (b.map u8) m, .i .i64 (rA4 l b), .b l, .b (rB4 l b)])] := c_rdNumber b hm (by omega) (rA3 b) (by omega) l (rB3 b)
  have r3 : Fn Try.prog 129 [.o (.p 1000 0)] [(1000, .st [.sl (b.map u8) m, .i .i64 (rA4 l b), .b l, .b (rB4 l b)])] (.one (.c (.o (.i .i64 (getS false 1 b (rA4 l b)).1)))) [(1000, .st [.sl (b.map u8) m, .i .i64 (rA5 l b), .b l, .b (rB5 l b)])] := c_rdOctet b hm (by omega) (rA4 l b) (by omega) l (rB4 l b)
  have r4 : Fn Try.prog 128 [.o (.p 1000 0)] [(1000, .st [.sl (b.map u8) m, .i .i64 (rA5 l b), .b l, .b (rB5 l b)])] (.one (.c (.o (.i .i64 (getS l 4 b (rA5 l b)).1)))) [(1000, .st [.sl (b.map u8) m, .i .i64 (rA6 l b), .b l, .b (rB6 l b)])] := c_rdNumber b hm (by omega) (rA5 l b) (by omega) l (rB5 l b)
  have cN := c_rEncodeA l (textS b (rA0 b)).1 (textS b (rA1 b)).1 (textS b (rA2 b)).1 (getS l 4 b (rA3 b)).1 (getS false 1 b (rA4 l b)).1 (getS l 4 b (rA5 l b)).1 (by omega) (by omega) (by omega)
  rw [show authN l (textS b (rA0 b)).1 (textS b (rA1 b)).1 (textS b (rA2 b)).1 (getS l 4 b (rA3 b)).1 (getS false 1 b (rA4 l b)).1 (getS l 4 b (rA5 l b)).1 = rAN l b from rfl] at cN
  refine Fn_intro (G := g90) (goodA rfl) (fn := Try.f90) rfl rfl rfl rfl rfl ?_
  (repeat' ((conv => whnf) <;>
           first
           | exact rfl
           | with_reducible refine boolK_dec (fun _ => ?_) (fun _ => ?_) <;> try (exfalso; omega)
           | refine boolK_beq (fun _ => ?_) (fun _ => ?_) <;> try (exfalso; first | omega | contradiction)
           | refine boolK_bne (fun _ => ?_) (fun _ => ?_) <;> try (exfalso; first | omega | contradiction)
           | with_reducible refine boolK_not ?_
           | with_reducible refine boolK_and ?_
           | with_reducible refine boolK_or ?_
           | with_reducible refine boolK_true ?_
           | with_reducible refine boolK_false ?_
           | refine boolK_intro (fun _ => ?_) (fun _ => ?_) <;> try (exfalso; simp_all; done)
           | refine wrapK_i64 (by omega) ?_
           | refine wrapK_u8 (by omega) ?_
           | refine convK_i64 (by omega) ?_
           | refine convK_byte ?_
           | refine convK_u64 (by omega) ?_
           | refine convK_u16 (by omega) ?_
           | refine convK_u32 (by omega) ?_
           | refine wrapK_byte ?_
           | refine wrapK_u64 (by omega) ?_
           | refine wrapK_u32 (by omega) ?_
           | refine wrapK_u16 (by omega) ?_
           | with_reducible refine natK_lit ?_
           | refine natK_of rfl ?_
           | refine natK_any ?_
           | refine quoK_i64 (by omega) ?_
           | refine quoK_u8 (by omega) ?_
           | refine quoK_u16 (by omega) ?_
           | refine remK_pos (by omega) ?_
           | refine headI_cons ?_
           | refine headS_cons ?_
           | refine headB_cons ?_
           | refine headV_cons ?_
           | refine headX_cons ?_
           | refine headI_u8 (by first | omega | (simp; omega)) (fun _ => ?_)
           | refine headI_ints (by first | omega | (simp; omega)) ?_
           | refine bytesK_map ?_
           | refine catK_nil ?_
           | refine catK_nil' ?_
           | refine catK_u8 ?_
           | refine catK_one ?_
           | refine catK_lit (by omega) ?_
           | refine catK_ints ?_
           | refine catK_int1 ?_
           | refine packK_u8 ?_
           | refine packK_0 ?_
           | refine packK_1 (by omega) ?_
           | refine packK_2 (by omega) (by omega) ?_
           | refine packK_3 (by omega) (by omega) (by omega) ?_
           | refine packK_4 (by omega) (by omega) (by omega) (by omega) ?_
           | refine packK_any ?_
           | refine shrK_8 0 (by omega) rfl (by omega) ?_
           | refine shrK_8 1 (by omega) rfl (by omega) ?_
           | refine shrK_8 2 (by omega) rfl (by omega) ?_
           | refine shrK_8 3 (by omega) rfl (by omega) ?_
           | refine shlK_8 (by omega) (by omega) ?_
           | refine bitK_or8 (by omega) (by omega) ?_
           | refine nilK_no (by omega) ?_
           | refine takeC_u8 ?_
           | refine dropC_u8 ?_
           | refine dropC_zero ?_
           | refine takeC_any ?_
           | refine dropC_any ?_
           | refine callK_intro (r0) ?_
           | refine callK_intro (r1) ?_
           | refine callK_intro (r2) ?_
           | refine callK_intro (r3) ?_
           | refine callK_intro (r4) ?_
           | refine callK_intro (cN) ?_
           | refine catK_any ?_
           | refine eitherK_l ?_
           | refine nlK_sl ?_
           | refine sideK_intro (by first | omega | rfl | exact Nat.le_of_ble_eq_true rfl | (refine ⟨?_, ?_⟩ <;> first | omega | (simp; done) | (simp; omega)) | (simp; done) | (simp; omega) | first | (rw [authD_bad (.inl (by assumption))]; done) | (rw [authD_bad (.inl (by assumption))]; rfl) | (rw [authD_bad (.inl (by assumption))]; exact ⟨rfl, rfl⟩) | (rw [authD_bad (.inl (by assumption))]; exact ⟨rfl, rfl, rfl⟩) | first | (rw [authD_bad (.inr (.inl (by assumption)))]; done) | (rw [authD_bad (.inr (.inl (by assumption)))]; rfl) | (rw [authD_bad (.inr (.inl (by assumption)))]; exact ⟨rfl, rfl⟩) | (rw [authD_bad (.inr (.inl (by assumption)))]; exact ⟨rfl, rfl, rfl⟩) | first | (rw [authD_bad (.inr (.inr (by assumption)))]; done) | (rw [authD_bad (.inr (.inr (by assumption)))]; rfl) | (rw [authD_bad (.inr (.inr (by assumption)))]; exact ⟨rfl, rfl⟩) | (rw [authD_bad (.inr (.inr (by assumption)))]; exact ⟨rfl, rfl, rfl⟩) | first | (rw [authD_ref (by assumption) (by assumption) (by assumption)]; done) | (rw [authD_ref (by assumption) (by assumption) (by assumption)]; rfl) | (rw [authD_ref (by assumption) (by assumption) (by assumption)]; exact ⟨rfl, rfl⟩) | (rw [authD_ref (by assumption) (by assumption) (by assumption)]; exact ⟨rfl, rfl, rfl⟩)) ?_
           | refine drawK_intro (by kernel_rfl) (by kernel_rfl) ?_)) <;> (try (conv => whnf))
/-- the data's authenticators have no error -/
theorem c_Auth (q : List UInt8) {m : Nat} (hm : m = q.length) (hq : q.length ≤ 900000) : ∃ x y z ck tk tm, authC x y z ck tk tm = 0 ∧ Fn Try.prog 36 [.o (.sl (q.map u8) m)] [] (.one (.c (.a [.s x, .s y, .s z, .i .i64 ck, .i .i64 tk, .i .i64 tm]))) [] := by
  have n0 := nx_bounds q 0 (n := 9) (by omega)
  have n1 := nx_bounds q 1 (n := 200) (by omega)
  have n2 := nx_bounds q 2 (n := 256) (by omega)
  have n3 := nx_bounds q 3 (n := 256) (by omega)
  have n4 := nx_bounds q 4 (n := 256) (by omega)
  have n5 := nx_bounds q 5 (n := 256) (by omega)
  have n7 := nx_bounds q 7 (n := 3) (by omega)
  have n8 := nx_bounds q 8 (n := 2) (by omega)
  by_cases h8 : nx q 6 9 = 8
  · refine ⟨longN, longN, longN, 4294967295 - nx q 8 2, nx q 1 200, 4294967295 - nx q 7 3, authC_0 longest_valid.1 (by omega) (by omega) (by omega), ?_⟩
    refine Fn_intro (G := g36) (goodA rfl) (fn := Try.f36) rfl rfl rfl rfl rfl ?_
    (repeat' ((conv => whnf) <;>
           first
           | exact rfl
           | with_reducible refine boolK_dec (fun _ => ?_) (fun _ => ?_) <;> try (exfalso; omega)
           | refine boolK_beq (fun _ => ?_) (fun _ => ?_) <;> try (exfalso; first | omega | contradiction)
           | refine boolK_bne (fun _ => ?_) (fun _ => ?_) <;> try (exfalso; first | omega | contradiction)
           | with_reducible refine boolK_not ?_
           | with_reducible refine boolK_and ?_
           | with_reducible refine boolK_or ?_
           | with_reducible refine boolK_true ?_
           | with_reducible refine boolK_false ?_
           | refine boolK_intro (fun _ => ?_) (fun _ => ?_) <;> try (exfalso; simp_all; done)
           | refine wrapK_i64 (by omega) ?_
           | refine wrapK_u8 (by omega) ?_
           | refine convK_i64 (by omega) ?_
           | refine convK_byte ?_
           | refine convK_u64 (by omega) ?_
           | refine convK_u16 (by omega) ?_
           | refine convK_u32 (by omega) ?_
           | refine wrapK_byte ?_
           | refine wrapK_u64 (by omega) ?_
           | refine wrapK_u32 (by omega) ?_
           | refine wrapK_u16 (by omega) ?_
           | with_reducible refine natK_lit ?_
           | refine natK_of rfl ?_
           | refine natK_any ?_
           | refine quoK_i64 (by omega) ?_
           | refine quoK_u8 (by omega) ?_
           | refine quoK_u16 (by omega) ?_
           | refine remK_pos (by omega) ?_
           | refine headI_cons ?_
           | refine headS_cons ?_
           | refine headB_cons ?_
           | refine headV_cons ?_
           | refine headX_cons ?_
           | refine headI_u8 (by first | omega | (simp; omega)) (fun _ => ?_)
           | refine headI_ints (by first | omega | (simp; omega)) ?_
           | refine bytesK_map ?_
           | refine catK_nil ?_
           | refine catK_nil' ?_
           | refine catK_u8 ?_
           | refine catK_one ?_
           | refine catK_lit (by omega) ?_
           | refine catK_ints ?_
           | refine catK_int1 ?_
           | refine packK_u8 ?_
           | refine packK_0 ?_
           | refine packK_1 (by omega) ?_
           | refine packK_2 (by omega) (by omega) ?_
           | refine packK_3 (by omega) (by omega) (by omega) ?_
           | refine packK_4 (by omega) (by omega) (by omega) (by omega) ?_
           | refine packK_any ?_
           | refine shrK_8 0 (by omega) rfl (by omega) ?_
           | refine shrK_8 1 (by omega) rfl (by omega) ?_
           | refine shrK_8 2 (by omega) rfl (by omega) ?_
           | refine shrK_8 3 (by omega) rfl (by omega) ?_
           | refine shlK_8 (by omega) (by omega) ?_
           | refine bitK_or8 (by omega) (by omega) ?_
           | refine nilK_no (by omega) ?_
           | refine takeC_u8 ?_
           | refine dropC_u8 ?_
           | refine dropC_zero ?_
           | refine takeC_any ?_
           | refine dropC_any ?_
           | refine callK_intro (c_nx0 q hm _ (by omega) hq) ?_
           | refine callK_intro (c_nx q hm 1 2 rfl _ (by omega) hq) ?_
           | refine callK_intro (c_nx q hm 2 3 rfl _ (by omega) hq) ?_
           | refine callK_intro (c_nx q hm 3 4 rfl _ (by omega) hq) ?_
           | refine callK_intro (c_nx q hm 4 5 rfl _ (by omega) hq) ?_
           | refine callK_intro (c_nx q hm 5 6 rfl _ (by omega) hq) ?_
           | refine callK_intro (c_nx q hm 6 7 rfl _ (by omega) hq) ?_
           | refine callK_intro (c_nx q hm 7 8 rfl _ (by omega) hq) ?_
           | refine callK_intro (c_nx q hm 8 9 rfl _ (by omega) hq) ?_
           | refine callK_intro (c_User _ (by omega)) ?_
           | refine callK_intro (c_Longest0) ?_
           | refine catK_any ?_
           | refine eitherK_l ?_
           | refine nlK_sl ?_
           | refine sideK_intro (by first | omega | rfl | exact Nat.le_of_ble_eq_true rfl | (refine ⟨?_, ?_⟩ <;> first | omega | (simp; done) | (simp; omega)) | (simp; done) | (simp; omega)) ?_
           | refine drawK_intro (by kernel_rfl) (by kernel_rfl) ?_)) <;> (try (conv => whnf))
  · refine ⟨userN (nx q 0 9), [], realmN (nx q 0 9 / 3), nx q 2 256 * 70000 + nx q 3 256, nx q 1 200, nx q 4 256 * 150 + nx q 5 256, authC_0 (user_valid _ _) (by omega) (by omega) (by omega), ?_⟩
    refine Fn_intro (G := g36) (goodA rfl) (fn := Try.f36) rfl rfl rfl rfl rfl ?_
    (repeat' ((conv => whnf) <;>
           first
           | exact rfl
           | with_reducible refine boolK_dec (fun _ => ?_) (fun _ => ?_) <;> try (exfalso; omega)
           | refine boolK_beq (fun _ => ?_) (fun _ => ?_) <;> try (exfalso; first | omega | contradiction)
           | refine boolK_bne (fun _ => ?_) (fun _ => ?_) <;> try (exfalso; first | omega | contradiction)
           | with_reducible refine boolK_not ?_
           | with_reducible refine boolK_and ?_
           | with_reducible refine boolK_or ?_
           | with_reducible refine boolK_true ?_
           | with_reducible refine boolK_false ?_
           | refine boolK_intro (fun _ => ?_) (fun _ => ?_) <;> try (exfalso; simp_all; done)
           | refine wrapK_i64 (by omega) ?_
           | refine wrapK_u8 (by omega) ?_
           | refine convK_i64 (by omega) ?_
           | refine convK_byte ?_
           | refine convK_u64 (by omega) ?_
           | refine convK_u16 (by omega) ?_
           | refine convK_u32 (by omega) ?_
           | refine wrapK_byte ?_
           | refine wrapK_u64 (by omega) ?_
           | refine wrapK_u32 (by omega) ?_
           | refine wrapK_u16 (by omega) ?_
           | with_reducible refine natK_lit ?_
           | refine natK_of rfl ?_
           | refine natK_any ?_
           | refine quoK_i64 (by omega) ?_
           | refine quoK_u8 (by omega) ?_
           | refine quoK_u16 (by omega) ?_
           | refine remK_pos (by omega) ?_
           | refine headI_cons ?_
           | refine headS_cons ?_
           | refine headB_cons ?_
           | refine headV_cons ?_
           | refine headX_cons ?_
           | refine headI_u8 (by first | omega | (simp; omega)) (fun _ => ?_)
           | refine headI_ints (by first | omega | (simp; omega)) ?_
           | refine bytesK_map ?_
           | refine catK_nil ?_
           | refine catK_nil' ?_
           | refine catK_u8 ?_
           | refine catK_one ?_
           | refine catK_lit (by omega) ?_
           | refine catK_ints ?_
           | refine catK_int1 ?_
           | refine packK_u8 ?_
           | refine packK_0 ?_
           | refine packK_1 (by omega) ?_
           | refine packK_2 (by omega) (by omega) ?_
           | refine packK_3 (by omega) (by omega) (by omega) ?_
           | refine packK_4 (by omega) (by omega) (by omega) (by omega) ?_
           | refine packK_any ?_
           | refine shrK_8 0 (by omega) rfl (by omega) ?_
           | refine shrK_8 1 (by omega) rfl (by omega) ?_
           | refine shrK_8 2 (by omega) rfl (by omega) ?_
           | refine shrK_8 3 (by omega) rfl (by omega) ?_
           | refine shlK_8 (by omega) (by omega) ?_
           | refine bitK_or8 (by omega) (by omega) ?_
           | refine nilK_no (by omega) ?_
           | refine takeC_u8 ?_
           | refine dropC_u8 ?_
           | refine dropC_zero ?_
           | refine takeC_any ?_
           | refine dropC_any ?_
           | refine callK_intro (c_nx0 q hm _ (by omega) hq) ?_
           | refine callK_intro (c_nx q hm 1 2 rfl _ (by omega) hq) ?_
           | refine callK_intro (c_nx q hm 2 3 rfl _ (by omega) hq) ?_
           | refine callK_intro (c_nx q hm 3 4 rfl _ (by omega) hq) ?_
           | refine callK_intro (c_nx q hm 4 5 rfl _ (by omega) hq) ?_
           | refine callK_intro (c_nx q hm 5 6 rfl _ (by omega) hq) ?_
           | refine callK_intro (c_nx q hm 6 7 rfl _ (by omega) hq) ?_
           | refine callK_intro (c_User _ (by omega)) ?_
           | refine catK_any ?_
           | refine eitherK_l ?_
           | refine nlK_sl ?_
           | refine sideK_intro (by first | omega | rfl | exact Nat.le_of_ble_eq_true rfl | (refine ⟨?_, ?_⟩ <;> first | omega | (simp; done) | (simp; omega)) | (simp; done) | (simp; omega)) ?_
           | refine drawK_intro (by kernel_rfl) (by kernel_rfl) ?_)) <;> (try (conv => whnf))
theorem awk7_h1 : authN true [97] [98] [99] 0 0 1 = (([1, 97, 0, 98, 0, 99, 0, 0, 0, 0, 0, 0, 1, 0, 0, 0] : List UInt8), 0) := by decide +kernel
theorem c_awk7 : Fn Try.prog 82 [.a [.s [97], .s [98], .s [99], .i .i64 0, .i .i64 0, .i .i64 1], .o (.b true)] [] (.tup [.fr (([1, 97, 0, 98, 0, 99, 0, 0, 0, 0, 0, 0, 1, 0, 0, 0] : List UInt8).map u8) 16 1, .c (.o (.i .i64 0))]) [] := by
  have c := c_EncodeA true [97] [98] [99] 0 0 1 (by decide) (by decide) (by decide)
  rw [awk7_h1] at c
  exact c
theorem c_awake7 : Fn Try.prog 34 [] [] (.one (.c (.o (.b true)))) [] := by
  refine Fn_intro (G := g34) (goodA rfl) (fn := Try.f34) rfl rfl rfl rfl rfl ?_
  (repeat' ((conv => whnf) <;>
           first
           | exact rfl
           | with_reducible refine boolK_dec (fun _ => ?_) (fun _ => ?_) <;> try (exfalso; omega)
           | refine boolK_beq (fun _ => ?_) (fun _ => ?_) <;> try (exfalso; first | omega | contradiction)
           | refine boolK_bne (fun _ => ?_) (fun _ => ?_) <;> try (exfalso; first | omega | contradiction)
           | with_reducible refine boolK_not ?_
           | with_reducible refine boolK_and ?_
           | with_reducible refine boolK_or ?_
           | with_reducible refine boolK_true ?_
           | with_reducible refine boolK_false ?_
           | refine boolK_intro (fun _ => ?_) (fun _ => ?_) <;> try (exfalso; simp_all; done)
           | refine wrapK_i64 (by omega) ?_
           | refine wrapK_u8 (by omega) ?_
           | refine convK_i64 (by omega) ?_
           | refine convK_byte ?_
           | refine convK_u64 (by omega) ?_
           | refine convK_u16 (by omega) ?_
           | refine convK_u32 (by omega) ?_
           | refine wrapK_byte ?_
           | refine wrapK_u64 (by omega) ?_
           | refine wrapK_u32 (by omega) ?_
           | refine wrapK_u16 (by omega) ?_
           | with_reducible refine natK_lit ?_
           | refine natK_of rfl ?_
           | refine natK_any ?_
           | refine quoK_i64 (by omega) ?_
           | refine quoK_u8 (by omega) ?_
           | refine quoK_u16 (by omega) ?_
           | refine remK_pos (by omega) ?_
           | refine headI_cons ?_
           | refine headS_cons ?_
           | refine headB_cons ?_
           | refine headV_cons ?_
           | refine headX_cons ?_
           | refine headI_u8 (by first | omega | (simp; omega)) (fun _ => ?_)
           | refine headI_ints (by first | omega | (simp; omega)) ?_
           | refine bytesK_map ?_
           | refine catK_nil ?_
           | refine catK_nil' ?_
           | refine catK_u8 ?_
           | refine catK_one ?_
           | refine catK_lit (by omega) ?_
           | refine catK_ints ?_
           | refine catK_int1 ?_
           | refine packK_u8 ?_
           | refine packK_0 ?_
           | refine packK_1 (by omega) ?_
           | refine packK_2 (by omega) (by omega) ?_
           | refine packK_3 (by omega) (by omega) (by omega) ?_
           | refine packK_4 (by omega) (by omega) (by omega) (by omega) ?_
           | refine packK_any ?_
           | refine shrK_8 0 (by omega) rfl (by omega) ?_
           | refine shrK_8 1 (by omega) rfl (by omega) ?_
           | refine shrK_8 2 (by omega) rfl (by omega) ?_
           | refine shrK_8 3 (by omega) rfl (by omega) ?_
           | refine shlK_8 (by omega) (by omega) ?_
           | refine bitK_or8 (by omega) (by omega) ?_
           | refine nilK_no (by omega) ?_
           | refine takeC_u8 ?_
           | refine dropC_u8 ?_
           | refine dropC_zero ?_
           | refine takeC_any ?_
           | refine dropC_any ?_
           | refine callK_intro (c_awk7) ?_
           | refine catK_any ?_
           | refine eitherK_l ?_
           | refine nlK_sl ?_
           | refine sideK_intro (by first | omega | rfl | exact Nat.le_of_ble_eq_true rfl | (refine ⟨?_, ?_⟩ <;> first | omega | (simp; done) | (simp; omega)) | (simp; done) | (simp; omega)) ?_
           | refine drawK_intro (by kernel_rfl) (by kernel_rfl) ?_)) <;> (try (conv => whnf))
theorem c_long7 (x y z : List UInt8) (ck tk tm : Int) : Fn Try.prog 35 [.a [.s x, .s y, .s z, .i .i64 ck, .i .i64 tk, .i .i64 tm]] [] (.one (.c (.o (.b (decide (x.length > 100 ∨ y.length > 100 ∨ z.length > 100)))))) [] := by
  refine Fn_intro (G := g35) (goodA rfl) (fn := Try.f35) rfl rfl rfl rfl rfl ?_
  (repeat' ((conv => whnf) <;>
           first
           | exact rfl
           | with_reducible refine boolK_dec (fun _ => ?_) (fun _ => ?_) <;> try (exfalso; omega)
           | refine boolK_beq (fun _ => ?_) (fun _ => ?_) <;> try (exfalso; first | omega | contradiction)
           | refine boolK_bne (fun _ => ?_) (fun _ => ?_) <;> try (exfalso; first | omega | contradiction)
           | with_reducible refine boolK_not ?_
           | with_reducible refine boolK_and ?_
           | with_reducible refine boolK_or ?_
           | with_reducible refine boolK_true ?_
           | with_reducible refine boolK_false ?_
           | refine boolK_intro (fun _ => ?_) (fun _ => ?_) <;> try (exfalso; simp_all; done)
           | refine wrapK_i64 (by omega) ?_
           | refine wrapK_u8 (by omega) ?_
           | refine convK_i64 (by omega) ?_
           | refine convK_byte ?_
           | refine convK_u64 (by omega) ?_
           | refine convK_u16 (by omega) ?_
           | refine convK_u32 (by omega) ?_
           | refine wrapK_byte ?_
           | refine wrapK_u64 (by omega) ?_
           | refine wrapK_u32 (by omega) ?_
           | refine wrapK_u16 (by omega) ?_
           | with_reducible refine natK_lit ?_
           | refine natK_of rfl ?_
           | refine natK_any ?_
           | refine quoK_i64 (by omega) ?_
           | refine quoK_u8 (by omega) ?_
           | refine quoK_u16 (by omega) ?_
           | refine remK_pos (by omega) ?_
           | refine headI_cons ?_
           | refine headS_cons ?_
           | refine headB_cons ?_
           | refine headV_cons ?_
           | refine headX_cons ?_
           | refine headI_u8 (by first | omega | (simp; omega)) (fun _ => ?_)
           | refine headI_ints (by first | omega | (simp; omega)) ?_
           | refine bytesK_map ?_
           | refine catK_nil ?_
           | refine catK_nil' ?_
           | refine catK_u8 ?_
           | refine catK_one ?_
           | refine catK_lit (by omega) ?_
           | refine catK_ints ?_
           | refine catK_int1 ?_
           | refine packK_u8 ?_
           | refine packK_0 ?_
           | refine packK_1 (by omega) ?_
           | refine packK_2 (by omega) (by omega) ?_
           | refine packK_3 (by omega) (by omega) (by omega) ?_
           | refine packK_4 (by omega) (by omega) (by omega) (by omega) ?_
           | refine packK_any ?_
           | refine shrK_8 0 (by omega) rfl (by omega) ?_
           | refine shrK_8 1 (by omega) rfl (by omega) ?_
           | refine shrK_8 2 (by omega) rfl (by omega) ?_
           | refine shrK_8 3 (by omega) rfl (by omega) ?_
           | refine shlK_8 (by omega) (by omega) ?_
           | refine bitK_or8 (by omega) (by omega) ?_
           | refine nilK_no (by omega) ?_
           | refine takeC_u8 ?_
           | refine dropC_u8 ?_
           | refine dropC_zero ?_
           | refine takeC_any ?_
           | refine dropC_any ?_
           | refine catK_any ?_
           | refine eitherK_l ?_
           | refine nlK_sl ?_
           | refine sideK_intro (by first | omega | rfl | exact Nat.le_of_ble_eq_true rfl | (refine ⟨?_, ?_⟩ <;> first | omega | (simp; done) | (simp; omega)) | (simp; done) | (simp; omega) | (exact congrArg (fun x => [L.b x]) (decide_eq_decide.mpr (by omega))) | (exact congrArg (fun x => [L.b x]) (Eq.symm (decide_eq_true (by omega)))) | (exact congrArg (fun x => [L.b x]) (Eq.symm (decide_eq_false (by omega))))) ?_
           | refine drawK_intro (by kernel_rfl) (by kernel_rfl) ?_)) <;> (try (conv => whnf))
end Go.Sx

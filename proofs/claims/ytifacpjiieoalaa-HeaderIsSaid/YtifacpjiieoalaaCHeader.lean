/-
  Contracts of the functions of package header and of its reference.
-/
import Derived.Test.YtifacpjiieoalaaPHeader
import Derived.Test.YtifacpjiieoalaaTa
set_option linter.all false
namespace Go.Sx
open Go.Proofs
noncomputable def g67 : Par := par 9 (nthLL [[0], [2]]) [2] (nthLL [])
noncomputable def g16 : Par := par 17 (nthLL [[0, 1], [0, 1, 8], [4], [1, 5], [5, 11], [5], [4]]) [4] (nthLL [])
noncomputable def g17 : Par := par 20 (nthLL [[0, 1], [0, 1, 11], [4], [1, 5], [5, 14], [5], [4]]) [4] (nthLL [])
noncomputable def g18 : Par := par 27 (nthLL [[0], [0, 8], [2, 3, 4], [0, 12], [2, 3, 4], [0, 5], [0, 5, 20], [2, 3, 4], [2, 3, 4]]) [2, 3, 4, 5] (nthLL [[], [], [], [], [], [], [], [], [0, 0, 2, 6, 14, 30, 1, 127, 255]])
noncomputable def g19 : Par := par 29 (nthLL [[0], [0, 7], [2, 3, 4], [0, 11], [2, 3, 4], [0, 2], [0, 2, 22], [2, 3, 4], [2, 3, 4]]) [2, 3, 4] (nthLL [[], [], [], [], [], [], [], [], [0, 0, 2, 6, 14, 30, 1, 127, 255]])
noncomputable def g68 : Par := par 17 (nthLL [[0, 1], [0, 7, 8, 9], [0, 7, 8, 9, 10], [0, 6, 7, 8, 9], [0, 7, 8, 9, 15], [4], [0, 7, 8, 9], [4]]) [4] (nthLL [])
noncomputable def g20 : Par := par 23 (nthLL [[0, 1], [1, 6, 7, 8], [1, 6, 7, 8, 16], [4, 5], [7, 21], [4, 5], [4, 5]]) [4, 5, 7, 8] (nthLL [])
noncomputable def g21 : Par := par 32 (nthLL [[0, 1], [1, 6, 7, 8], [1, 6, 7, 8, 17], [4, 5], [1, 6, 7, 9], [1, 6, 7, 9, 22], [1, 6, 7, 9], [1, 6, 7, 9, 30], [4, 5], [4, 5]]) [4, 5, 7, 8] (nthLL [])
set_option maxRecDepth 10000
theorem c_isKind (k : Int) : Fn Try.prog 67 [.o (.i .i64 k)] [] (.one (.c (.o (.b (decide (1 ≤ k) && decide (k ≤ 10)))))) [] := by
  refine Fn_intro (G := g67) (goodA rfl) (fn := Try.f67) rfl rfl rfl rfl rfl ?_
  repeat' ((conv => whnf) <;>
           first
           | exact rfl
           | refine boolK_dec (fun _ => ?_) (fun _ => ?_) <;> try (exfalso; omega)
           | refine boolK_beq (fun _ => ?_) (fun _ => ?_) <;> try (exfalso; first | omega | contradiction)
           | refine boolK_bne (fun _ => ?_) (fun _ => ?_) <;> try (exfalso; first | omega | contradiction)
           | refine boolK_not ?_
           | refine boolK_and ?_
           | refine boolK_or ?_
           | refine boolK_true ?_
           | refine boolK_false ?_
           | refine boolK_intro (fun _ => ?_) (fun _ => ?_) <;> try (exfalso; simp_all; done)
           | refine wrapK_i64 (by omega) ?_
           | refine wrapK_u8 (by omega) ?_
           | refine convK_i64 (by omega) ?_
           | refine convK_byte ?_
           | refine convK_u64 (by omega) ?_
           | refine convK_u16 (by omega) ?_
           | refine convK_u32 (by omega) ?_
           | refine wrapK_byte ?_
           | refine wrapK_u64 (by omega) ?_
           | refine wrapK_u32 (by omega) ?_
           | refine wrapK_u16 (by omega) ?_
           | refine natK_of rfl ?_
           | refine natK_any ?_
           | refine quoK_i64 (by omega) ?_
           | refine quoK_u8 (by omega) ?_
           | refine quoK_u16 (by omega) ?_
           | refine remK_pos (by omega) ?_
           | refine headI_cons ?_
           | refine headS_cons ?_
           | refine headB_cons ?_
           | refine headV_cons ?_
           | refine headX_cons ?_
           | refine headI_u8 (by first | omega | (simp; omega)) (fun _ => ?_)
           | refine headI_ints (by first | omega | (simp; omega)) ?_
           | refine bytesK_map ?_
           | refine catK_nil ?_
           | refine catK_nil' ?_
           | refine catK_u8 ?_
           | refine catK_one ?_
           | refine catK_lit (by omega) ?_
           | refine catK_ints ?_
           | refine catK_int1 ?_
           | refine packK_u8 ?_
           | refine packK_0 ?_
           | refine packK_1 (by omega) ?_
           | refine packK_2 (by omega) (by omega) ?_
           | refine packK_3 (by omega) (by omega) (by omega) ?_
           | refine packK_4 (by omega) (by omega) (by omega) (by omega) ?_
           | refine packK_any ?_
           | refine nilK_no (by omega) ?_
           | refine takeC_u8 ?_
           | refine dropC_u8 ?_
           | refine dropC_zero ?_
           | refine takeC_any ?_
           | refine dropC_any ?_
           | refine catK_any ?_
           | refine eitherK_l ?_
           | refine nlK_sl ?_
           | refine sideK_intro (by (simp [*]; done)) ?_
           | refine drawK_intro (by kernel_rfl) (by kernel_rfl) ?_)

theorem c_put (k : Int) (l : Bool) : Fn Try.prog 16 [.o (.i .i64 k), .o (.b l)] [] (.one (.fr ((putS k l).map u8) (putS k l).length 1)) [] := by
  refine Fn_intro (G := g16) (goodA rfl) (fn := Try.f16) rfl rfl rfl rfl rfl ?_
  repeat' ((conv => whnf) <;>
           first
           | exact rfl
           | refine boolK_dec (fun _ => ?_) (fun _ => ?_) <;> try (exfalso; omega)
           | refine boolK_beq (fun _ => ?_) (fun _ => ?_) <;> try (exfalso; first | omega | contradiction)
           | refine boolK_bne (fun _ => ?_) (fun _ => ?_) <;> try (exfalso; first | omega | contradiction)
           | refine boolK_not ?_
           | refine boolK_and ?_
           | refine boolK_or ?_
           | refine boolK_true ?_
           | refine boolK_false ?_
           | refine boolK_intro (fun _ => ?_) (fun _ => ?_) <;> try (exfalso; simp_all; done)
           | refine wrapK_i64 (by omega) ?_
           | refine wrapK_u8 (by omega) ?_
           | refine convK_i64 (by omega) ?_
           | refine convK_byte ?_
           | refine convK_u64 (by omega) ?_
           | refine convK_u16 (by omega) ?_
           | refine convK_u32 (by omega) ?_
           | refine wrapK_byte ?_
           | refine wrapK_u64 (by omega) ?_
           | refine wrapK_u32 (by omega) ?_
           | refine wrapK_u16 (by omega) ?_
           | refine natK_of rfl ?_
           | refine natK_any ?_
           | refine quoK_i64 (by omega) ?_
           | refine quoK_u8 (by omega) ?_
           | refine quoK_u16 (by omega) ?_
           | refine remK_pos (by omega) ?_
           | refine headI_cons ?_
           | refine headS_cons ?_
           | refine headB_cons ?_
           | refine headV_cons ?_
           | refine headX_cons ?_
           | refine headI_u8 (by first | omega | (simp; omega)) (fun _ => ?_)
           | refine headI_ints (by first | omega | (simp; omega)) ?_
           | refine bytesK_map ?_
           | refine catK_nil ?_
           | refine catK_nil' ?_
           | refine catK_u8 ?_
           | refine catK_one ?_
           | refine catK_lit (by omega) ?_
           | refine catK_ints ?_
           | refine catK_int1 ?_
           | refine packK_u8 ?_
           | refine packK_0 ?_
           | refine packK_1 (by omega) ?_
           | refine packK_2 (by omega) (by omega) ?_
           | refine packK_3 (by omega) (by omega) (by omega) ?_
           | refine packK_4 (by omega) (by omega) (by omega) (by omega) ?_
           | refine packK_any ?_
           | refine nilK_no (by omega) ?_
           | refine takeC_u8 ?_
           | refine dropC_u8 ?_
           | refine dropC_zero ?_
           | refine takeC_any ?_
           | refine dropC_any ?_
           | refine callK_intro (c_isKind _) ?_
           | refine catK_any ?_
           | refine eitherK_l ?_
           | refine nlK_sl ?_
           | refine sideK_intro (by first | (rw [putS_yes (by omega) (by omega)]; exact ⟨by simp [*]; exact ⟨rfl, rfl⟩, rfl, rfl⟩) | (rw [putS_no (by omega)]; exact ⟨rfl, rfl⟩)) ?_
           | refine drawK_intro (by kernel_rfl) (by kernel_rfl) ?_)

theorem c_rput (k : Int) (l : Bool) : Fn Try.prog 17 [.o (.i .i64 k), .o (.b l)] [] (.one (.fr ((putS k l).map u8) (putS k l).length 1)) [] := by
  refine Fn_intro (G := g17) (goodA rfl) (fn := Try.f17) rfl rfl rfl rfl rfl ?_
  repeat' ((conv => whnf) <;>
           first
           | exact rfl
           | refine boolK_dec (fun _ => ?_) (fun _ => ?_) <;> try (exfalso; omega)
           | refine boolK_beq (fun _ => ?_) (fun _ => ?_) <;> try (exfalso; first | omega | contradiction)
           | refine boolK_bne (fun _ => ?_) (fun _ => ?_) <;> try (exfalso; first | omega | contradiction)
           | refine boolK_not ?_
           | refine boolK_and ?_
           | refine boolK_or ?_
           | refine boolK_true ?_
           | refine boolK_false ?_
           | refine boolK_intro (fun _ => ?_) (fun _ => ?_) <;> try (exfalso; simp_all; done)
           | refine wrapK_i64 (by omega) ?_
           | refine wrapK_u8 (by omega) ?_
           | refine convK_i64 (by omega) ?_
           | refine convK_byte ?_
           | refine convK_u64 (by omega) ?_
           | refine convK_u16 (by omega) ?_
           | refine convK_u32 (by omega) ?_
           | refine wrapK_byte ?_
           | refine wrapK_u64 (by omega) ?_
           | refine wrapK_u32 (by omega) ?_
           | refine wrapK_u16 (by omega) ?_
           | refine natK_of rfl ?_
           | refine natK_any ?_
           | refine quoK_i64 (by omega) ?_
           | refine quoK_u8 (by omega) ?_
           | refine quoK_u16 (by omega) ?_
           | refine remK_pos (by omega) ?_
           | refine headI_cons ?_
           | refine headS_cons ?_
           | refine headB_cons ?_
           | refine headV_cons ?_
           | refine headX_cons ?_
           | refine headI_u8 (by first | omega | (simp; omega)) (fun _ => ?_)
           | refine headI_ints (by first | omega | (simp; omega)) ?_
           | refine bytesK_map ?_
           | refine catK_nil ?_
           | refine catK_nil' ?_
           | refine catK_u8 ?_
           | refine catK_one ?_
           | refine catK_lit (by omega) ?_
           | refine catK_ints ?_
           | refine catK_int1 ?_
           | refine packK_u8 ?_
           | refine packK_0 ?_
           | refine packK_1 (by omega) ?_
           | refine packK_2 (by omega) (by omega) ?_
           | refine packK_3 (by omega) (by omega) (by omega) ?_
           | refine packK_4 (by omega) (by omega) (by omega) (by omega) ?_
           | refine packK_any ?_
           | refine nilK_no (by omega) ?_
           | refine takeC_u8 ?_
           | refine dropC_u8 ?_
           | refine dropC_zero ?_
           | refine takeC_any ?_
           | refine dropC_any ?_
           | refine catK_any ?_
           | refine eitherK_l ?_
           | refine nlK_sl ?_
           | refine sideK_intro (by first | (rw [putS_yes (by omega) (by omega)]; exact ⟨by simp [*]; exact ⟨rfl, rfl⟩, rfl, rfl⟩) | (rw [putS_no (by omega)]; exact ⟨rfl, rfl⟩)) ?_
           | refine drawK_intro (by kernel_rfl) (by kernel_rfl) ?_)

theorem c_read (b : List UInt8) {n : Nat} (hn : n = b.length) : Fn Try.prog 18 [.o (.sl (b.map u8) n)] [] (.tup [.c (.o (.i .i64 (readS b).1)), .c (.o (.b (readS b).2.1)), .c (.o (.i .i64 (readS b).2.2))]) [] := by
  subst hn
  refine Fn_intro (G := g18) (goodA rfl) (fn := Try.f18) rfl rfl rfl rfl rfl ?_
  repeat' ((conv => whnf) <;>
           first
           | exact rfl
           | refine boolK_dec (fun _ => ?_) (fun _ => ?_) <;> try (exfalso; omega)
           | refine boolK_beq (fun _ => ?_) (fun _ => ?_) <;> try (exfalso; first | omega | contradiction)
           | refine boolK_bne (fun _ => ?_) (fun _ => ?_) <;> try (exfalso; first | omega | contradiction)
           | refine boolK_not ?_
           | refine boolK_and ?_
           | refine boolK_or ?_
           | refine boolK_true ?_
           | refine boolK_false ?_
           | refine boolK_intro (fun _ => ?_) (fun _ => ?_) <;> try (exfalso; simp_all; done)
           | refine wrapK_i64 (by omega) ?_
           | refine wrapK_u8 (by omega) ?_
           | refine convK_i64 (by omega) ?_
           | refine convK_byte ?_
           | refine convK_u64 (by omega) ?_
           | refine convK_u16 (by omega) ?_
           | refine convK_u32 (by omega) ?_
           | refine wrapK_byte ?_
           | refine wrapK_u64 (by omega) ?_
           | refine wrapK_u32 (by omega) ?_
           | refine wrapK_u16 (by omega) ?_
           | refine natK_of rfl ?_
           | refine natK_any ?_
           | refine quoK_i64 (by omega) ?_
           | refine quoK_u8 (by omega) ?_
           | refine quoK_u16 (by omega) ?_
           | refine remK_pos (by omega) ?_
           | refine headI_cons ?_
           | refine headS_cons ?_
           | refine headB_cons ?_
           | refine headV_cons ?_
           | refine headX_cons ?_
           | refine headI_u8 (by first | omega | (simp; omega)) (fun _ => ?_)
           | refine headI_ints (by first | omega | (simp; omega)) ?_
           | refine bytesK_map ?_
           | refine catK_nil ?_
           | refine catK_nil' ?_
           | refine catK_u8 ?_
           | refine catK_one ?_
           | refine catK_lit (by omega) ?_
           | refine catK_ints ?_
           | refine catK_int1 ?_
           | refine packK_u8 ?_
           | refine packK_0 ?_
           | refine packK_1 (by omega) ?_
           | refine packK_2 (by omega) (by omega) ?_
           | refine packK_3 (by omega) (by omega) (by omega) ?_
           | refine packK_4 (by omega) (by omega) (by omega) (by omega) ?_
           | refine packK_any ?_
           | refine nilK_no (by omega) ?_
           | refine takeC_u8 ?_
           | refine dropC_u8 ?_
           | refine dropC_zero ?_
           | refine takeC_any ?_
           | refine dropC_any ?_
           | refine callK_intro (c_isKind _) ?_
           | refine catK_any ?_
           | refine eitherK_l ?_
           | refine nlK_sl ?_
           | refine sideK_intro (by first | omega | rfl | ((simp only [readS]; repeat' split) <;> first | rfl | (exfalso; omega) | (simp_all; done) | (simp_all; omega))) ?_
           | refine drawK_intro (by kernel_rfl) (by kernel_rfl) ?_)

theorem c_rread (b : List UInt8) {n : Nat} (hn : n = b.length) : Fn Try.prog 19 [.o (.sl (b.map u8) n)] [] (.tup [.c (.o (.i .i64 (readS b).1)), .c (.o (.b (readS b).2.1)), .c (.o (.i .i64 (readS b).2.2))]) [] := by
  subst hn
  refine Fn_intro (G := g19) (goodA rfl) (fn := Try.f19) rfl rfl rfl rfl rfl ?_
  repeat' ((conv => whnf) <;>
           first
           | exact rfl
           | refine boolK_dec (fun _ => ?_) (fun _ => ?_) <;> try (exfalso; omega)
           | refine boolK_beq (fun _ => ?_) (fun _ => ?_) <;> try (exfalso; first | omega | contradiction)
           | refine boolK_bne (fun _ => ?_) (fun _ => ?_) <;> try (exfalso; first | omega | contradiction)
           | refine boolK_not ?_
           | refine boolK_and ?_
           | refine boolK_or ?_
           | refine boolK_true ?_
           | refine boolK_false ?_
           | refine boolK_intro (fun _ => ?_) (fun _ => ?_) <;> try (exfalso; simp_all; done)
           | refine wrapK_i64 (by omega) ?_
           | refine wrapK_u8 (by omega) ?_
           | refine convK_i64 (by omega) ?_
           | refine convK_byte ?_
           | refine convK_u64 (by omega) ?_
           | refine convK_u16 (by omega) ?_
           | refine convK_u32 (by omega) ?_
           | refine wrapK_byte ?_
           | refine wrapK_u64 (by omega) ?_
           | refine wrapK_u32 (by omega) ?_
           | refine wrapK_u16 (by omega) ?_
           | refine natK_of rfl ?_
           | refine natK_any ?_
           | refine quoK_i64 (by omega) ?_
           | refine quoK_u8 (by omega) ?_
           | refine quoK_u16 (by omega) ?_
           | refine remK_pos (by omega) ?_
           | refine headI_cons ?_
           | refine headS_cons ?_
           | refine headB_cons ?_
           | refine headV_cons ?_
           | refine headX_cons ?_
           | refine headI_u8 (by first | omega | (simp; omega)) (fun _ => ?_)
           | refine headI_ints (by first | omega | (simp; omega)) ?_
           | refine bytesK_map ?_
           | refine catK_nil ?_
           | refine catK_nil' ?_
           | refine catK_u8 ?_
           | refine catK_one ?_
           | refine catK_lit (by omega) ?_
           | refine catK_ints ?_
           | refine catK_int1 ?_
           | refine packK_u8 ?_
           | refine packK_0 ?_
           | refine packK_1 (by omega) ?_
           | refine packK_2 (by omega) (by omega) ?_
           | refine packK_3 (by omega) (by omega) (by omega) ?_
           | refine packK_4 (by omega) (by omega) (by omega) (by omega) ?_
           | refine packK_any ?_
           | refine nilK_no (by omega) ?_
           | refine takeC_u8 ?_
           | refine dropC_u8 ?_
           | refine dropC_zero ?_
           | refine takeC_any ?_
           | refine dropC_any ?_
           | refine catK_any ?_
           | refine eitherK_l ?_
           | refine nlK_sl ?_
           | refine sideK_intro (by first | omega | rfl | ((simp only [readS]; repeat' split) <;> first | rfl | (exfalso; omega) | (simp_all; done) | (simp_all; omega))) ?_
           | refine drawK_intro (by kernel_rfl) (by kernel_rfl) ?_)

theorem c_read_put (k : Int) (l : Bool) (r : List UInt8) {n : Nat} (hn : n = (putS k l ++ r).length) (h : ¬ ((putS k l).length : Int) = 0) : Fn Try.prog 18 [.o (.sl ((putS k l ++ r).map u8) n)] [] (.tup [.c (.o (.i .i64 k)), .c (.o (.b l)), .c (.o (.i .i64 0))]) [] := by
  have := c_read (putS k l ++ r) hn
  rwa [readS_put k l r h] at this
theorem c_among (k : Int) (ks : List Int) {n : Nat} (hn : n = ks.length) (hb : ks.length ≤ 1000000) : Fn Try.prog 68 [.o (.i .i64 k), .o (.sl (ks.map (.i .i64)) n)] [] (.one (.c (.o (.b (decide (k ∈ ks)))))) [] := by
  subst hn
  refine Fn_intro (G := g68) (goodA rfl) (fn := Try.f68) rfl rfl rfl rfl rfl ?_
  conv => whnf
  refine loopK_inv (G := g68) (fun n st => ∃ j : Nat, n + j = ks.length ∧ (∀ i, i < j → ks.getD i 0 ≠ k) ∧
    st = ⟨[(0, .c (.o (.i .i64 k))), (7, .c (.o (.sl (ks.map (.i .i64)) ks.length))), (8, .c (.o (.i .i64 ks.length))), (9, .c (.o (.i .i64 (j : Int))))], []⟩) (n := ks.length) ⟨0, by simp, by simp, rfl⟩ ?_
  rintro n st ⟨j, hj, hne, rfl⟩
  repeat' ((conv => whnf) <;>
           first
           | exact rfl
           | refine boolK_dec (fun _ => ?_) (fun _ => ?_) <;> try (exfalso; omega)
           | refine boolK_beq (fun _ => ?_) (fun _ => ?_) <;> try (exfalso; first | omega | contradiction)
           | refine boolK_bne (fun _ => ?_) (fun _ => ?_) <;> try (exfalso; first | omega | contradiction)
           | refine boolK_not ?_
           | refine boolK_and ?_
           | refine boolK_or ?_
           | refine boolK_true ?_
           | refine boolK_false ?_
           | refine boolK_intro (fun _ => ?_) (fun _ => ?_) <;> try (exfalso; simp_all; done)
           | refine wrapK_i64 (by omega) ?_
           | refine wrapK_u8 (by omega) ?_
           | refine convK_i64 (by omega) ?_
           | refine convK_byte ?_
           | refine convK_u64 (by omega) ?_
           | refine convK_u16 (by omega) ?_
           | refine convK_u32 (by omega) ?_
           | refine wrapK_byte ?_
           | refine wrapK_u64 (by omega) ?_
           | refine wrapK_u32 (by omega) ?_
           | refine wrapK_u16 (by omega) ?_
           | refine natK_of rfl ?_
           | refine natK_any ?_
           | refine quoK_i64 (by omega) ?_
           | refine quoK_u8 (by omega) ?_
           | refine quoK_u16 (by omega) ?_
           | refine remK_pos (by omega) ?_
           | refine headI_cons ?_
           | refine headS_cons ?_
           | refine headB_cons ?_
           | refine headV_cons ?_
           | refine headX_cons ?_
           | refine headI_u8 (by first | omega | (simp; omega)) (fun _ => ?_)
           | refine headI_ints (by first | omega | (simp; omega)) ?_
           | refine bytesK_map ?_
           | refine catK_nil ?_
           | refine catK_nil' ?_
           | refine catK_u8 ?_
           | refine catK_one ?_
           | refine catK_lit (by omega) ?_
           | refine catK_ints ?_
           | refine catK_int1 ?_
           | refine packK_u8 ?_
           | refine packK_0 ?_
           | refine packK_1 (by omega) ?_
           | refine packK_2 (by omega) (by omega) ?_
           | refine packK_3 (by omega) (by omega) (by omega) ?_
           | refine packK_4 (by omega) (by omega) (by omega) (by omega) ?_
           | refine packK_any ?_
           | refine nilK_no (by omega) ?_
           | refine takeC_u8 ?_
           | refine dropC_u8 ?_
           | refine dropC_zero ?_
           | refine takeC_any ?_
           | refine dropC_any ?_
           | exact ⟨n - 1, by omega, j + 1, by omega, fun i hi => by rcases Nat.lt_succ_iff_lt_or_eq.1 hi with h | h; exact hne i h; subst h; assumption, rfl⟩
           | refine catK_any ?_
           | refine eitherK_l ?_
           | refine nlK_sl ?_
           | refine sideK_intro (by first | omega | (have hm : k ∈ ks := (by rename_i h; rw [← h]; exact getD_mem (by omega)); simp [hm]; done) | (have hm : ¬ k ∈ ks := fun hm => (by obtain ⟨i, hi, he⟩ := mem_getD 0 hm; exact hne i (by omega) he); simp [hm]; done)) ?_
           | refine drawK_intro (by kernel_rfl) (by kernel_rfl) ?_)

theorem c_is (b : List UInt8) {n : Nat} (hn : n = b.length) (ks : List Int) {m : Nat} (hm : m = ks.length) (hb : ks.length ≤ 1000000) : Fn Try.prog 20 [.o (.sl (b.map u8) n), .o (.sl (ks.map (.i .i64)) m)] [] (.tup [.c (.o (.b (isS b ks).1)), .c (.o (.i .i64 (isS b ks).2))]) [] := by
  subst hn; subst hm
  refine Fn_intro (G := g20) (goodA rfl) (fn := Try.f20) rfl rfl rfl rfl rfl ?_
  repeat' ((conv => whnf) <;>
           first
           | exact rfl
           | refine boolK_dec (fun _ => ?_) (fun _ => ?_) <;> try (exfalso; omega)
           | refine boolK_beq (fun _ => ?_) (fun _ => ?_) <;> try (exfalso; first | omega | contradiction)
           | refine boolK_bne (fun _ => ?_) (fun _ => ?_) <;> try (exfalso; first | omega | contradiction)
           | refine boolK_not ?_
           | refine boolK_and ?_
           | refine boolK_or ?_
           | refine boolK_true ?_
           | refine boolK_false ?_
           | refine boolK_intro (fun _ => ?_) (fun _ => ?_) <;> try (exfalso; simp_all; done)
           | refine wrapK_i64 (by omega) ?_
           | refine wrapK_u8 (by omega) ?_
           | refine convK_i64 (by omega) ?_
           | refine convK_byte ?_
           | refine convK_u64 (by omega) ?_
           | refine convK_u16 (by omega) ?_
           | refine convK_u32 (by omega) ?_
           | refine wrapK_byte ?_
           | refine wrapK_u64 (by omega) ?_
           | refine wrapK_u32 (by omega) ?_
           | refine wrapK_u16 (by omega) ?_
           | refine natK_of rfl ?_
           | refine natK_any ?_
           | refine quoK_i64 (by omega) ?_
           | refine quoK_u8 (by omega) ?_
           | refine quoK_u16 (by omega) ?_
           | refine remK_pos (by omega) ?_
           | refine headI_cons ?_
           | refine headS_cons ?_
           | refine headB_cons ?_
           | refine headV_cons ?_
           | refine headX_cons ?_
           | refine headI_u8 (by first | omega | (simp; omega)) (fun _ => ?_)
           | refine headI_ints (by first | omega | (simp; omega)) ?_
           | refine bytesK_map ?_
           | refine catK_nil ?_
           | refine catK_nil' ?_
           | refine catK_u8 ?_
           | refine catK_one ?_
           | refine catK_lit (by omega) ?_
           | refine catK_ints ?_
           | refine catK_int1 ?_
           | refine packK_u8 ?_
           | refine packK_0 ?_
           | refine packK_1 (by omega) ?_
           | refine packK_2 (by omega) (by omega) ?_
           | refine packK_3 (by omega) (by omega) (by omega) ?_
           | refine packK_4 (by omega) (by omega) (by omega) (by omega) ?_
           | refine packK_any ?_
           | refine nilK_no (by omega) ?_
           | refine takeC_u8 ?_
           | refine dropC_u8 ?_
           | refine dropC_zero ?_
           | refine takeC_any ?_
           | refine dropC_any ?_
           | refine callK_intro (c_read _ rfl) ?_
           | refine callK_intro (c_among _ _ rfl hb) ?_
           | refine catK_any ?_
           | refine eitherK_l ?_
           | refine nlK_sl ?_
           | refine sideK_intro (by first | omega | rfl | ((simp only [isS]; repeat' split) <;> first | rfl | (exfalso; omega) | (simp_all; done) | (simp_all; omega))) ?_
           | refine drawK_intro (by kernel_rfl) (by kernel_rfl) ?_)

theorem c_ris (b : List UInt8) {n : Nat} (hn : n = b.length) (ks : List Int) {m : Nat} (hm : m = ks.length) (hb : ks.length ≤ 1000000) : Fn Try.prog 21 [.o (.sl (b.map u8) n), .o (.sl (ks.map (.i .i64)) m)] [] (.tup [.c (.o (.b (isS b ks).1)), .c (.o (.i .i64 (isS b ks).2))]) [] := by
  subst hn; subst hm
  refine Fn_intro (G := g21) (goodA rfl) (fn := Try.f21) rfl rfl rfl rfl rfl ?_
  repeat' ((conv => whnf) <;>
           first
           | exact rfl
           | refine boolK_dec (fun _ => ?_) (fun _ => ?_) <;> try (exfalso; omega)
           | refine boolK_beq (fun _ => ?_) (fun _ => ?_) <;> try (exfalso; first | omega | contradiction)
           | refine boolK_bne (fun _ => ?_) (fun _ => ?_) <;> try (exfalso; first | omega | contradiction)
           | refine boolK_not ?_
           | refine boolK_and ?_
           | refine boolK_or ?_
           | refine boolK_true ?_
           | refine boolK_false ?_
           | refine boolK_intro (fun _ => ?_) (fun _ => ?_) <;> try (exfalso; simp_all; done)
           | refine wrapK_i64 (by omega) ?_
           | refine wrapK_u8 (by omega) ?_
           | refine convK_i64 (by omega) ?_
           | refine convK_byte ?_
           | refine convK_u64 (by omega) ?_
           | refine convK_u16 (by omega) ?_
           | refine convK_u32 (by omega) ?_
           | refine wrapK_byte ?_
           | refine wrapK_u64 (by omega) ?_
           | refine wrapK_u32 (by omega) ?_
           | refine wrapK_u16 (by omega) ?_
           | refine natK_of rfl ?_
           | refine natK_any ?_
           | refine quoK_i64 (by omega) ?_
           | refine quoK_u8 (by omega) ?_
           | refine quoK_u16 (by omega) ?_
           | refine remK_pos (by omega) ?_
           | refine headI_cons ?_
           | refine headS_cons ?_
           | refine headB_cons ?_
           | refine headV_cons ?_
           | refine headX_cons ?_
           | refine headI_u8 (by first | omega | (simp; omega)) (fun _ => ?_)
           | refine headI_ints (by first | omega | (simp; omega)) ?_
           | refine bytesK_map ?_
           | refine catK_nil ?_
           | refine catK_nil' ?_
           | refine catK_u8 ?_
           | refine catK_one ?_
           | refine catK_lit (by omega) ?_
           | refine catK_ints ?_
           | refine catK_int1 ?_
           | refine packK_u8 ?_
           | refine packK_0 ?_
           | refine packK_1 (by omega) ?_
           | refine packK_2 (by omega) (by omega) ?_
           | refine packK_3 (by omega) (by omega) (by omega) ?_
           | refine packK_4 (by omega) (by omega) (by omega) (by omega) ?_
           | refine packK_any ?_
           | refine nilK_no (by omega) ?_
           | refine takeC_u8 ?_
           | refine dropC_u8 ?_
           | refine dropC_zero ?_
           | refine takeC_any ?_
           | refine dropC_any ?_
           | refine callK_intro (c_rread _ rfl) ?_
           | refine catK_any ?_
           | refine eitherK_l ?_
           | refine nlK_sl ?_
           | refine sideK_intro (by first | omega | rfl | ((simp only [isS]; repeat' split) <;> first | rfl | (exfalso; omega) | (simp_all; done) | (simp_all; omega))) ?_
           | refine drawK_intro (by kernel_rfl) (by kernel_rfl) ?_)
  conv => whnf
  refine loopK_inv (G := g21) (fun n st => ∃ j : Nat, n + j = ks.length ∧ (∀ i, i < j → ks.getD i 0 ≠ (readS b).1) ∧
    st = ⟨[(1, .c (.o (.sl (ks.map (.i .i64)) ks.length))), (6, .c (.o (.i .i64 (readS b).1))), (7, .c (.o (.b (readS b).2.1))), (9, .c (.o (.i .i64 (j : Int))))], []⟩) (n := ks.length) ⟨0, by simp, by simp, rfl⟩ ?_
  rintro n st ⟨j, hj, hne, rfl⟩
  repeat' ((conv => whnf) <;>
           first
           | exact rfl
           | refine boolK_dec (fun _ => ?_) (fun _ => ?_) <;> try (exfalso; omega)
           | refine boolK_beq (fun _ => ?_) (fun _ => ?_) <;> try (exfalso; first | omega | contradiction)
           | refine boolK_bne (fun _ => ?_) (fun _ => ?_) <;> try (exfalso; first | omega | contradiction)
           | refine boolK_not ?_
           | refine boolK_and ?_
           | refine boolK_or ?_
           | refine boolK_true ?_
           | refine boolK_false ?_
           | refine boolK_intro (fun _ => ?_) (fun _ => ?_) <;> try (exfalso; simp_all; done)
           | refine wrapK_i64 (by omega) ?_
           | refine wrapK_u8 (by omega) ?_
           | refine convK_i64 (by omega) ?_
           | refine convK_byte ?_
           | refine convK_u64 (by omega) ?_
           | refine convK_u16 (by omega) ?_
           | refine convK_u32 (by omega) ?_
           | refine wrapK_byte ?_
           | refine wrapK_u64 (by omega) ?_
           | refine wrapK_u32 (by omega) ?_
           | refine wrapK_u16 (by omega) ?_
           | refine natK_of rfl ?_
           | refine natK_any ?_
           | refine quoK_i64 (by omega) ?_
           | refine quoK_u8 (by omega) ?_
           | refine quoK_u16 (by omega) ?_
           | refine remK_pos (by omega) ?_
           | refine headI_cons ?_
           | refine headS_cons ?_
           | refine headB_cons ?_
           | refine headV_cons ?_
           | refine headX_cons ?_
           | refine headI_u8 (by first | omega | (simp; omega)) (fun _ => ?_)
           | refine headI_ints (by first | omega | (simp; omega)) ?_
           | refine bytesK_map ?_
           | refine catK_nil ?_
           | refine catK_nil' ?_
           | refine catK_u8 ?_
           | refine catK_one ?_
           | refine catK_lit (by omega) ?_
           | refine catK_ints ?_
           | refine catK_int1 ?_
           | refine packK_u8 ?_
           | refine packK_0 ?_
           | refine packK_1 (by omega) ?_
           | refine packK_2 (by omega) (by omega) ?_
           | refine packK_3 (by omega) (by omega) (by omega) ?_
           | refine packK_4 (by omega) (by omega) (by omega) (by omega) ?_
           | refine packK_any ?_
           | refine nilK_no (by omega) ?_
           | refine takeC_u8 ?_
           | refine dropC_u8 ?_
           | refine dropC_zero ?_
           | refine takeC_any ?_
           | refine dropC_any ?_
           | exact ⟨n - 1, by omega, j + 1, by omega, fun i hi => by rcases Nat.lt_succ_iff_lt_or_eq.1 hi with h | h; exact hne i h; subst h; assumption, rfl⟩
           | refine catK_any ?_
           | refine eitherK_l ?_
           | refine nlK_sl ?_
           | refine sideK_intro (by first | omega | (have hm : (readS b).1 ∈ ks := (by rename_i h; rw [← h]; exact getD_mem (by omega)); simp_all [isS]; done) | (have hm : ¬ (readS b).1 ∈ ks := fun hm => (by obtain ⟨i, hi, he⟩ := mem_getD 0 hm; exact hne i (by omega) he); simp_all [isS]; done)) ?_
           | refine drawK_intro (by kernel_rfl) (by kernel_rfl) ?_)
end Go.Sx

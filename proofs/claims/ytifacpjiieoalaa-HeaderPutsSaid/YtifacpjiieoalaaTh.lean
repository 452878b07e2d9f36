import Derived.Test.YtifacpjiieoalaaTa
import Derived.Test.YtifacpjiieoalaaSxB
set_option linter.all false
namespace Go.Sx
open Go.Proofs
noncomputable def g67 : Par := par 9 (nthLL [[0], [2]]) [2] (nthLL [])
noncomputable def g16 : Par := par 17 (nthLL [[0, 1], [0, 1, 8], [4], [1, 5], [5, 11], [5], [4]]) [4] (nthLL [])
noncomputable def g17 : Par := par 20 (nthLL [[0, 1], [0, 1, 11], [4], [1, 5], [5, 14], [5], [4]]) [4] (nthLL [])
noncomputable def g18 : Par := par 27 (nthLL [[0], [0, 8], [2, 3, 4], [0, 12], [2, 3, 4], [0, 5], [0, 5, 20], [2, 3, 4], [2, 3, 4]]) [2, 3, 4, 5] (nthLL [[], [], [], [], [], [], [], [], [0, 0, 2, 6, 14, 30, 1, 127, 255]])
noncomputable def g19 : Par := par 29 (nthLL [[0], [0, 7], [2, 3, 4], [0, 11], [2, 3, 4], [0, 2], [0, 2, 22], [2, 3, 4], [2, 3, 4]]) [2, 3, 4] (nthLL [[], [], [], [], [], [], [], [], [0, 0, 2, 6, 14, 30, 1, 127, 255]])
noncomputable def g15 : Par := par 18 (nthLL [[], [1], [0]]) [0] (nthLL [])
noncomputable def g3 : Par := par 67 (nthLL [[0, 1, 2, 3], [0, 1, 2, 3, 16], [8], [0, 1, 2, 3, 19], [8], [0, 1, 2, 3, 9], [0, 1, 2, 3, 9, 21], [0, 1, 2, 3, 9], [0, 1, 2, 3, 9, 10], [0, 1, 2, 3, 9, 10, 11], [0, 1, 2, 3, 9, 10, 11, 41], [8], [0, 1, 2, 3, 9, 10, 11, 44], [0, 1, 2, 3, 9, 10, 12, 13, 14], [0, 1, 2, 3, 9, 66], [8], [8]]) [8] (nthLL [[], [], [], [], [], [], [], [], [], [], [0, 1, 0, 0, 12, 28, 63]])
set_option maxRecDepth 10000
theorem c_isKind (k : Int) : Fn Try.prog 67 [.o (.i .i64 k)] [] (.one (.c (.o (.b (decide (1 ≤ k) && decide (k ≤ 10)))))) [] := by
  refine Fn_intro (G := g67) (goodA rfl) (fn := Try.f67) rfl rfl rfl rfl rfl ?_
  repeat' ((conv => whnf) <;>
           first
           | exact rfl
           | refine boolK_dec (fun _ => ?_) (fun _ => ?_) <;> try (exfalso; omega)
           | refine boolK_beq (fun _ => ?_) (fun _ => ?_) <;> try (exfalso; first | omega | contradiction)
           | refine boolK_bne (fun _ => ?_) (fun _ => ?_) <;> try (exfalso; first | omega | contradiction)
           | refine boolK_not ?_
           | refine boolK_and ?_
           | refine boolK_or ?_
           | refine boolK_true ?_
           | refine boolK_false ?_
           | refine boolK_intro (fun _ => ?_) (fun _ => ?_) <;> try (exfalso; simp_all; done)
           | refine wrapK_i64 (by omega) ?_
           | refine wrapK_u8 (by omega) ?_
           | refine convK_i64 (by omega) ?_
           | refine convK_byte ?_
           | refine convK_u64 (by omega) ?_
           | refine convK_u16 (by omega) ?_
           | refine convK_u32 (by omega) ?_
           | refine wrapK_byte ?_
           | refine wrapK_u64 (by omega) ?_
           | refine wrapK_u32 (by omega) ?_
           | refine wrapK_u16 (by omega) ?_
           | refine natK_of rfl ?_
           | refine natK_any ?_
           | refine quoK_i64 (by omega) ?_
           | refine quoK_u8 (by omega) ?_
           | refine quoK_u16 (by omega) ?_
           | refine remK_pos (by omega) ?_
           | refine headI_cons ?_
           | refine headS_cons ?_
           | refine headB_cons ?_
           | refine headV_cons ?_
           | refine headX_cons ?_
           | refine headI_u8 (by first | omega | (simp; omega)) (fun _ => ?_)
           | refine bytesK_map ?_
           | refine catK_nil ?_
           | refine catK_nil' ?_
           | refine catK_u8 ?_
           | refine catK_one ?_
           | refine catK_lit (by omega) ?_
           | refine catK_any ?_
           | refine takeC_u8 ?_
           | refine dropC_u8 ?_
           | refine dropC_zero ?_
           | refine takeC_any ?_
           | refine dropC_any ?_
           | refine sideK_intro (by (simp [*]; done)) ?_
           | refine drawK_intro (by kernel_rfl) (by kernel_rfl) ?_)

def putS (k : Int) (l : Bool) : List UInt8 := if 1 ≤ k ∧ k ≤ 10 then [4, byteOf (2 * k + if l then 1 else 0)] else []
theorem putS_yes {k : Int} {l : Bool} (h1 : 1 ≤ k) (h2 : k ≤ 10) : putS k l = [4, byteOf (2 * k + if l then 1 else 0)] := by simp [putS, h1, h2]
theorem putS_no {k : Int} {l : Bool} (h : ¬ (1 ≤ k ∧ k ≤ 10)) : putS k l = [] := by simp [putS, h]

theorem putS_len (k : Int) (l : Bool) : (putS k l).length ≤ 2 := by unfold putS; split <;> simp

theorem c_put (k : Int) (l : Bool) : Fn Try.prog 16 [.o (.i .i64 k), .o (.b l)] [] (.one (.fr ((putS k l).map u8) (putS k l).length 1)) [] := by
  refine Fn_intro (G := g16) (goodA rfl) (fn := Try.f16) rfl rfl rfl rfl rfl ?_
  repeat' ((conv => whnf) <;>
           first
           | exact rfl
           | refine boolK_dec (fun _ => ?_) (fun _ => ?_) <;> try (exfalso; omega)
           | refine boolK_beq (fun _ => ?_) (fun _ => ?_) <;> try (exfalso; first | omega | contradiction)
           | refine boolK_bne (fun _ => ?_) (fun _ => ?_) <;> try (exfalso; first | omega | contradiction)
           | refine boolK_not ?_
           | refine boolK_and ?_
           | refine boolK_or ?_
           | refine boolK_true ?_
           | refine boolK_false ?_
           | refine boolK_intro (fun _ => ?_) (fun _ => ?_) <;> try (exfalso; simp_all; done)
           | refine wrapK_i64 (by omega) ?_
           | refine wrapK_u8 (by omega) ?_
           | refine convK_i64 (by omega) ?_
           | refine convK_byte ?_
           | refine convK_u64 (by omega) ?_
           | refine convK_u16 (by omega) ?_
           | refine convK_u32 (by omega) ?_
           | refine wrapK_byte ?_
           | refine wrapK_u64 (by omega) ?_
           | refine wrapK_u32 (by omega) ?_
           | refine wrapK_u16 (by omega) ?_
           | refine natK_of rfl ?_
           | refine natK_any ?_
           | refine quoK_i64 (by omega) ?_
           | refine quoK_u8 (by omega) ?_
           | refine quoK_u16 (by omega) ?_
           | refine remK_pos (by omega) ?_
           | refine headI_cons ?_
           | refine headS_cons ?_
           | refine headB_cons ?_
           | refine headV_cons ?_
           | refine headX_cons ?_
           | refine headI_u8 (by first | omega | (simp; omega)) (fun _ => ?_)
           | refine bytesK_map ?_
           | refine catK_nil ?_
           | refine catK_nil' ?_
           | refine catK_u8 ?_
           | refine catK_one ?_
           | refine catK_lit (by omega) ?_
           | refine catK_any ?_
           | refine takeC_u8 ?_
           | refine dropC_u8 ?_
           | refine dropC_zero ?_
           | refine takeC_any ?_
           | refine dropC_any ?_
           | refine callK_intro (c_isKind _) ?_
           | refine sideK_intro (by first | (rw [putS_yes (by omega) (by omega)]; exact ⟨by simp [*]; exact ⟨rfl, rfl⟩, rfl, rfl⟩) | (rw [putS_no (by omega)]; exact ⟨rfl, rfl⟩)) ?_
           | refine drawK_intro (by kernel_rfl) (by kernel_rfl) ?_)

theorem c_rput (k : Int) (l : Bool) : Fn Try.prog 17 [.o (.i .i64 k), .o (.b l)] [] (.one (.fr ((putS k l).map u8) (putS k l).length 1)) [] := by
  refine Fn_intro (G := g17) (goodA rfl) (fn := Try.f17) rfl rfl rfl rfl rfl ?_
  repeat' ((conv => whnf) <;>
           first
           | exact rfl
           | refine boolK_dec (fun _ => ?_) (fun _ => ?_) <;> try (exfalso; omega)
           | refine boolK_beq (fun _ => ?_) (fun _ => ?_) <;> try (exfalso; first | omega | contradiction)
           | refine boolK_bne (fun _ => ?_) (fun _ => ?_) <;> try (exfalso; first | omega | contradiction)
           | refine boolK_not ?_
           | refine boolK_and ?_
           | refine boolK_or ?_
           | refine boolK_true ?_
           | refine boolK_false ?_
           | refine boolK_intro (fun _ => ?_) (fun _ => ?_) <;> try (exfalso; simp_all; done)
           | refine wrapK_i64 (by omega) ?_
           | refine wrapK_u8 (by omega) ?_
           | refine convK_i64 (by omega) ?_
           | refine convK_byte ?_
           | refine convK_u64 (by omega) ?_
           | refine convK_u16 (by omega) ?_
           | refine convK_u32 (by omega) ?_
           | refine wrapK_byte ?_
           | refine wrapK_u64 (by omega) ?_
           | refine wrapK_u32 (by omega) ?_
           | refine wrapK_u16 (by omega) ?_
           | refine natK_of rfl ?_
           | refine natK_any ?_
           | refine quoK_i64 (by omega) ?_
           | refine quoK_u8 (by omega) ?_
           | refine quoK_u16 (by omega) ?_
           | refine remK_pos (by omega) ?_
           | refine headI_cons ?_
           | refine headS_cons ?_
           | refine headB_cons ?_
           | refine headV_cons ?_
           | refine headX_cons ?_
           | refine headI_u8 (by first | omega | (simp; omega)) (fun _ => ?_)
           | refine bytesK_map ?_
           | refine catK_nil ?_
           | refine catK_nil' ?_
           | refine catK_u8 ?_
           | refine catK_one ?_
           | refine catK_lit (by omega) ?_
           | refine catK_any ?_
           | refine takeC_u8 ?_
           | refine dropC_u8 ?_
           | refine dropC_zero ?_
           | refine takeC_any ?_
           | refine dropC_any ?_
           | refine sideK_intro (by first | (rw [putS_yes (by omega) (by omega)]; exact ⟨by simp [*]; exact ⟨rfl, rfl⟩, rfl, rfl⟩) | (rw [putS_no (by omega)]; exact ⟨rfl, rfl⟩)) ?_
           | refine drawK_intro (by kernel_rfl) (by kernel_rfl) ?_)


def readS (b : List UInt8) : Int × Bool × Int :=
  if b.length < 2 then (0, false, 101) else
  if (b.getD 0 0).toNat ≠ 4 then (0, false, 39) else
  if 1 ≤ (b.getD 1 0).toNat / 2 ∧ (b.getD 1 0).toNat / 2 ≤ 10 then (((b.getD 1 0).toNat : Int) / 2, ((b.getD 1 0).toNat : Int) % 2 == 1, 0) else (0, false, 40)

theorem c_read (b : List UInt8) {n : Nat} (hn : n = b.length) : Fn Try.prog 18 [.o (.sl (b.map u8) n)] [] (.tup [.c (.o (.i .i64 (readS b).1)), .c (.o (.b (readS b).2.1)), .c (.o (.i .i64 (readS b).2.2))]) [] := by
  subst hn
  refine Fn_intro (G := g18) (goodA rfl) (fn := Try.f18) rfl rfl rfl rfl rfl ?_
  repeat' ((conv => whnf) <;>
           first
           | exact rfl
           | refine boolK_dec (fun _ => ?_) (fun _ => ?_) <;> try (exfalso; omega)
           | refine boolK_beq (fun _ => ?_) (fun _ => ?_) <;> try (exfalso; first | omega | contradiction)
           | refine boolK_bne (fun _ => ?_) (fun _ => ?_) <;> try (exfalso; first | omega | contradiction)
           | refine boolK_not ?_
           | refine boolK_and ?_
           | refine boolK_or ?_
           | refine boolK_true ?_
           | refine boolK_false ?_
           | refine boolK_intro (fun _ => ?_) (fun _ => ?_) <;> try (exfalso; simp_all; done)
           | refine wrapK_i64 (by omega) ?_
           | refine wrapK_u8 (by omega) ?_
           | refine convK_i64 (by omega) ?_
           | refine convK_byte ?_
           | refine convK_u64 (by omega) ?_
           | refine convK_u16 (by omega) ?_
           | refine convK_u32 (by omega) ?_
           | refine wrapK_byte ?_
           | refine wrapK_u64 (by omega) ?_
           | refine wrapK_u32 (by omega) ?_
           | refine wrapK_u16 (by omega) ?_
           | refine natK_of rfl ?_
           | refine natK_any ?_
           | refine quoK_i64 (by omega) ?_
           | refine quoK_u8 (by omega) ?_
           | refine quoK_u16 (by omega) ?_
           | refine remK_pos (by omega) ?_
           | refine headI_cons ?_
           | refine headS_cons ?_
           | refine headB_cons ?_
           | refine headV_cons ?_
           | refine headX_cons ?_
           | refine headI_u8 (by first | omega | (simp; omega)) (fun _ => ?_)
           | refine bytesK_map ?_
           | refine catK_nil ?_
           | refine catK_nil' ?_
           | refine catK_u8 ?_
           | refine catK_one ?_
           | refine catK_lit (by omega) ?_
           | refine catK_any ?_
           | refine takeC_u8 ?_
           | refine dropC_u8 ?_
           | refine dropC_zero ?_
           | refine takeC_any ?_
           | refine dropC_any ?_
           | refine callK_intro (c_isKind _) ?_
           | refine sideK_intro (by first | omega | rfl | ((simp only [readS]; repeat' split) <;> first | rfl | (exfalso; omega) | (simp_all; done) | (simp_all; omega))) ?_
           | refine drawK_intro (by kernel_rfl) (by kernel_rfl) ?_)

theorem c_rread (b : List UInt8) {n : Nat} (hn : n = b.length) : Fn Try.prog 19 [.o (.sl (b.map u8) n)] [] (.tup [.c (.o (.i .i64 (readS b).1)), .c (.o (.b (readS b).2.1)), .c (.o (.i .i64 (readS b).2.2))]) [] := by
  subst hn
  refine Fn_intro (G := g19) (goodA rfl) (fn := Try.f19) rfl rfl rfl rfl rfl ?_
  repeat' ((conv => whnf) <;>
           first
           | exact rfl
           | refine boolK_dec (fun _ => ?_) (fun _ => ?_) <;> try (exfalso; omega)
           | refine boolK_beq (fun _ => ?_) (fun _ => ?_) <;> try (exfalso; first | omega | contradiction)
           | refine boolK_bne (fun _ => ?_) (fun _ => ?_) <;> try (exfalso; first | omega | contradiction)
           | refine boolK_not ?_
           | refine boolK_and ?_
           | refine boolK_or ?_
           | refine boolK_true ?_
           | refine boolK_false ?_
           | refine boolK_intro (fun _ => ?_) (fun _ => ?_) <;> try (exfalso; simp_all; done)
           | refine wrapK_i64 (by omega) ?_
           | refine wrapK_u8 (by omega) ?_
           | refine convK_i64 (by omega) ?_
           | refine convK_byte ?_
           | refine convK_u64 (by omega) ?_
           | refine convK_u16 (by omega) ?_
           | refine convK_u32 (by omega) ?_
           | refine wrapK_byte ?_
           | refine wrapK_u64 (by omega) ?_
           | refine wrapK_u32 (by omega) ?_
           | refine wrapK_u16 (by omega) ?_
           | refine natK_of rfl ?_
           | refine natK_any ?_
           | refine quoK_i64 (by omega) ?_
           | refine quoK_u8 (by omega) ?_
           | refine quoK_u16 (by omega) ?_
           | refine remK_pos (by omega) ?_
           | refine headI_cons ?_
           | refine headS_cons ?_
           | refine headB_cons ?_
           | refine headV_cons ?_
           | refine headX_cons ?_
           | refine headI_u8 (by first | omega | (simp; omega)) (fun _ => ?_)
           | refine bytesK_map ?_
           | refine catK_nil ?_
           | refine catK_nil' ?_
           | refine catK_u8 ?_
           | refine catK_one ?_
           | refine catK_lit (by omega) ?_
           | refine catK_any ?_
           | refine takeC_u8 ?_
           | refine dropC_u8 ?_
           | refine dropC_zero ?_
           | refine takeC_any ?_
           | refine dropC_any ?_
           | refine sideK_intro (by first | omega | rfl | ((simp only [readS]; repeat' split) <;> first | rfl | (exfalso; omega) | (simp_all; done) | (simp_all; omega))) ?_
           | refine drawK_intro (by kernel_rfl) (by kernel_rfl) ?_)

theorem c_awake8 : Fn Try.prog 15 [] [] (.one (.c (.o (.b true)))) [] := by
  refine Fn_intro (G := g15) (goodA rfl) (fn := Try.f15) rfl rfl rfl rfl rfl ?_
  repeat' ((conv => whnf) <;>
           first
           | exact rfl
           | refine boolK_dec (fun _ => ?_) (fun _ => ?_) <;> try (exfalso; omega)
           | refine boolK_beq (fun _ => ?_) (fun _ => ?_) <;> try (exfalso; first | omega | contradiction)
           | refine boolK_bne (fun _ => ?_) (fun _ => ?_) <;> try (exfalso; first | omega | contradiction)
           | refine boolK_not ?_
           | refine boolK_and ?_
           | refine boolK_or ?_
           | refine boolK_true ?_
           | refine boolK_false ?_
           | refine boolK_intro (fun _ => ?_) (fun _ => ?_) <;> try (exfalso; simp_all; done)
           | refine wrapK_i64 (by omega) ?_
           | refine wrapK_u8 (by omega) ?_
           | refine convK_i64 (by omega) ?_
           | refine convK_byte ?_
           | refine convK_u64 (by omega) ?_
           | refine convK_u16 (by omega) ?_
           | refine convK_u32 (by omega) ?_
           | refine wrapK_byte ?_
           | refine wrapK_u64 (by omega) ?_
           | refine wrapK_u32 (by omega) ?_
           | refine wrapK_u16 (by omega) ?_
           | refine natK_of rfl ?_
           | refine natK_any ?_
           | refine quoK_i64 (by omega) ?_
           | refine quoK_u8 (by omega) ?_
           | refine quoK_u16 (by omega) ?_
           | refine remK_pos (by omega) ?_
           | refine headI_cons ?_
           | refine headS_cons ?_
           | refine headB_cons ?_
           | refine headV_cons ?_
           | refine headX_cons ?_
           | refine headI_u8 (by first | omega | (simp; omega)) (fun _ => ?_)
           | refine bytesK_map ?_
           | refine catK_nil ?_
           | refine catK_nil' ?_
           | refine catK_u8 ?_
           | refine catK_one ?_
           | refine catK_lit (by omega) ?_
           | refine catK_any ?_
           | refine takeC_u8 ?_
           | refine dropC_u8 ?_
           | refine dropC_zero ?_
           | refine takeC_any ?_
           | refine dropC_any ?_
           | refine callK_intro (c_put _ _) ?_
           | refine sideK_intro (by first | rfl | (exfalso; simp_all [putS]; done) | (simp [putS]; done)) ?_
           | refine drawK_intro (by kernel_rfl) (by kernel_rfl) ?_)

theorem readS_put (k : Int) (l : Bool) (r : List UInt8) (h : ¬ ((putS k l).length : Int) = 0) : readS (putS k l ++ r) = (k, l, 0) := by
  unfold putS at h ⊢
  split at h
  · rename_i hk
    rw [if_pos hk]
    have h0 : (byteOf (2 * k + if l then 1 else 0)).toNat = (2 * k + if l then 1 else 0).toNat := by
      have := byteOf_toNat (2 * k + if l then 1 else 0)
      rw [wrap_u8 (by cases l <;> simp <;> omega)] at this
      omega
    have h1 : ([4, byteOf (2 * k + if l then 1 else 0)] ++ r).getD 0 0 = 4 := rfl
    have h2 : ([4, byteOf (2 * k + if l then 1 else 0)] ++ r).getD 1 0 = byteOf (2 * k + if l then 1 else 0) := rfl
    unfold readS
    rw [if_neg (by simp), h1, h2, h0, if_neg (by decide), if_pos (by cases l <;> simp <;> omega)]
    cases l <;> simp <;> omega
  · simp at h

theorem c_read_put (k : Int) (l : Bool) (r : List UInt8) {n : Nat} (hn : n = (putS k l ++ r).length) (h : ¬ ((putS k l).length : Int) = 0) : Fn Try.prog 18 [.o (.sl ((putS k l ++ r).map u8) n)] [] (.tup [.c (.o (.i .i64 k)), .c (.o (.b l)), .c (.o (.i .i64 0))]) [] := by
  have := c_read (putS k l ++ r) hn
  rwa [readS_put k l r h] at this

theorem c_HeaderPuts (raw small : Int) (h : 0 ≤ small ∧ small ≤ 255) (l : Bool) (rest : List UInt8) : Fn Try.prog 3 [.o (.i .i64 raw), .o (.i .u8 small), .o (.b l), .o (.sl (rest.map u8) rest.length)] [] (.one (.c (.o (.b true)))) [] := by
  refine Fn_intro (G := g3) (goodA rfl) (fn := Try.f3) rfl rfl rfl rfl rfl ?_
  repeat' ((conv => whnf) <;>
           first
           | exact rfl
           | refine boolK_dec (fun _ => ?_) (fun _ => ?_) <;> try (exfalso; omega)
           | refine boolK_beq (fun _ => ?_) (fun _ => ?_) <;> try (exfalso; first | omega | contradiction)
           | refine boolK_bne (fun _ => ?_) (fun _ => ?_) <;> try (exfalso; first | omega | contradiction)
           | refine boolK_not ?_
           | refine boolK_and ?_
           | refine boolK_or ?_
           | refine boolK_true ?_
           | refine boolK_false ?_
           | refine boolK_intro (fun _ => ?_) (fun _ => ?_) <;> try (exfalso; simp_all; done)
           | refine wrapK_i64 (by omega) ?_
           | refine wrapK_u8 (by omega) ?_
           | refine convK_i64 (by omega) ?_
           | refine convK_byte ?_
           | refine convK_u64 (by omega) ?_
           | refine convK_u16 (by omega) ?_
           | refine convK_u32 (by omega) ?_
           | refine wrapK_byte ?_
           | refine wrapK_u64 (by omega) ?_
           | refine wrapK_u32 (by omega) ?_
           | refine wrapK_u16 (by omega) ?_
           | refine natK_of rfl ?_
           | refine natK_any ?_
           | refine quoK_i64 (by omega) ?_
           | refine quoK_u8 (by omega) ?_
           | refine quoK_u16 (by omega) ?_
           | refine remK_pos (by omega) ?_
           | refine headI_cons ?_
           | refine headS_cons ?_
           | refine headB_cons ?_
           | refine headV_cons ?_
           | refine headX_cons ?_
           | refine headI_u8 (by first | omega | (simp; omega)) (fun _ => ?_)
           | refine bytesK_map ?_
           | refine catK_nil ?_
           | refine catK_nil' ?_
           | refine catK_u8 ?_
           | refine catK_one ?_
           | refine catK_lit (by omega) ?_
           | refine catK_any ?_
           | refine takeC_u8 ?_
           | refine dropC_u8 ?_
           | refine dropC_zero ?_
           | refine takeC_any ?_
           | refine dropC_any ?_
           | refine callK_intro (c_awake8) ?_
           | refine callK_intro (c_put _ _) ?_
           | refine callK_intro (c_rput _ _) ?_
           | refine callK_intro (c_read_put _ _ _ (by simp) (by assumption)) ?_
           | refine loopK_step (G := g3) ?_
           | refine sideK_intro (by first | omega | rfl | (simp; done) | (refine ⟨?_, by simp⟩; have := putS_len raw l; have := putS_len (small % 13) l; omega)) ?_
           | refine drawK_intro (by kernel_rfl) (by kernel_rfl) ?_)
  all_goals (conv => whnf)
  all_goals trace_state
  all_goals sorry
end Go.Sx

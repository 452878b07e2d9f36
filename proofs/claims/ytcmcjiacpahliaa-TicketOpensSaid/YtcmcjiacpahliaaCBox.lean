/-
  Contracts of the functions of package box and of its reference.
-/
import Derived.Test.YtcmcjiacpahliaaPBox
import Derived.Test.YtcmcjiacpahliaaCKey
import Derived.Test.YtcmcjiacpahliaaCBytes
set_option linter.all false
namespace Go.Sx
open Go.Proofs Go.RowKit
noncomputable def g147 : Par := par 9 (nthLL [[0], [2]]) [2] (nthLL [])
noncomputable def g84 : Par := par 47 (nthLL [[0, 1, 2], [0, 1, 2, 9], [6, 7], [0, 1, 2, 13], [6, 7], [0, 1, 2, 17], [6, 7], [0, 1, 2, 8], [1, 2, 8], [2, 8], [2, 8], [6, 7]]) [6, 7, 8] (nthLL [])
noncomputable def g86 : Par := par 40 (nthLL [[0, 1, 2], [0, 1, 2, 14], [6, 7], [0, 1, 2, 17], [6, 7], [0, 1, 2, 20], [6, 7], [2, 8], [2, 8], [6, 7]]) [6, 7, 8] (nthLL [])
noncomputable def g152 : Par := par 68 (nthLL [[0, 2], [0, 2, 12], [2, 3, 4], [0, 2, 5], [0, 2, 5, 6, 7], [0, 2, 5, 6, 7, 8], [0, 2, 5, 6, 8, 50], [2, 3, 4], [0, 2, 5, 6, 9], [0, 2, 5, 6, 9, 57], [2, 3, 4], [2, 3, 4]]) [2, 3, 4, 9] (nthLL [[], [], [], [], [], [0, 1, 3, 7, 15, 0, 32, 96, 224, 511, 1023]])
noncomputable def g154 : Par := par 75 (nthLL [[0, 2], [0, 2, 10], [2, 3, 4], [0, 2, 5, 6], [0, 2, 5, 6, 7], [0, 2, 5, 7, 53], [2, 3, 4], [0, 2, 5, 7, 59], [2, 3, 4], [2, 3, 4]]) [2, 3, 4] (nthLL [[], [], [], [], [0, 1, 3, 7, 15, 0, 32, 96, 224, 511, 1023], [], [], [], [], [0, 1, 3, 7, 0, 0, 0, 0, 128, 448, 992, 2047, 0, 4096, 4095, 32767, 65535]])
noncomputable def g87 : Par := par 39 (nthLL [[0, 1, 2], [0, 1, 2, 8, 9, 10], [8, 36], [6, 7], [6, 7]]) [6, 7] (nthLL [])
noncomputable def g89 : Par := par 39 (nthLL [[0, 1, 2], [0, 1, 2, 8, 9, 10], [8, 36], [6, 7], [6, 7]]) [6, 7] (nthLL [])
set_option maxRecDepth 10000
set_option maxHeartbeats 4000000
theorem c_isKind (c : Int) : Fn Try.prog 147 [.o (.i .i64 c)] [] (.one (.c (.o (.b (decide (1 ≤ c ∧ c ≤ 10)))))) [] := by
  refine Fn_intro (G := g147) (goodA rfl) (fn := Try.f147) rfl rfl rfl rfl rfl ?_
  (repeat' ((conv => whnf) <;>
           first
           | exact rfl
           | with_reducible refine boolK_dec (fun _ => ?_) (fun _ => ?_) <;> try (exfalso; omega)
           | refine boolK_beq (fun _ => ?_) (fun _ => ?_) <;> try (exfalso; first | omega | contradiction)
           | refine boolK_bne (fun _ => ?_) (fun _ => ?_) <;> try (exfalso; first | omega | contradiction)
           | with_reducible refine boolK_not ?_
           | with_reducible refine boolK_and ?_
           | with_reducible refine boolK_or ?_
           | with_reducible refine boolK_true ?_
           | with_reducible refine boolK_false ?_
           | refine boolK_intro (fun _ => ?_) (fun _ => ?_) <;> try (exfalso; simp_all; done)
           | refine wrapK_i64 (by omega) ?_
           | refine wrapK_u8 (by omega) ?_
           | refine convK_i64 (by omega) ?_
           | refine convK_byte ?_
           | refine convK_u64 (by omega) ?_
           | refine convK_u16 (by omega) ?_
           | refine convK_u32 (by omega) ?_
           | refine wrapK_byte ?_
           | refine wrapK_u64 (by omega) ?_
           | refine wrapK_u32 (by omega) ?_
           | refine wrapK_u16 (by omega) ?_
           | with_reducible refine natK_lit ?_
           | refine natK_of rfl ?_
           | refine natK_any ?_
           | refine quoK_i64 (by omega) ?_
           | refine quoK_u8 (by omega) ?_
           | refine quoK_u16 (by omega) ?_
           | refine remK_pos (by omega) ?_
           | refine headI_cons ?_
           | refine headS_cons ?_
           | refine headB_cons ?_
           | refine headV_cons ?_
           | refine headX_cons ?_
           | refine headI_u8 (by first | omega | (simp; omega)) (fun _ => ?_)
           | refine headI_ints (by first | omega | (simp; omega)) ?_
           | refine bytesK_map ?_
           | refine catK_nil ?_
           | refine catK_nil' ?_
           | refine catK_u8 ?_
           | refine catK_one ?_
           | refine catK_lit (by omega) ?_
           | refine catK_ints ?_
           | refine catK_int1 ?_
           | refine packK_u8 ?_
           | refine packK_0 ?_
           | refine packK_1 (by omega) ?_
           | refine packK_2 (by omega) (by omega) ?_
           | refine packK_3 (by omega) (by omega) (by omega) ?_
           | refine packK_4 (by omega) (by omega) (by omega) (by omega) ?_
           | refine packK_any ?_
           | refine shrK_8 0 (by omega) rfl (by omega) ?_
           | refine shrK_8 1 (by omega) rfl (by omega) ?_
           | refine shrK_8 2 (by omega) rfl (by omega) ?_
           | refine shrK_8 3 (by omega) rfl (by omega) ?_
           | refine shlK_8 (by omega) (by omega) ?_
           | refine bitK_or8 (by omega) (by omega) ?_
           | refine nilK_no (by omega) ?_
           | refine takeC_u8 ?_
           | refine dropC_u8 ?_
           | refine dropC_zero ?_
           | refine takeC_any ?_
           | refine dropC_any ?_
           | refine catK_any ?_
           | refine eitherK_l ?_
           | refine nlK_sl ?_
           | refine sideK_intro (by first | omega | rfl | exact Nat.le_of_ble_eq_true rfl | (refine ⟨?_, ?_⟩ <;> first | omega | (simp; done) | (simp; omega)) | (simp; done) | (simp; omega) | (exact congrArg (fun x => [L.b x]) (decide_eq_decide.mpr (by omega))) | (exact congrArg (fun x => [L.b x]) (Eq.symm (decide_eq_true (by omega)))) | (exact congrArg (fun x => [L.b x]) (Eq.symm (decide_eq_false (by omega))))) ?_
           | refine drawK_intro (by kernel_rfl) (by kernel_rfl) ?_)) <;> (try (conv => whnf))
theorem c_boxMake (kd k : Int) (hk : 0 ≤ k ∧ k ≤ 18446744073709551615) (b : List UInt8) {m : Nat} (hm : m = b.length) (hb : b.length ≤ 900000) : Fn Try.prog 84 [.o (.i .i64 kd), .o (.i .u64 k), .o (.sl (b.map u8) m)] [] (.tup [.fr ((makeS kd k b).1.map u8) (makeS kd k b).1.length 1, .c (.o (.i .i64 (makeS kd k b).2))]) [] := by
  subst hm
  have h4 := @makeS_4 kd k b
  have h10 := @makeS_10 kd k b
  have h5 := @makeS_5 kd k b
  have h0 := @makeS_ok kd k b
  rw [boxB] at h0
  refine Fn_intro (G := g84) (goodA rfl) (fn := Try.f84) rfl rfl rfl rfl rfl ?_
  have qk := byte_lt (byteOf kd)
  generalize makeS kd k b = R at *
  (repeat' ((conv => whnf) <;>
           first
           | exact rfl
           | with_reducible refine boolK_dec (fun _ => ?_) (fun _ => ?_) <;> try (exfalso; omega)
           | refine boolK_beq (fun _ => ?_) (fun _ => ?_) <;> try (exfalso; first | omega | contradiction)
           | refine boolK_bne (fun _ => ?_) (fun _ => ?_) <;> try (exfalso; first | omega | contradiction)
           | with_reducible refine boolK_not ?_
           | with_reducible refine boolK_and ?_
           | with_reducible refine boolK_or ?_
           | with_reducible refine boolK_true ?_
           | with_reducible refine boolK_false ?_
           | refine boolK_intro (fun _ => ?_) (fun _ => ?_) <;> try (exfalso; simp_all; done)
           | refine wrapK_i64 (by omega) ?_
           | refine wrapK_u8 (by omega) ?_
           | refine convK_i64 (by omega) ?_
           | refine convK_byte ?_
           | refine convK_u64 (by omega) ?_
           | refine convK_u16 (by omega) ?_
           | refine convK_u32 (by omega) ?_
           | refine wrapK_byte ?_
           | refine wrapK_u64 (by omega) ?_
           | refine wrapK_u32 (by omega) ?_
           | refine wrapK_u16 (by omega) ?_
           | with_reducible refine natK_lit ?_
           | refine natK_of rfl ?_
           | refine natK_any ?_
           | refine quoK_i64 (by omega) ?_
           | refine quoK_u8 (by omega) ?_
           | refine quoK_u16 (by omega) ?_
           | refine remK_pos (by omega) ?_
           | refine headI_cons ?_
           | refine headS_cons ?_
           | refine headB_cons ?_
           | refine headV_cons ?_
           | refine headX_cons ?_
           | refine headI_u8 (by first | omega | (simp; omega)) (fun _ => ?_)
           | refine headI_ints (by first | omega | (simp; omega)) ?_
           | refine bytesK_map ?_
           | refine catK_nil ?_
           | refine catK_nil' ?_
           | refine catK_u8 ?_
           | refine catK_one ?_
           | refine catK_lit (by omega) ?_
           | refine catK_ints ?_
           | refine catK_int1 ?_
           | refine packK_u8 ?_
           | refine packK_0 ?_
           | refine packK_1 (by omega) ?_
           | refine packK_2 (by omega) (by omega) ?_
           | refine packK_3 (by omega) (by omega) (by omega) ?_
           | refine packK_4 (by omega) (by omega) (by omega) (by omega) ?_
           | refine packK_any ?_
           | refine shrK_8 0 (by omega) rfl (by omega) ?_
           | refine shrK_8 1 (by omega) rfl (by omega) ?_
           | refine shrK_8 2 (by omega) rfl (by omega) ?_
           | refine shrK_8 3 (by omega) rfl (by omega) ?_
           | refine shlK_8 (by omega) (by omega) ?_
           | refine bitK_or8 (by omega) (by omega) ?_
           | refine nilK_no (by omega) ?_
           | refine takeC_u8 ?_
           | refine dropC_u8 ?_
           | refine dropC_zero ?_
           | refine takeC_any ?_
           | refine dropC_any ?_
           | refine callK_intro (c_isKind _) ?_
           | refine callK_intro (c_keyValid _ hk) ?_
           | refine callK_intro (c_keyBytes _ hk) ?_
           | refine catK_any ?_
           | refine eitherK_l ?_
           | refine nlK_sl ?_
           | refine sideK_intro (by first | omega | rfl | exact Nat.le_of_ble_eq_true rfl | (refine ⟨?_, ?_⟩ <;> first | omega | (simp; done) | (simp; omega)) | (simp; done) | (simp; omega) | (exact ⟨by decide, rfl⟩) | first | (rw [h4 (by omega)]; done) | (rw [h4 (by omega)]; rfl) | (rw [h4 (by omega)]; exact ⟨rfl, rfl⟩) | (rw [h4 (by omega)]; exact ⟨rfl, rfl, rfl⟩) | first | (rw [h10 (by omega) (by assumption)]; done) | (rw [h10 (by omega) (by assumption)]; rfl) | (rw [h10 (by omega) (by assumption)]; exact ⟨rfl, rfl⟩) | (rw [h10 (by omega) (by assumption)]; exact ⟨rfl, rfl, rfl⟩) | first | (rw [h5 (by omega) (by assumption) (by omega)]; done) | (rw [h5 (by omega) (by assumption) (by omega)]; rfl) | (rw [h5 (by omega) (by assumption) (by omega)]; exact ⟨rfl, rfl⟩) | (rw [h5 (by omega) (by assumption) (by omega)]; exact ⟨rfl, rfl, rfl⟩) | first | (rw [h0 (by omega) (by assumption) (by omega)]; done) | (rw [h0 (by omega) (by assumption) (by omega)]; rfl) | (rw [h0 (by omega) (by assumption) (by omega)]; exact ⟨rfl, rfl⟩) | (rw [h0 (by omega) (by assumption) (by omega)]; exact ⟨rfl, rfl, rfl⟩) | (rw [h0 (by omega) (by assumption) (by omega)]; refine ⟨?_, ?_, rfl⟩; (simp [byteOf_u8, digit, keyB_len]; exact ⟨rfl, rfl, rfl⟩); (simp [keyB_len]; omega))) ?_
           | refine drawK_intro (by kernel_rfl) (by kernel_rfl) ?_)) <;> (try (conv => whnf))
theorem c_rboxMake (kd k : Int) (hk : 0 ≤ k ∧ k ≤ 18446744073709551615) (b : List UInt8) {m : Nat} (hm : m = b.length) (hb : b.length ≤ 900000) : Fn Try.prog 86 [.o (.i .i64 kd), .o (.i .u64 k), .o (.sl (b.map u8) m)] [] (.tup [.fr ((makeS kd k b).1.map u8) (makeS kd k b).1.length 1, .c (.o (.i .i64 (makeS kd k b).2))]) [] := by
  subst hm
  have h4 := @makeS_4 kd k b
  have h10 := @makeS_10 kd k b
  have h5 := @makeS_5 kd k b
  have h0 := @makeS_ok kd k b
  rw [boxB] at h0
  refine Fn_intro (G := g86) (goodA rfl) (fn := Try.f86) rfl rfl rfl rfl rfl ?_
  have qk := byte_lt (byteOf kd)
  generalize makeS kd k b = R at *
  (repeat' ((conv => whnf) <;>
           first
           | exact rfl
           | with_reducible refine boolK_dec (fun _ => ?_) (fun _ => ?_) <;> try (exfalso; omega)
           | refine boolK_beq (fun _ => ?_) (fun _ => ?_) <;> try (exfalso; first | omega | contradiction)
           | refine boolK_bne (fun _ => ?_) (fun _ => ?_) <;> try (exfalso; first | omega | contradiction)
           | with_reducible refine boolK_not ?_
           | with_reducible refine boolK_and ?_
           | with_reducible refine boolK_or ?_
           | with_reducible refine boolK_true ?_
           | with_reducible refine boolK_false ?_
           | refine boolK_intro (fun _ => ?_) (fun _ => ?_) <;> try (exfalso; simp_all; done)
           | refine wrapK_i64 (by omega) ?_
           | refine wrapK_u8 (by omega) ?_
           | refine convK_i64 (by omega) ?_
           | refine convK_byte ?_
           | refine convK_u64 (by omega) ?_
           | refine convK_u16 (by omega) ?_
           | refine convK_u32 (by omega) ?_
           | refine wrapK_byte ?_
           | refine wrapK_u64 (by omega) ?_
           | refine wrapK_u32 (by omega) ?_
           | refine wrapK_u16 (by omega) ?_
           | with_reducible refine natK_lit ?_
           | refine natK_of rfl ?_
           | refine natK_any ?_
           | refine quoK_i64 (by omega) ?_
           | refine quoK_u8 (by omega) ?_
           | refine quoK_u16 (by omega) ?_
           | refine remK_pos (by omega) ?_
           | refine headI_cons ?_
           | refine headS_cons ?_
           | refine headB_cons ?_
           | refine headV_cons ?_
           | refine headX_cons ?_
           | refine headI_u8 (by first | omega | (simp; omega)) (fun _ => ?_)
           | refine headI_ints (by first | omega | (simp; omega)) ?_
           | refine bytesK_map ?_
           | refine catK_nil ?_
           | refine catK_nil' ?_
           | refine catK_u8 ?_
           | refine catK_one ?_
           | refine catK_lit (by omega) ?_
           | refine catK_ints ?_
           | refine catK_int1 ?_
           | refine packK_u8 ?_
           | refine packK_0 ?_
           | refine packK_1 (by omega) ?_
           | refine packK_2 (by omega) (by omega) ?_
           | refine packK_3 (by omega) (by omega) (by omega) ?_
           | refine packK_4 (by omega) (by omega) (by omega) (by omega) ?_
           | refine packK_any ?_
           | refine shrK_8 0 (by omega) rfl (by omega) ?_
           | refine shrK_8 1 (by omega) rfl (by omega) ?_
           | refine shrK_8 2 (by omega) rfl (by omega) ?_
           | refine shrK_8 3 (by omega) rfl (by omega) ?_
           | refine shlK_8 (by omega) (by omega) ?_
           | refine bitK_or8 (by omega) (by omega) ?_
           | refine nilK_no (by omega) ?_
           | refine takeC_u8 ?_
           | refine dropC_u8 ?_
           | refine dropC_zero ?_
           | refine takeC_any ?_
           | refine dropC_any ?_
           | refine callK_intro (c_rkeyValid _ hk) ?_
           | refine callK_intro (c_rkeyBytes _ hk) ?_
           | refine catK_any ?_
           | refine eitherK_l ?_
           | refine nlK_sl ?_
           | refine sideK_intro (by first | omega | rfl | exact Nat.le_of_ble_eq_true rfl | (refine ⟨?_, ?_⟩ <;> first | omega | (simp; done) | (simp; omega)) | (simp; done) | (simp; omega) | (exact ⟨by decide, rfl⟩) | first | (rw [h4 (by omega)]; done) | (rw [h4 (by omega)]; rfl) | (rw [h4 (by omega)]; exact ⟨rfl, rfl⟩) | (rw [h4 (by omega)]; exact ⟨rfl, rfl, rfl⟩) | first | (rw [h10 (by omega) (by assumption)]; done) | (rw [h10 (by omega) (by assumption)]; rfl) | (rw [h10 (by omega) (by assumption)]; exact ⟨rfl, rfl⟩) | (rw [h10 (by omega) (by assumption)]; exact ⟨rfl, rfl, rfl⟩) | first | (rw [h5 (by omega) (by assumption) (by omega)]; done) | (rw [h5 (by omega) (by assumption) (by omega)]; rfl) | (rw [h5 (by omega) (by assumption) (by omega)]; exact ⟨rfl, rfl⟩) | (rw [h5 (by omega) (by assumption) (by omega)]; exact ⟨rfl, rfl, rfl⟩) | first | (rw [h0 (by omega) (by assumption) (by omega)]; done) | (rw [h0 (by omega) (by assumption) (by omega)]; rfl) | (rw [h0 (by omega) (by assumption) (by omega)]; exact ⟨rfl, rfl⟩) | (rw [h0 (by omega) (by assumption) (by omega)]; exact ⟨rfl, rfl, rfl⟩) | (rw [h0 (by omega) (by assumption) (by omega)]; refine ⟨?_, ?_, rfl⟩; (simp [byteOf_u8, digit, keyB_len]; exact ⟨rfl, rfl, rfl⟩); (simp [keyB_len]; omega))) ?_
           | refine drawK_intro (by kernel_rfl) (by kernel_rfl) ?_)) <;> (try (conv => whnf))
theorem c_boxRead (b : List UInt8) {m : Nat} (hm : m = b.length) (hb : b.length ≤ 900000) : Fn Try.prog 152 [.o (.sl (b.map u8) m)] [] (.tup [.c (.a [.i .i64 (boxR b).1.1, .i .u64 (boxR b).1.2.1, .sl ((boxR b).1.2.2.map u8) (boxR b).1.2.2.length]), .c (.o (.i .i64 (boxR b).2.1)), .c (.o (.i .i64 (boxR b).2.2))]) [] := by
  subst hm
  have hs := @boxR_short b
  have hd := @boxR_bad b
  have he := @boxR_end b
  have h0 := @boxR_ok b
  have hN : boxN b = ((b.getD 10 0).toNat : Int) * 256 + ((b.getD 11 0).toNat : Int) := rfl
  have cK := c_keyRead ((b.take 10).drop 2) rfl (by simp; omega)
  rw [show readK ((b.take 10).drop 2) = boxK b from rfl] at cK
  refine Fn_intro (G := g152) (goodA rfl) (fn := Try.f152) rfl rfl rfl rfl rfl ?_
  generalize boxR b = R at *
  generalize boxK b = K at *
  by_cases hl : b.length < 12
  · (repeat' ((conv => whnf) <;>
           first
           | exact rfl
           | with_reducible refine boolK_dec (fun _ => ?_) (fun _ => ?_) <;> try (exfalso; omega)
           | refine boolK_beq (fun _ => ?_) (fun _ => ?_) <;> try (exfalso; first | omega | contradiction)
           | refine boolK_bne (fun _ => ?_) (fun _ => ?_) <;> try (exfalso; first | omega | contradiction)
           | with_reducible refine boolK_not ?_
           | with_reducible refine boolK_and ?_
           | with_reducible refine boolK_or ?_
           | with_reducible refine boolK_true ?_
           | with_reducible refine boolK_false ?_
           | refine boolK_intro (fun _ => ?_) (fun _ => ?_) <;> try (exfalso; simp_all; done)
           | refine wrapK_i64 (by omega) ?_
           | refine wrapK_u8 (by omega) ?_
           | refine convK_i64 (by omega) ?_
           | refine convK_byte ?_
           | refine convK_u64 (by omega) ?_
           | refine convK_u16 (by omega) ?_
           | refine convK_u32 (by omega) ?_
           | refine wrapK_byte ?_
           | refine wrapK_u64 (by omega) ?_
           | refine wrapK_u32 (by omega) ?_
           | refine wrapK_u16 (by omega) ?_
           | with_reducible refine natK_lit ?_
           | refine natK_of rfl ?_
           | refine natK_any ?_
           | refine quoK_i64 (by omega) ?_
           | refine quoK_u8 (by omega) ?_
           | refine quoK_u16 (by omega) ?_
           | refine remK_pos (by omega) ?_
           | refine headI_cons ?_
           | refine headS_cons ?_
           | refine headB_cons ?_
           | refine headV_cons ?_
           | refine headX_cons ?_
           | refine headI_u8 (by first | omega | (simp; omega)) (fun _ => ?_)
           | refine headI_ints (by first | omega | (simp; omega)) ?_
           | refine bytesK_map ?_
           | refine catK_nil ?_
           | refine catK_nil' ?_
           | refine catK_u8 ?_
           | refine catK_one ?_
           | refine catK_lit (by omega) ?_
           | refine catK_ints ?_
           | refine catK_int1 ?_
           | refine packK_u8 ?_
           | refine packK_0 ?_
           | refine packK_1 (by omega) ?_
           | refine packK_2 (by omega) (by omega) ?_
           | refine packK_3 (by omega) (by omega) (by omega) ?_
           | refine packK_4 (by omega) (by omega) (by omega) (by omega) ?_
           | refine packK_any ?_
           | refine shrK_8 0 (by omega) rfl (by omega) ?_
           | refine shrK_8 1 (by omega) rfl (by omega) ?_
           | refine shrK_8 2 (by omega) rfl (by omega) ?_
           | refine shrK_8 3 (by omega) rfl (by omega) ?_
           | refine shlK_8 (by omega) (by omega) ?_
           | refine bitK_or8 (by omega) (by omega) ?_
           | refine nilK_no (by omega) ?_
           | refine takeC_u8 ?_
           | refine dropC_u8 ?_
           | refine dropC_zero ?_
           | refine takeC_any ?_
           | refine dropC_any ?_
           | refine catK_any ?_
           | refine eitherK_l ?_
           | refine nlK_sl ?_
           | refine sideK_intro (by first | omega | rfl | exact Nat.le_of_ble_eq_true rfl | (refine ⟨?_, ?_⟩ <;> first | omega | (simp; done) | (simp; omega)) | (simp; done) | (simp; omega) | first | (rw [hs hl]; done) | (rw [hs hl]; rfl) | (rw [hs hl]; exact ⟨rfl, rfl⟩) | (rw [hs hl]; exact ⟨rfl, rfl, rfl⟩)) ?_
           | refine drawK_intro (by kernel_rfl) (by kernel_rfl) ?_)) <;> (try (conv => whnf))
  · have el : ((b.take 10).drop 2).length = 8 := by simp; omega
    rw [el] at cK
    have q10 := byte_lt (b.getD 10 0)
    have q11 := byte_lt (b.getD 11 0)
    have hd2 : K.2 = false → R = ((0, 0, []), 0, 100) := fun hk => hd hl (fun hh => by rw [hk] at hh; exact absurd hh.2.2.1 (by decide))
    have hlen : ∀ (n : Nat), (12 + (n : Int)) ≤ (b.length : Int) → (12 + n) - 12 = ((b.take (12 + n)).drop 12).length := fun n h => by simp only [List.length_drop, List.length_take]; omega
    have hfin : ¬ ((b.length : Int) < 12 + boxN b) → ((b.getD 0 0).toNat : Int) = 66 → (1 ≤ ((b.getD 1 0).toNat : Int) ∧ ((b.getD 1 0).toNat : Int) ≤ 10) → K.2 = true → boxN b ≤ 1000 → [L.i .i64 ((b.getD 1 0).toNat : Int), L.i .u64 K.1, L.sl (((b.take (12 + ((b.getD 10 0).toNat * 256 + (b.getD 11 0).toNat))).drop 12).map u8) ((b.take (12 + ((b.getD 10 0).toNat * 256 + (b.getD 11 0).toNat))).drop 12).length] = [L.i .i64 R.1.1, L.i .u64 R.1.2.1, L.sl (R.1.2.2.map u8) R.1.2.2.length] := fun k1 k2 k3 k4 k5 => by
      rw [h0 hl k2 k3 k4 k5 k1, show (12 + boxN b).toNat = 12 + ((b.getD 10 0).toNat * 256 + (b.getD 11 0).toNat) by omega]
    (repeat' ((conv => whnf) <;>
           first
           | with_reducible refine boolK_intro (x := K.2) (fun _ => ?_) (fun _ => ?_)
           | exact rfl
           | with_reducible refine boolK_dec (fun _ => ?_) (fun _ => ?_) <;> try (exfalso; omega)
           | refine boolK_beq (fun _ => ?_) (fun _ => ?_) <;> try (exfalso; first | omega | contradiction)
           | refine boolK_bne (fun _ => ?_) (fun _ => ?_) <;> try (exfalso; first | omega | contradiction)
           | with_reducible refine boolK_not ?_
           | with_reducible refine boolK_and ?_
           | with_reducible refine boolK_or ?_
           | with_reducible refine boolK_true ?_
           | with_reducible refine boolK_false ?_
           | refine boolK_intro (fun _ => ?_) (fun _ => ?_) <;> try (exfalso; simp_all; done)
           | refine wrapK_i64 (by omega) ?_
           | refine wrapK_u8 (by omega) ?_
           | refine convK_i64 (by omega) ?_
           | refine convK_byte ?_
           | refine convK_u64 (by omega) ?_
           | refine convK_u16 (by omega) ?_
           | refine convK_u32 (by omega) ?_
           | refine wrapK_byte ?_
           | refine wrapK_u64 (by omega) ?_
           | refine wrapK_u32 (by omega) ?_
           | refine wrapK_u16 (by omega) ?_
           | with_reducible refine natK_lit ?_
           | refine natK_of rfl ?_
           | refine natK_any ?_
           | refine quoK_i64 (by omega) ?_
           | refine quoK_u8 (by omega) ?_
           | refine quoK_u16 (by omega) ?_
           | refine remK_pos (by omega) ?_
           | refine headI_cons ?_
           | refine headS_cons ?_
           | refine headB_cons ?_
           | refine headV_cons ?_
           | refine headX_cons ?_
           | refine headI_u8 (by first | omega | (simp; omega)) (fun _ => ?_)
           | refine headI_ints (by first | omega | (simp; omega)) ?_
           | refine bytesK_map ?_
           | refine catK_nil ?_
           | refine catK_nil' ?_
           | refine catK_u8 ?_
           | refine catK_one ?_
           | refine catK_lit (by omega) ?_
           | refine catK_ints ?_
           | refine catK_int1 ?_
           | refine packK_u8 ?_
           | refine packK_0 ?_
           | refine packK_1 (by omega) ?_
           | refine packK_2 (by omega) (by omega) ?_
           | refine packK_3 (by omega) (by omega) (by omega) ?_
           | refine packK_4 (by omega) (by omega) (by omega) (by omega) ?_
           | refine packK_any ?_
           | refine shrK_8 0 (by omega) rfl (by omega) ?_
           | refine shrK_8 1 (by omega) rfl (by omega) ?_
           | refine shrK_8 2 (by omega) rfl (by omega) ?_
           | refine shrK_8 3 (by omega) rfl (by omega) ?_
           | refine shlK_8 (by omega) (by omega) ?_
           | refine bitK_or8 (by omega) (by omega) ?_
           | refine nilK_no (by omega) ?_
           | refine takeC_u8 ?_
           | refine dropC_u8 ?_
           | refine dropC_zero ?_
           | refine takeC_any ?_
           | refine dropC_any ?_
           | refine callK_intro (cK) ?_
           | refine callK_intro (c_isKind _) ?_
           | refine callK_intro (c_clone _ (by simp only [List.length_drop, List.length_take]; omega) (by simp only [List.length_drop, List.length_take]; omega)) ?_
           | refine catK_any ?_
           | refine eitherK_l ?_
           | refine nlK_sl ?_
           | refine sideK_intro (by first | omega | rfl | exact Nat.le_of_ble_eq_true rfl | (refine ⟨?_, ?_⟩ <;> first | omega | (simp; done) | (simp; omega)) | (simp; done) | (simp; omega) | (exact hfin (by omega) (by omega) (by omega) (by assumption) (by omega)) | first | (rw [h0 hl (by omega) (by omega) (by assumption) (by omega) (by omega)]; done) | (rw [h0 hl (by omega) (by omega) (by assumption) (by omega) (by omega)]; rfl) | (rw [h0 hl (by omega) (by omega) (by assumption) (by omega) (by omega)]; exact ⟨rfl, rfl⟩) | (rw [h0 hl (by omega) (by omega) (by assumption) (by omega) (by omega)]; exact ⟨rfl, rfl, rfl⟩) | first | (rw [hd2 (by assumption)]; done) | (rw [hd2 (by assumption)]; rfl) | (rw [hd2 (by assumption)]; exact ⟨rfl, rfl⟩) | (rw [hd2 (by assumption)]; exact ⟨rfl, rfl, rfl⟩) | first | (rw [hd hl (by omega)]; done) | (rw [hd hl (by omega)]; rfl) | (rw [hd hl (by omega)]; exact ⟨rfl, rfl⟩) | (rw [hd hl (by omega)]; exact ⟨rfl, rfl, rfl⟩) | first | (rw [he hl (by omega) (by omega) (by assumption) (by omega) (by omega)]; done) | (rw [he hl (by omega) (by omega) (by assumption) (by omega) (by omega)]; rfl) | (rw [he hl (by omega) (by omega) (by assumption) (by omega) (by omega)]; exact ⟨rfl, rfl⟩) | (rw [he hl (by omega) (by omega) (by assumption) (by omega) (by omega)]; exact ⟨rfl, rfl, rfl⟩) | (rw [h0 hl (by omega) (by omega) (by assumption) (by omega) (by omega), hN]; done) | (rw [h0 hl (by omega) (by omega) (by assumption) (by omega) (by omega), hN]; refine ⟨?_, rfl, rfl⟩; rfl)) ?_
           | refine drawK_intro (by kernel_rfl) (by kernel_rfl) ?_)) <;> (try (conv => whnf))
theorem box_cells {b : List UInt8} {n : Nat} {N : Int} (hN : N = n) (h : ¬ (b.length : Int) < 12 + N) {k l : L} : [k, l, L.sl (((b.take (12 + n)).drop 12).map u8) (0 + (12 + n - 12))] = [k, l, L.sl (((b.take (12 + N).toNat).drop 12).map u8) ((b.take (12 + N).toNat).drop 12).length] := by
  subst hN
  rw [show (12 + (n : Int)).toNat = 12 + n by omega]
  have : 0 + (12 + n - 12) = ((b.take (12 + n)).drop 12).length := by simp only [List.length_drop, List.length_take]; omega
  rw [this]
theorem c_rboxRead (b : List UInt8) {m : Nat} (hm : m = b.length) (hb : b.length ≤ 900000) : Fn Try.prog 154 [.o (.sl (b.map u8) m)] [] (.tup [.c (.a [.i .i64 (boxR b).1.1, .i .u64 (boxR b).1.2.1, .sl ((boxR b).1.2.2.map u8) (boxR b).1.2.2.length]), .c (.o (.i .i64 (boxR b).2.1)), .c (.o (.i .i64 (boxR b).2.2))]) [] := by
  subst hm
  have hs := @boxR_short b
  have hd := @boxR_bad b
  have he := @boxR_end b
  have h0 := @boxR_ok b
  have hN : boxN b = ((b.getD 10 0).toNat : Int) * 256 + ((b.getD 11 0).toNat : Int) := rfl
  have cK := c_rkeyRead ((b.take 10).drop 2) rfl (by simp; omega)
  rw [show readK ((b.take 10).drop 2) = boxK b from rfl] at cK
  refine Fn_intro (G := g154) (goodA rfl) (fn := Try.f154) rfl rfl rfl rfl rfl ?_
  generalize boxR b = R at *
  generalize boxK b = K at *
  by_cases hl : b.length < 12
  · (repeat' ((conv => whnf) <;>
           first
           | exact rfl
           | with_reducible refine boolK_dec (fun _ => ?_) (fun _ => ?_) <;> try (exfalso; omega)
           | refine boolK_beq (fun _ => ?_) (fun _ => ?_) <;> try (exfalso; first | omega | contradiction)
           | refine boolK_bne (fun _ => ?_) (fun _ => ?_) <;> try (exfalso; first | omega | contradiction)
           | with_reducible refine boolK_not ?_
           | with_reducible refine boolK_and ?_
           | with_reducible refine boolK_or ?_
           | with_reducible refine boolK_true ?_
           | with_reducible refine boolK_false ?_
           | refine boolK_intro (fun _ => ?_) (fun _ => ?_) <;> try (exfalso; simp_all; done)
           | refine wrapK_i64 (by omega) ?_
           | refine wrapK_u8 (by omega) ?_
           | refine convK_i64 (by omega) ?_
           | refine convK_byte ?_
           | refine convK_u64 (by omega) ?_
           | refine convK_u16 (by omega) ?_
           | refine convK_u32 (by omega) ?_
           | refine wrapK_byte ?_
           | refine wrapK_u64 (by omega) ?_
           | refine wrapK_u32 (by omega) ?_
           | refine wrapK_u16 (by omega) ?_
           | with_reducible refine natK_lit ?_
           | refine natK_of rfl ?_
           | refine natK_any ?_
           | refine quoK_i64 (by omega) ?_
           | refine quoK_u8 (by omega) ?_
           | refine quoK_u16 (by omega) ?_
           | refine remK_pos (by omega) ?_
           | refine headI_cons ?_
           | refine headS_cons ?_
           | refine headB_cons ?_
           | refine headV_cons ?_
           | refine headX_cons ?_
           | refine headI_u8 (by first | omega | (simp; omega)) (fun _ => ?_)
           | refine headI_ints (by first | omega | (simp; omega)) ?_
           | refine bytesK_map ?_
           | refine catK_nil ?_
           | refine catK_nil' ?_
           | refine catK_u8 ?_
           | refine catK_one ?_
           | refine catK_lit (by omega) ?_
           | refine catK_ints ?_
           | refine catK_int1 ?_
           | refine packK_u8 ?_
           | refine packK_0 ?_
           | refine packK_1 (by omega) ?_
           | refine packK_2 (by omega) (by omega) ?_
           | refine packK_3 (by omega) (by omega) (by omega) ?_
           | refine packK_4 (by omega) (by omega) (by omega) (by omega) ?_
           | refine packK_any ?_
           | refine shrK_8 0 (by omega) rfl (by omega) ?_
           | refine shrK_8 1 (by omega) rfl (by omega) ?_
           | refine shrK_8 2 (by omega) rfl (by omega) ?_
           | refine shrK_8 3 (by omega) rfl (by omega) ?_
           | refine shlK_8 (by omega) (by omega) ?_
           | refine bitK_or8 (by omega) (by omega) ?_
           | refine nilK_no (by omega) ?_
           | refine takeC_u8 ?_
           | refine dropC_u8 ?_
           | refine dropC_zero ?_
           | refine takeC_any ?_
           | refine dropC_any ?_
           | refine catK_any ?_
           | refine eitherK_l ?_
           | refine nlK_sl ?_
           | refine sideK_intro (by first | omega | rfl | exact Nat.le_of_ble_eq_true rfl | (refine ⟨?_, ?_⟩ <;> first | omega | (simp; done) | (simp; omega)) | (simp; done) | (simp; omega) | first | (rw [hs hl]; done) | (rw [hs hl]; rfl) | (rw [hs hl]; exact ⟨rfl, rfl⟩) | (rw [hs hl]; exact ⟨rfl, rfl, rfl⟩)) ?_
           | refine drawK_intro (by kernel_rfl) (by kernel_rfl) ?_)) <;> (try (conv => whnf))
  · have el : ((b.take 10).drop 2).length = 8 := by simp; omega
    rw [el] at cK
    have q10 := byte_lt (b.getD 10 0)
    have q11 := byte_lt (b.getD 11 0)
    have hd2 : K.2 = false → R = ((0, 0, []), 0, 100) := fun hk => hd hl (fun hh => by rw [hk] at hh; exact absurd hh.2.2.1 (by decide))
    have hfin : ¬ ((b.length : Int) < 12 + boxN b) → ((b.getD 0 0).toNat : Int) = 66 → (1 ≤ ((b.getD 1 0).toNat : Int) ∧ ((b.getD 1 0).toNat : Int) ≤ 10) → K.2 = true → boxN b ≤ 1000 → [L.i .i64 ((b.getD 1 0).toNat : Int), L.i .u64 K.1, L.sl (((b.take (12 + ((b.getD 10 0).toNat * 256 + (b.getD 11 0).toNat))).drop 12).map u8) (0 + (12 + ((b.getD 10 0).toNat * 256 + (b.getD 11 0).toNat) - 12))] = [L.i .i64 R.1.1, L.i .u64 R.1.2.1, L.sl (R.1.2.2.map u8) R.1.2.2.length] := fun k1 k2 k3 k4 k5 => by
      rw [h0 hl k2 k3 k4 k5 k1]
      exact box_cells (by omega) k1
    (repeat' ((conv => whnf) <;>
           first
           | with_reducible refine boolK_intro (x := K.2) (fun _ => ?_) (fun _ => ?_)
           | exact rfl
           | with_reducible refine boolK_dec (fun _ => ?_) (fun _ => ?_) <;> try (exfalso; omega)
           | refine boolK_beq (fun _ => ?_) (fun _ => ?_) <;> try (exfalso; first | omega | contradiction)
           | refine boolK_bne (fun _ => ?_) (fun _ => ?_) <;> try (exfalso; first | omega | contradiction)
           | with_reducible refine boolK_not ?_
           | with_reducible refine boolK_and ?_
           | with_reducible refine boolK_or ?_
           | with_reducible refine boolK_true ?_
           | with_reducible refine boolK_false ?_
           | refine boolK_intro (fun _ => ?_) (fun _ => ?_) <;> try (exfalso; simp_all; done)
           | refine wrapK_i64 (by omega) ?_
           | refine wrapK_u8 (by omega) ?_
           | refine convK_i64 (by omega) ?_
           | refine convK_byte ?_
           | refine convK_u64 (by omega) ?_
           | refine convK_u16 (by omega) ?_
           | refine convK_u32 (by omega) ?_
           | refine wrapK_byte ?_
           | refine wrapK_u64 (by omega) ?_
           | refine wrapK_u32 (by omega) ?_
           | refine wrapK_u16 (by omega) ?_
           | with_reducible refine natK_lit ?_
           | refine natK_of rfl ?_
           | refine natK_any ?_
           | refine quoK_i64 (by omega) ?_
           | refine quoK_u8 (by omega) ?_
           | refine quoK_u16 (by omega) ?_
           | refine remK_pos (by omega) ?_
           | refine headI_cons ?_
           | refine headS_cons ?_
           | refine headB_cons ?_
           | refine headV_cons ?_
           | refine headX_cons ?_
           | refine headI_u8 (by first | omega | (simp; omega)) (fun _ => ?_)
           | refine headI_ints (by first | omega | (simp; omega)) ?_
           | refine bytesK_map ?_
           | refine catK_nil ?_
           | refine catK_nil' ?_
           | refine catK_u8 ?_
           | refine catK_one ?_
           | refine catK_lit (by omega) ?_
           | refine catK_ints ?_
           | refine catK_int1 ?_
           | refine packK_u8 ?_
           | refine packK_0 ?_
           | refine packK_1 (by omega) ?_
           | refine packK_2 (by omega) (by omega) ?_
           | refine packK_3 (by omega) (by omega) (by omega) ?_
           | refine packK_4 (by omega) (by omega) (by omega) (by omega) ?_
           | refine packK_any ?_
           | refine shrK_8 0 (by omega) rfl (by omega) ?_
           | refine shrK_8 1 (by omega) rfl (by omega) ?_
           | refine shrK_8 2 (by omega) rfl (by omega) ?_
           | refine shrK_8 3 (by omega) rfl (by omega) ?_
           | refine shlK_8 (by omega) (by omega) ?_
           | refine bitK_or8 (by omega) (by omega) ?_
           | refine nilK_no (by omega) ?_
           | refine takeC_u8 ?_
           | refine dropC_u8 ?_
           | refine dropC_zero ?_
           | refine takeC_any ?_
           | refine dropC_any ?_
           | refine callK_intro (cK) ?_
           | refine catK_any ?_
           | refine eitherK_l ?_
           | refine nlK_sl ?_
           | refine sideK_intro (by first | omega | rfl | exact Nat.le_of_ble_eq_true rfl | (refine ⟨?_, ?_⟩ <;> first | omega | (simp; done) | (simp; omega)) | (simp; done) | (simp; omega) | (exact hfin (by omega) (by omega) (by omega) (by assumption) (by omega)) | first | (rw [h0 hl (by omega) (by omega) (by assumption) (by omega) (by omega)]; done) | (rw [h0 hl (by omega) (by omega) (by assumption) (by omega) (by omega)]; rfl) | (rw [h0 hl (by omega) (by omega) (by assumption) (by omega) (by omega)]; exact ⟨rfl, rfl⟩) | (rw [h0 hl (by omega) (by omega) (by assumption) (by omega) (by omega)]; exact ⟨rfl, rfl, rfl⟩) | (simp only [List.length_map, List.length_drop, List.length_take]; omega) | first | (rw [hd2 (by assumption)]; done) | (rw [hd2 (by assumption)]; rfl) | (rw [hd2 (by assumption)]; exact ⟨rfl, rfl⟩) | (rw [hd2 (by assumption)]; exact ⟨rfl, rfl, rfl⟩) | first | (rw [hd hl (by omega)]; done) | (rw [hd hl (by omega)]; rfl) | (rw [hd hl (by omega)]; exact ⟨rfl, rfl⟩) | (rw [hd hl (by omega)]; exact ⟨rfl, rfl, rfl⟩) | first | (rw [he hl (by omega) (by omega) (by assumption) (by omega) (by omega)]; done) | (rw [he hl (by omega) (by omega) (by assumption) (by omega) (by omega)]; rfl) | (rw [he hl (by omega) (by omega) (by assumption) (by omega) (by omega)]; exact ⟨rfl, rfl⟩) | (rw [he hl (by omega) (by omega) (by assumption) (by omega) (by omega)]; exact ⟨rfl, rfl, rfl⟩) | (rw [h0 hl (by omega) (by omega) (by assumption) (by omega) (by omega), hN]; done) | (rw [h0 hl (by omega) (by omega) (by assumption) (by omega) (by omega), hN]; refine ⟨?_, rfl, rfl⟩; rfl) | (rw [h0 hl (by omega) (by omega) (by assumption) (by omega) (by omega)]; exact box_cells (by omega) (by omega))) ?_
           | refine drawK_intro (by kernel_rfl) (by kernel_rfl) ?_)) <;> (try (conv => whnf))
theorem c_boxOpen (b : List UInt8) {m : Nat} (hm : m = b.length) (hb : b.length ≤ 900000) (kd k : Int) : Fn Try.prog 87 [.o (.sl (b.map u8) m), .o (.i .i64 kd), .o (.i .u64 k)] [] (.tup [.c (.o (.sl ((boxO b kd k).1.map u8) (boxO b kd k).1.length)), .c (.o (.b (boxO b kd k).2))]) [] := by
  subst hm
  have hy := @boxO_yes b kd k
  have hn := @boxO_no b kd k
  have cR := c_boxRead b rfl hb
  refine Fn_intro (G := g87) (goodA rfl) (fn := Try.f87) rfl rfl rfl rfl rfl ?_
  generalize boxO b kd k = O at *
  generalize boxR b = R at *
  (repeat' ((conv => whnf) <;>
           first
           | exact rfl
           | with_reducible refine boolK_dec (fun _ => ?_) (fun _ => ?_) <;> try (exfalso; omega)
           | refine boolK_beq (fun _ => ?_) (fun _ => ?_) <;> try (exfalso; first | omega | contradiction)
           | refine boolK_bne (fun _ => ?_) (fun _ => ?_) <;> try (exfalso; first | omega | contradiction)
           | with_reducible refine boolK_not ?_
           | with_reducible refine boolK_and ?_
           | with_reducible refine boolK_or ?_
           | with_reducible refine boolK_true ?_
           | with_reducible refine boolK_false ?_
           | refine boolK_intro (fun _ => ?_) (fun _ => ?_) <;> try (exfalso; simp_all; done)
           | refine wrapK_i64 (by omega) ?_
           | refine wrapK_u8 (by omega) ?_
           | refine convK_i64 (by omega) ?_
           | refine convK_byte ?_
           | refine convK_u64 (by omega) ?_
           | refine convK_u16 (by omega) ?_
           | refine convK_u32 (by omega) ?_
           | refine wrapK_byte ?_
           | refine wrapK_u64 (by omega) ?_
           | refine wrapK_u32 (by omega) ?_
           | refine wrapK_u16 (by omega) ?_
           | with_reducible refine natK_lit ?_
           | refine natK_of rfl ?_
           | refine natK_any ?_
           | refine quoK_i64 (by omega) ?_
           | refine quoK_u8 (by omega) ?_
           | refine quoK_u16 (by omega) ?_
           | refine remK_pos (by omega) ?_
           | refine headI_cons ?_
           | refine headS_cons ?_
           | refine headB_cons ?_
           | refine headV_cons ?_
           | refine headX_cons ?_
           | refine headI_u8 (by first | omega | (simp; omega)) (fun _ => ?_)
           | refine headI_ints (by first | omega | (simp; omega)) ?_
           | refine bytesK_map ?_
           | refine catK_nil ?_
           | refine catK_nil' ?_
           | refine catK_u8 ?_
           | refine catK_one ?_
           | refine catK_lit (by omega) ?_
           | refine catK_ints ?_
           | refine catK_int1 ?_
           | refine packK_u8 ?_
           | refine packK_0 ?_
           | refine packK_1 (by omega) ?_
           | refine packK_2 (by omega) (by omega) ?_
           | refine packK_3 (by omega) (by omega) (by omega) ?_
           | refine packK_4 (by omega) (by omega) (by omega) (by omega) ?_
           | refine packK_any ?_
           | refine shrK_8 0 (by omega) rfl (by omega) ?_
           | refine shrK_8 1 (by omega) rfl (by omega) ?_
           | refine shrK_8 2 (by omega) rfl (by omega) ?_
           | refine shrK_8 3 (by omega) rfl (by omega) ?_
           | refine shlK_8 (by omega) (by omega) ?_
           | refine bitK_or8 (by omega) (by omega) ?_
           | refine nilK_no (by omega) ?_
           | refine takeC_u8 ?_
           | refine dropC_u8 ?_
           | refine dropC_zero ?_
           | refine takeC_any ?_
           | refine dropC_any ?_
           | refine callK_intro (cR) ?_
           | refine catK_any ?_
           | refine eitherK_l ?_
           | refine nlK_sl ?_
           | refine sideK_intro (by first | omega | rfl | exact Nat.le_of_ble_eq_true rfl | (refine ⟨?_, ?_⟩ <;> first | omega | (simp; done) | (simp; omega)) | (simp; done) | (simp; omega) | first | (rw [hn (.inl (by assumption))]; done) | (rw [hn (.inl (by assumption))]; rfl) | (rw [hn (.inl (by assumption))]; exact ⟨rfl, rfl⟩) | (rw [hn (.inl (by assumption))]; exact ⟨rfl, rfl, rfl⟩) | first | (rw [hn (.inr (.inl (by assumption)))]; done) | (rw [hn (.inr (.inl (by assumption)))]; rfl) | (rw [hn (.inr (.inl (by assumption)))]; exact ⟨rfl, rfl⟩) | (rw [hn (.inr (.inl (by assumption)))]; exact ⟨rfl, rfl, rfl⟩) | first | (rw [hn (.inr (.inr (.inl (by assumption))))]; done) | (rw [hn (.inr (.inr (.inl (by assumption))))]; rfl) | (rw [hn (.inr (.inr (.inl (by assumption))))]; exact ⟨rfl, rfl⟩) | (rw [hn (.inr (.inr (.inl (by assumption))))]; exact ⟨rfl, rfl, rfl⟩) | first | (rw [hn (.inr (.inr (.inr (by assumption))))]; done) | (rw [hn (.inr (.inr (.inr (by assumption))))]; rfl) | (rw [hn (.inr (.inr (.inr (by assumption))))]; exact ⟨rfl, rfl⟩) | (rw [hn (.inr (.inr (.inr (by assumption))))]; exact ⟨rfl, rfl, rfl⟩) | first | (rw [hy (by assumption) (by assumption) (by assumption) (by assumption)]; done) | (rw [hy (by assumption) (by assumption) (by assumption) (by assumption)]; rfl) | (rw [hy (by assumption) (by assumption) (by assumption) (by assumption)]; exact ⟨rfl, rfl⟩) | (rw [hy (by assumption) (by assumption) (by assumption) (by assumption)]; exact ⟨rfl, rfl, rfl⟩)) ?_
           | refine drawK_intro (by kernel_rfl) (by kernel_rfl) ?_)) <;> (try (conv => whnf))
theorem c_rboxOpen (b : List UInt8) {m : Nat} (hm : m = b.length) (hb : b.length ≤ 900000) (kd k : Int) : Fn Try.prog 89 [.o (.sl (b.map u8) m), .o (.i .i64 kd), .o (.i .u64 k)] [] (.tup [.c (.o (.sl ((boxO b kd k).1.map u8) (boxO b kd k).1.length)), .c (.o (.b (boxO b kd k).2))]) [] := by
  subst hm
  have hy := @boxO_yes b kd k
  have hn := @boxO_no b kd k
  have cR := c_rboxRead b rfl hb
  refine Fn_intro (G := g89) (goodA rfl) (fn := Try.f89) rfl rfl rfl rfl rfl ?_
  generalize boxO b kd k = O at *
  generalize boxR b = R at *
  (repeat' ((conv => whnf) <;>
           first
           | exact rfl
           | with_reducible refine boolK_dec (fun _ => ?_) (fun _ => ?_) <;> try (exfalso; omega)
           | refine boolK_beq (fun _ => ?_) (fun _ => ?_) <;> try (exfalso; first | omega | contradiction)
           | refine boolK_bne (fun _ => ?_) (fun _ => ?_) <;> try (exfalso; first | omega | contradiction)
           | with_reducible refine boolK_not ?_
           | with_reducible refine boolK_and ?_
           | with_reducible refine boolK_or ?_
           | with_reducible refine boolK_true ?_
           | with_reducible refine boolK_false ?_
           | refine boolK_intro (fun _ => ?_) (fun _ => ?_) <;> try (exfalso; simp_all; done)
           | refine wrapK_i64 (by omega) ?_
           | refine wrapK_u8 (by omega) ?_
           | refine convK_i64 (by omega) ?_
           | refine convK_byte ?_
           | refine convK_u64 (by omega) ?_
           | refine convK_u16 (by omega) ?_
           | refine convK_u32 (by omega) ?_
           | refine wrapK_byte ?_
           | refine wrapK_u64 (by omega) ?_
           | refine wrapK_u32 (by omega) ?_
           | refine wrapK_u16 (by omega) ?_
           | with_reducible refine natK_lit ?_
           | refine natK_of rfl ?_
           | refine natK_any ?_
           | refine quoK_i64 (by omega) ?_
           | refine quoK_u8 (by omega) ?_
           | refine quoK_u16 (by omega) ?_
           | refine remK_pos (by omega) ?_
           | refine headI_cons ?_
           | refine headS_cons ?_
           | refine headB_cons ?_
           | refine headV_cons ?_
           | refine headX_cons ?_
           | refine headI_u8 (by first | omega | (simp; omega)) (fun _ => ?_)
           | refine headI_ints (by first | omega | (simp; omega)) ?_
           | refine bytesK_map ?_
           | refine catK_nil ?_
           | refine catK_nil' ?_
           | refine catK_u8 ?_
           | refine catK_one ?_
           | refine catK_lit (by omega) ?_
           | refine catK_ints ?_
           | refine catK_int1 ?_
           | refine packK_u8 ?_
           | refine packK_0 ?_
           | refine packK_1 (by omega) ?_
           | refine packK_2 (by omega) (by omega) ?_
           | refine packK_3 (by omega) (by omega) (by omega) ?_
           | refine packK_4 (by omega) (by omega) (by omega) (by omega) ?_
           | refine packK_any ?_
           | refine shrK_8 0 (by omega) rfl (by omega) ?_
           | refine shrK_8 1 (by omega) rfl (by omega) ?_
           | refine shrK_8 2 (by omega) rfl (by omega) ?_
           | refine shrK_8 3 (by omega) rfl (by omega) ?_
           | refine shlK_8 (by omega) (by omega) ?_
           | refine bitK_or8 (by omega) (by omega) ?_
           | refine nilK_no (by omega) ?_
           | refine takeC_u8 ?_
           | refine dropC_u8 ?_
           | refine dropC_zero ?_
           | refine takeC_any ?_
           | refine dropC_any ?_
           | refine callK_intro (cR) ?_
           | refine catK_any ?_
           | refine eitherK_l ?_
           | refine nlK_sl ?_
           | refine sideK_intro (by first | omega | rfl | exact Nat.le_of_ble_eq_true rfl | (refine ⟨?_, ?_⟩ <;> first | omega | (simp; done) | (simp; omega)) | (simp; done) | (simp; omega) | first | (rw [hn (.inl (by assumption))]; done) | (rw [hn (.inl (by assumption))]; rfl) | (rw [hn (.inl (by assumption))]; exact ⟨rfl, rfl⟩) | (rw [hn (.inl (by assumption))]; exact ⟨rfl, rfl, rfl⟩) | first | (rw [hn (.inr (.inl (by assumption)))]; done) | (rw [hn (.inr (.inl (by assumption)))]; rfl) | (rw [hn (.inr (.inl (by assumption)))]; exact ⟨rfl, rfl⟩) | (rw [hn (.inr (.inl (by assumption)))]; exact ⟨rfl, rfl, rfl⟩) | first | (rw [hn (.inr (.inr (.inl (by assumption))))]; done) | (rw [hn (.inr (.inr (.inl (by assumption))))]; rfl) | (rw [hn (.inr (.inr (.inl (by assumption))))]; exact ⟨rfl, rfl⟩) | (rw [hn (.inr (.inr (.inl (by assumption))))]; exact ⟨rfl, rfl, rfl⟩) | first | (rw [hn (.inr (.inr (.inr (by assumption))))]; done) | (rw [hn (.inr (.inr (.inr (by assumption))))]; rfl) | (rw [hn (.inr (.inr (.inr (by assumption))))]; exact ⟨rfl, rfl⟩) | (rw [hn (.inr (.inr (.inr (by assumption))))]; exact ⟨rfl, rfl, rfl⟩) | first | (rw [hy (by assumption) (by assumption) (by assumption) (by assumption)]; done) | (rw [hy (by assumption) (by assumption) (by assumption) (by assumption)]; rfl) | (rw [hy (by assumption) (by assumption) (by assumption) (by assumption)]; exact ⟨rfl, rfl⟩) | (rw [hy (by assumption) (by assumption) (by assumption) (by assumption)]; exact ⟨rfl, rfl, rfl⟩)) ?_
           | refine drawK_intro (by kernel_rfl) (by kernel_rfl) ?_)) <;> (try (conv => whnf))
end Go.Sx

/-
  Contracts of the functions that seal and open authenticators.
-/
import Derived.Test.YtcmcjiacpahliaaPSeal
import Derived.Test.YtcmcjiacpahliaaCAuthD
import Derived.Test.YtcmcjiacpahliaaCBox
set_option linter.all false
namespace Go.Sx
open Go.Proofs Go.RowKit
noncomputable def g37 : Par := par 24 (nthLL [[1, 2, 3], [2, 8, 9], [2, 8, 9, 17], [6, 7], [6, 7]]) [6, 7, 9] (nthLL [])
noncomputable def g38 : Par := par 24 (nthLL [[1, 2, 3], [2, 8, 9], [2, 8, 9, 17], [6, 7], [6, 7]]) [6, 7, 9] (nthLL [])
noncomputable def g40 : Par := par 31 (nthLL [[0, 1, 2, 6], [1, 6, 8, 9], [1, 6, 8, 19], [6, 7], [6, 10, 11], [6, 10, 28], [6, 7], [6, 7]]) [6, 7] (nthLL [])
noncomputable def g41 : Par := par 31 (nthLL [[0, 1, 2, 6], [1, 6, 8, 9], [1, 6, 8, 19], [6, 7], [6, 10, 11], [6, 10, 28], [6, 7], [6, 7]]) [6, 7] (nthLL [])
set_option maxRecDepth 10000
set_option maxHeartbeats 4000000
theorem c_SealA (l : Bool) (x y z : List UInt8) (ck tk tm : Int) (hx : x.length ≤ 100000) (hy : y.length ≤ 100000) (hz : z.length ≤ 100000) (k : Int) (hk : 0 ≤ k ∧ k ≤ 18446744073709551615) : Fn Try.prog 37 [.a [.s x, .s y, .s z, .i .i64 ck, .i .i64 tk, .i .i64 tm], .o (.b l), .o (.i .u64 k)] [] (.tup [.fr ((sealS 2 k (authN l x y z ck tk tm)).1.map u8) (sealS 2 k (authN l x y z ck tk tm)).1.length 1, .c (.o (.i .i64 (sealS 2 k (authN l x y z ck tk tm)).2))]) [] := by
  have cE := c_EncodeA l x y z ck tk tm hx hy hz
  have hl := authN_len l x y z ck tk tm
  generalize authN l x y z ck tk tm = N at *
  have cM := c_boxMake 2 k hk N.1 rfl (by omega)
  have hy := @sealS_yes 2 k N
  have hn := @sealS_no 2 k N
  generalize sealS 2 k N = S at *
  generalize makeS 2 k N.1 = M at *
  refine Fn_intro (G := g37) (goodA rfl) (fn := Try.f37) rfl rfl rfl rfl rfl ?_
  (repeat' ((conv => whnf) <;>
           first
           | exact rfl
           | with_reducible refine boolK_dec (fun _ => ?_) (fun _ => ?_) <;> try (exfalso; omega)
           | refine boolK_beq (fun _ => ?_) (fun _ => ?_) <;> try (exfalso; first | omega | contradiction)
           | refine boolK_bne (fun _ => ?_) (fun _ => ?_) <;> try (exfalso; first | omega | contradiction)
           | with_reducible refine boolK_not ?_
           | with_reducible refine boolK_and ?_
           | with_reducible refine boolK_or ?_
           | with_reducible refine boolK_true ?_
           | with_reducible refine boolK_false ?_
           | refine boolK_intro (fun _ => ?_) (fun _ => ?_) <;> try (exfalso; simp_all; done)
           | refine wrapK_i64 (by omega) ?_
           | refine wrapK_u8 (by omega) ?_
           | refine convK_i64 (by omega) ?_
           | refine convK_byte ?_
           | refine convK_u64 (by omega) ?_
           | refine convK_u16 (by omega) ?_
           | refine convK_u32 (by omega) ?_
           | refine wrapK_byte ?_
           | refine wrapK_u64 (by omega) ?_
           | refine wrapK_u32 (by omega) ?_
           | refine wrapK_u16 (by omega) ?_
           | with_reducible refine natK_lit ?_
           | refine natK_of rfl ?_
           | refine natK_any ?_
           | refine quoK_i64 (by omega) ?_
           | refine quoK_u8 (by omega) ?_
           | refine quoK_u16 (by omega) ?_
           | refine remK_pos (by omega) ?_
           | refine headI_cons ?_
           | refine headS_cons ?_
           | refine headB_cons ?_
           | refine headV_cons ?_
           | refine headX_cons ?_
           | refine headI_u8 (by first | omega | (simp; omega)) (fun _ => ?_)
           | refine headI_ints (by first | omega | (simp; omega)) ?_
           | refine bytesK_map ?_
           | refine catK_nil ?_
           | refine catK_nil' ?_
           | refine catK_u8 ?_
           | refine catK_one ?_
           | refine catK_lit (by omega) ?_
           | refine catK_ints ?_
           | refine catK_int1 ?_
           | refine packK_u8 ?_
           | refine packK_0 ?_
           | refine packK_1 (by omega) ?_
           | refine packK_2 (by omega) (by omega) ?_
           | refine packK_3 (by omega) (by omega) (by omega) ?_
           | refine packK_4 (by omega) (by omega) (by omega) (by omega) ?_
           | refine packK_any ?_
           | refine shrK_8 0 (by omega) rfl (by omega) ?_
           | refine shrK_8 1 (by omega) rfl (by omega) ?_
           | refine shrK_8 2 (by omega) rfl (by omega) ?_
           | refine shrK_8 3 (by omega) rfl (by omega) ?_
           | refine shlK_8 (by omega) (by omega) ?_
           | refine bitK_or8 (by omega) (by omega) ?_
           | refine nilK_no (by omega) ?_
           | refine takeC_u8 ?_
           | refine dropC_u8 ?_
           | refine dropC_zero ?_
           | refine takeC_any ?_
           | refine dropC_any ?_
           | refine callK_intro (cE) ?_
           | refine callK_intro (cM) ?_
           | refine catK_any ?_
           | refine eitherK_l ?_
           | refine nlK_sl ?_
           | refine sideK_intro (by first | omega | rfl | exact Nat.le_of_ble_eq_true rfl | (refine ⟨?_, ?_⟩ <;> first | omega | (simp; done) | (simp; omega)) | (simp; done) | (simp; omega) | first | (rw [hn (by assumption)]; done) | (rw [hn (by assumption)]; rfl) | (rw [hn (by assumption)]; exact ⟨rfl, rfl⟩) | (rw [hn (by assumption)]; exact ⟨rfl, rfl, rfl⟩) | first | (rw [hy (by assumption)]; done) | (rw [hy (by assumption)]; rfl) | (rw [hy (by assumption)]; exact ⟨rfl, rfl⟩) | (rw [hy (by assumption)]; exact ⟨rfl, rfl, rfl⟩) | (rw [hy (by assumption)]; exact ⟨rfl, rfl, rfl⟩)) ?_
           | refine drawK_intro (by kernel_rfl) (by kernel_rfl) ?_)) <;> (try (conv => whnf))
theorem c_rSealA (l : Bool) (x y z : List UInt8) (ck tk tm : Int) (hx : x.length ≤ 100000) (hy : y.length ≤ 100000) (hz : z.length ≤ 100000) (k : Int) (hk : 0 ≤ k ∧ k ≤ 18446744073709551615) : Fn Try.prog 38 [.a [.s x, .s y, .s z, .i .i64 ck, .i .i64 tk, .i .i64 tm], .o (.b l), .o (.i .u64 k)] [] (.tup [.fr ((sealS 2 k (authN l x y z ck tk tm)).1.map u8) (sealS 2 k (authN l x y z ck tk tm)).1.length 1, .c (.o (.i .i64 (sealS 2 k (authN l x y z ck tk tm)).2))]) [] := by
  have cE := c_rEncodeA l x y z ck tk tm hx hy hz
  have hl := authN_len l x y z ck tk tm
  generalize authN l x y z ck tk tm = N at *
  have cM := c_rboxMake 2 k hk N.1 rfl (by omega)
  have hy := @sealS_yes 2 k N
  have hn := @sealS_no 2 k N
  generalize sealS 2 k N = S at *
  generalize makeS 2 k N.1 = M at *
  refine Fn_intro (G := g38) (goodA rfl) (fn := Try.f38) rfl rfl rfl rfl rfl ?_
  (repeat' ((conv => whnf) <;>
           first
           | exact rfl
           | with_reducible refine boolK_dec (fun _ => ?_) (fun _ => ?_) <;> try (exfalso; omega)
           | refine boolK_beq (fun _ => ?_) (fun _ => ?_) <;> try (exfalso; first | omega | contradiction)
           | refine boolK_bne (fun _ => ?_) (fun _ => ?_) <;> try (exfalso; first | omega | contradiction)
           | with_reducible refine boolK_not ?_
           | with_reducible refine boolK_and ?_
           | with_reducible refine boolK_or ?_
           | with_reducible refine boolK_true ?_
           | with_reducible refine boolK_false ?_
           | refine boolK_intro (fun _ => ?_) (fun _ => ?_) <;> try (exfalso; simp_all; done)
           | refine wrapK_i64 (by omega) ?_
           | refine wrapK_u8 (by omega) ?_
           | refine convK_i64 (by omega) ?_
           | refine convK_byte ?_
           | refine convK_u64 (by omega) ?_
           | refine convK_u16 (by omega) ?_
           | refine convK_u32 (by omega) ?_
           | refine wrapK_byte ?_
           | refine wrapK_u64 (by omega) ?_
           | refine wrapK_u32 (by omega) ?_
           | refine wrapK_u16 (by omega) ?_
           | with_reducible refine natK_lit ?_
           | refine natK_of rfl ?_
           | refine natK_any ?_
           | refine quoK_i64 (by omega) ?_
           | refine quoK_u8 (by omega) ?_
           | refine quoK_u16 (by omega) ?_
           | refine remK_pos (by omega) ?_
           | refine headI_cons ?_
           | refine headS_cons ?_
           | refine headB_cons ?_
           | refine headV_cons ?_
           | refine headX_cons ?_
           | refine headI_u8 (by first | omega | (simp; omega)) (fun _ => ?_)
           | refine headI_ints (by first | omega | (simp; omega)) ?_
           | refine bytesK_map ?_
           | refine catK_nil ?_
           | refine catK_nil' ?_
           | refine catK_u8 ?_
           | refine catK_one ?_
           | refine catK_lit (by omega) ?_
           | refine catK_ints ?_
           | refine catK_int1 ?_
           | refine packK_u8 ?_
           | refine packK_0 ?_
           | refine packK_1 (by omega) ?_
           | refine packK_2 (by omega) (by omega) ?_
           | refine packK_3 (by omega) (by omega) (by omega) ?_
           | refine packK_4 (by omega) (by omega) (by omega) (by omega) ?_
           | refine packK_any ?_
           | refine shrK_8 0 (by omega) rfl (by omega) ?_
           | refine shrK_8 1 (by omega) rfl (by omega) ?_
           | refine shrK_8 2 (by omega) rfl (by omega) ?_
           | refine shrK_8 3 (by omega) rfl (by omega) ?_
           | refine shlK_8 (by omega) (by omega) ?_
           | refine bitK_or8 (by omega) (by omega) ?_
           | refine nilK_no (by omega) ?_
           | refine takeC_u8 ?_
           | refine dropC_u8 ?_
           | refine dropC_zero ?_
           | refine takeC_any ?_
           | refine dropC_any ?_
           | refine callK_intro (cE) ?_
           | refine callK_intro (cM) ?_
           | refine catK_any ?_
           | refine eitherK_l ?_
           | refine nlK_sl ?_
           | refine sideK_intro (by first | omega | rfl | exact Nat.le_of_ble_eq_true rfl | (refine ⟨?_, ?_⟩ <;> first | omega | (simp; done) | (simp; omega)) | (simp; done) | (simp; omega) | first | (rw [hn (by assumption)]; done) | (rw [hn (by assumption)]; rfl) | (rw [hn (by assumption)]; exact ⟨rfl, rfl⟩) | (rw [hn (by assumption)]; exact ⟨rfl, rfl, rfl⟩) | first | (rw [hy (by assumption)]; done) | (rw [hy (by assumption)]; rfl) | (rw [hy (by assumption)]; exact ⟨rfl, rfl⟩) | (rw [hy (by assumption)]; exact ⟨rfl, rfl, rfl⟩) | (rw [hy (by assumption)]; exact ⟨rfl, rfl, rfl⟩)) ?_
           | refine drawK_intro (by kernel_rfl) (by kernel_rfl) ?_)) <;> (try (conv => whnf))
theorem c_OpenA (b : List UInt8) {m : Nat} (hm : m = b.length) (hb : b.length ≤ 90000) (l : Bool) (k : Int) : Fn Try.prog 40 [.o (.sl (b.map u8) m), .o (.b l), .o (.i .u64 k)] [] (.tup [.c (.a [.s (openA l b k).1.1, .s (openA l b k).1.2.1, .s (openA l b k).1.2.2.1, .i .i64 (openA l b k).1.2.2.2.1, .i .i64 (openA l b k).1.2.2.2.2.1, .i .i64 (openA l b k).1.2.2.2.2.2]), .c (.o (.i .i64 (openA l b k).2))]) [] := by
  have cO := c_boxOpen b hm (by omega) 2 k
  have hl := boxO_len b 2 k
  have hy := @openA_yes l b k
  have hn := @openA_no l b k
  generalize boxO b 2 k = O at *
  have cD := c_DecodeA O.1 rfl (by omega) l
  generalize authD l O.1 = D at *
  generalize openA l b k = R at *
  refine Fn_intro (G := g40) (goodA rfl) (fn := Try.f40) rfl rfl rfl rfl rfl ?_
  (repeat' ((conv => whnf) <;>
           first
           | exact rfl
           | with_reducible refine boolK_dec (fun _ => ?_) (fun _ => ?_) <;> try (exfalso; omega)
           | refine boolK_beq (fun _ => ?_) (fun _ => ?_) <;> try (exfalso; first | omega | contradiction)
           | refine boolK_bne (fun _ => ?_) (fun _ => ?_) <;> try (exfalso; first | omega | contradiction)
           | with_reducible refine boolK_not ?_
           | with_reducible refine boolK_and ?_
           | with_reducible refine boolK_or ?_
           | with_reducible refine boolK_true ?_
           | with_reducible refine boolK_false ?_
           | refine boolK_intro (fun _ => ?_) (fun _ => ?_) <;> try (exfalso; simp_all; done)
           | refine wrapK_i64 (by omega) ?_
           | refine wrapK_u8 (by omega) ?_
           | refine convK_i64 (by omega) ?_
           | refine convK_byte ?_
           | refine convK_u64 (by omega) ?_
           | refine convK_u16 (by omega) ?_
           | refine convK_u32 (by omega) ?_
           | refine wrapK_byte ?_
           | refine wrapK_u64 (by omega) ?_
           | refine wrapK_u32 (by omega) ?_
           | refine wrapK_u16 (by omega) ?_
           | with_reducible refine natK_lit ?_
           | refine natK_of rfl ?_
           | refine natK_any ?_
           | refine quoK_i64 (by omega) ?_
           | refine quoK_u8 (by omega) ?_
           | refine quoK_u16 (by omega) ?_
           | refine remK_pos (by omega) ?_
           | refine headI_cons ?_
           | refine headS_cons ?_
           | refine headB_cons ?_
           | refine headV_cons ?_
           | refine headX_cons ?_
           | refine headI_u8 (by first | omega | (simp; omega)) (fun _ => ?_)
           | refine headI_ints (by first | omega | (simp; omega)) ?_
           | refine bytesK_map ?_
           | refine catK_nil ?_
           | refine catK_nil' ?_
           | refine catK_u8 ?_
           | refine catK_one ?_
           | refine catK_lit (by omega) ?_
           | refine catK_ints ?_
           | refine catK_int1 ?_
           | refine packK_u8 ?_
           | refine packK_0 ?_
           | refine packK_1 (by omega) ?_
           | refine packK_2 (by omega) (by omega) ?_
           | refine packK_3 (by omega) (by omega) (by omega) ?_
           | refine packK_4 (by omega) (by omega) (by omega) (by omega) ?_
           | refine packK_any ?_
           | refine shrK_8 0 (by omega) rfl (by omega) ?_
           | refine shrK_8 1 (by omega) rfl (by omega) ?_
           | refine shrK_8 2 (by omega) rfl (by omega) ?_
           | refine shrK_8 3 (by omega) rfl (by omega) ?_
           | refine shlK_8 (by omega) (by omega) ?_
           | refine bitK_or8 (by omega) (by omega) ?_
           | refine nilK_no (by omega) ?_
           | refine takeC_u8 ?_
           | refine dropC_u8 ?_
           | refine dropC_zero ?_
           | refine takeC_any ?_
           | refine dropC_any ?_
           | refine callK_intro (cO) ?_
           | refine callK_intro (cD) ?_
           | refine catK_any ?_
           | refine eitherK_l ?_
           | refine nlK_sl ?_
           | refine sideK_intro (by first | omega | rfl | exact Nat.le_of_ble_eq_true rfl | (refine ⟨?_, ?_⟩ <;> first | omega | (simp; done) | (simp; omega)) | (simp; done) | (simp; omega) | first | (rw [hn (.inl (by assumption))]; done) | (rw [hn (.inl (by assumption))]; rfl) | (rw [hn (.inl (by assumption))]; exact ⟨rfl, rfl⟩) | (rw [hn (.inl (by assumption))]; exact ⟨rfl, rfl, rfl⟩) | first | (rw [hn (.inr (by assumption))]; done) | (rw [hn (.inr (by assumption))]; rfl) | (rw [hn (.inr (by assumption))]; exact ⟨rfl, rfl⟩) | (rw [hn (.inr (by assumption))]; exact ⟨rfl, rfl, rfl⟩) | first | (rw [hy (by assumption) (by assumption)]; done) | (rw [hy (by assumption) (by assumption)]; rfl) | (rw [hy (by assumption) (by assumption)]; exact ⟨rfl, rfl⟩) | (rw [hy (by assumption) (by assumption)]; exact ⟨rfl, rfl, rfl⟩)) ?_
           | refine drawK_intro (by kernel_rfl) (by kernel_rfl) ?_)) <;> (try (conv => whnf))
theorem c_rOpenA (b : List UInt8) {m : Nat} (hm : m = b.length) (hb : b.length ≤ 90000) (l : Bool) (k : Int) : Fn Try.prog 41 [.o (.sl (b.map u8) m), .o (.b l), .o (.i .u64 k)] [] (.tup [.c (.a [.s (openA l b k).1.1, .s (openA l b k).1.2.1, .s (openA l b k).1.2.2.1, .i .i64 (openA l b k).1.2.2.2.1, .i .i64 (openA l b k).1.2.2.2.2.1, .i .i64 (openA l b k).1.2.2.2.2.2]), .c (.o (.i .i64 (openA l b k).2))]) [] := by
  have cO := c_rboxOpen b hm (by omega) 2 k
  have hl := boxO_len b 2 k
  have hy := @openA_yes l b k
  have hn := @openA_no l b k
  generalize boxO b 2 k = O at *
  have cD := c_rDecodeA O.1 rfl (by omega) l
  generalize authD l O.1 = D at *
  generalize openA l b k = R at *
  refine Fn_intro (G := g41) (goodA rfl) (fn := Try.f41) rfl rfl rfl rfl rfl ?_
  (repeat' ((conv => whnf) <;>
           first
           | exact rfl
           | with_reducible refine boolK_dec (fun _ => ?_) (fun _ => ?_) <;> try (exfalso; omega)
           | refine boolK_beq (fun _ => ?_) (fun _ => ?_) <;> try (exfalso; first | omega | contradiction)
           | refine boolK_bne (fun _ => ?_) (fun _ => ?_) <;> try (exfalso; first | omega | contradiction)
           | with_reducible refine boolK_not ?_
           | with_reducible refine boolK_and ?_
           | with_reducible refine boolK_or ?_
           | with_reducible refine boolK_true ?_
           | with_reducible refine boolK_false ?_
           | refine boolK_intro (fun _ => ?_) (fun _ => ?_) <;> try (exfalso; simp_all; done)
           | refine wrapK_i64 (by omega) ?_
           | refine wrapK_u8 (by omega) ?_
           | refine convK_i64 (by omega) ?_
           | refine convK_byte ?_
           | refine convK_u64 (by omega) ?_
           | refine convK_u16 (by omega) ?_
           | refine convK_u32 (by omega) ?_
           | refine wrapK_byte ?_
           | refine wrapK_u64 (by omega) ?_
           | refine wrapK_u32 (by omega) ?_
           | refine wrapK_u16 (by omega) ?_
           | with_reducible refine natK_lit ?_
           | refine natK_of rfl ?_
           | refine natK_any ?_
           | refine quoK_i64 (by omega) ?_
           | refine quoK_u8 (by omega) ?_
           | refine quoK_u16 (by omega) ?_
           | refine remK_pos (by omega) ?_
           | refine headI_cons ?_
           | refine headS_cons ?_
           | refine headB_cons ?_
           | refine headV_cons ?_
           | refine headX_cons ?_
           | refine headI_u8 (by first | omega | (simp; omega)) (fun _ => ?_)
           | refine headI_ints (by first | omega | (simp; omega)) ?_
           | refine bytesK_map ?_
           | refine catK_nil ?_
           | refine catK_nil' ?_
           | refine catK_u8 ?_
           | refine catK_one ?_
           | refine catK_lit (by omega) ?_
           | refine catK_ints ?_
           | refine catK_int1 ?_
           | refine packK_u8 ?_
           | refine packK_0 ?_
           | refine packK_1 (by omega) ?_
           | refine packK_2 (by omega) (by omega) ?_
           | refine packK_3 (by omega) (by omega) (by omega) ?_
           | refine packK_4 (by omega) (by omega) (by omega) (by omega) ?_
           | refine packK_any ?_
           | refine shrK_8 0 (by omega) rfl (by omega) ?_
           | refine shrK_8 1 (by omega) rfl (by omega) ?_
           | refine shrK_8 2 (by omega) rfl (by omega) ?_
           | refine shrK_8 3 (by omega) rfl (by omega) ?_
           | refine shlK_8 (by omega) (by omega) ?_
           | refine bitK_or8 (by omega) (by omega) ?_
           | refine nilK_no (by omega) ?_
           | refine takeC_u8 ?_
           | refine dropC_u8 ?_
           | refine dropC_zero ?_
           | refine takeC_any ?_
           | refine dropC_any ?_
           | refine callK_intro (cO) ?_
           | refine callK_intro (cD) ?_
           | refine catK_any ?_
           | refine eitherK_l ?_
           | refine nlK_sl ?_
           | refine sideK_intro (by first | omega | rfl | exact Nat.le_of_ble_eq_true rfl | (refine ⟨?_, ?_⟩ <;> first | omega | (simp; done) | (simp; omega)) | (simp; done) | (simp; omega) | first | (rw [hn (.inl (by assumption))]; done) | (rw [hn (.inl (by assumption))]; rfl) | (rw [hn (.inl (by assumption))]; exact ⟨rfl, rfl⟩) | (rw [hn (.inl (by assumption))]; exact ⟨rfl, rfl, rfl⟩) | first | (rw [hn (.inr (by assumption))]; done) | (rw [hn (.inr (by assumption))]; rfl) | (rw [hn (.inr (by assumption))]; exact ⟨rfl, rfl⟩) | (rw [hn (.inr (by assumption))]; exact ⟨rfl, rfl, rfl⟩) | first | (rw [hy (by assumption) (by assumption)]; done) | (rw [hy (by assumption) (by assumption)]; rfl) | (rw [hy (by assumption) (by assumption)]; exact ⟨rfl, rfl⟩) | (rw [hy (by assumption) (by assumption)]; exact ⟨rfl, rfl, rfl⟩)) ?_
           | refine drawK_intro (by kernel_rfl) (by kernel_rfl) ?_)) <;> (try (conv => whnf))
end Go.Sx

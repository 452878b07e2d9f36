/-
  Contracts of the functions that seal and open tickets.
-/
import Derived.Test.YtcmcjiacpahliaaPSeal
import Derived.Test.YtcmcjiacpahliaaCTickL
import Derived.Test.YtcmcjiacpahliaaCBox
set_option linter.all false
namespace Go.Sx
open Go.Proofs Go.RowKit
noncomputable def g45 : Par := par 21 (nthLL [[1, 2], [1, 6, 7], [1, 6, 7, 14], [4, 5], [4, 5]]) [4, 5, 7] (nthLL [])
noncomputable def g47 : Par := par 21 (nthLL [[0, 1, 4], [4, 6, 7], [4, 6, 15], [4, 5], [4, 5]]) [4, 5] (nthLL [])
noncomputable def g46 : Par := par 21 (nthLL [[1, 2], [1, 6, 7], [1, 6, 7, 14], [4, 5], [4, 5]]) [4, 5, 7] (nthLL [])
noncomputable def g48 : Par := par 21 (nthLL [[0, 1, 4], [4, 6, 7], [4, 6, 15], [4, 5], [4, 5]]) [4, 5] (nthLL [])
noncomputable def g49 : Par := par 11 (nthLL [[1, 2, 4], [4]]) [4] (nthLL [])
set_option maxRecDepth 10000
set_option maxHeartbeats 4000000
theorem c_SealT (li : Bool) (x y z : List UInt8) (ad se lf is : Int) (sn si : List UInt8) (hse : 0 ≤ se ∧ se ≤ 18446744073709551615) (hx : x.length ≤ 100000) (hy : y.length ≤ 100000) (hz : z.length ≤ 100000) (hn : sn.length ≤ 100000) (hi : si.length ≤ 100000) (k : Int) (hk : 0 ≤ k ∧ k ≤ 18446744073709551615) : Fn Try.prog 45 [.a [.b li, .s x, .s y, .s z, .i .i64 ad, .i .u64 se, .i .i64 lf, .i .i64 is, .s sn, .s si], .o (.i .u64 k)] [] (.tup [.fr ((sealS 1 k (tickN li x y z ad se lf is sn si)).1.map u8) (sealS 1 k (tickN li x y z ad se lf is sn si)).1.length 1, .c (.o (.i .i64 (sealS 1 k (tickN li x y z ad se lf is sn si)).2))]) [] := by
  have cE := c_EncodeT li x y z ad se lf is sn si hse hx hy hz hn hi
  have hl := tickN_len li x y z ad se lf is sn si
  generalize tickN li x y z ad se lf is sn si = N at *
  have cM := c_boxMake 1 k hk N.1 rfl (by omega)
  have hy := @sealS_yes 1 k N
  have hn := @sealS_no 1 k N
  generalize sealS 1 k N = S at *
  generalize makeS 1 k N.1 = M at *
  refine Fn_intro (G := g45) (goodA rfl) (fn := Try.f45) rfl rfl rfl rfl rfl ?_
  (repeat' ((conv => whnf) <;>
           first
           | exact rfl
           | with_reducible refine boolK_dec (fun _ => ?_) (fun _ => ?_) <;> try (exfalso; omega)
           | refine boolK_beq (fun _ => ?_) (fun _ => ?_) <;> try (exfalso; first | omega | contradiction)
           | refine boolK_bne (fun _ => ?_) (fun _ => ?_) <;> try (exfalso; first | omega | contradiction)
           | with_reducible refine boolK_not ?_
           | with_reducible refine boolK_and ?_
           | with_reducible refine boolK_or ?_
           | with_reducible refine boolK_true ?_
           | with_reducible refine boolK_false ?_
           | refine boolK_intro (fun _ => ?_) (fun _ => ?_) <;> try (exfalso; simp_all; done)
           | refine wrapK_i64 (by omega) ?_
           | refine wrapK_u8 (by omega) ?_
           | refine convK_i64 (by omega) ?_
           | refine convK_byte ?_
           | refine convK_u64 (by omega) ?_
           | refine convK_u16 (by omega) ?_
           | refine convK_u32 (by omega) ?_
           | refine wrapK_byte ?_
           | refine wrapK_u64 (by omega) ?_
           | refine wrapK_u32 (by omega) ?_
           | refine wrapK_u16 (by omega) ?_
           | with_reducible refine natK_lit ?_
           | refine natK_of rfl ?_
           | refine natK_any ?_
           | refine quoK_i64 (by omega) ?_
           | refine quoK_u8 (by omega) ?_
           | refine quoK_u16 (by omega) ?_
           | refine remK_pos (by omega) ?_
           | refine headI_cons ?_
           | refine headS_cons ?_
           | refine headB_cons ?_
           | refine headV_cons ?_
           | refine headX_cons ?_
           | refine headI_u8 (by first | omega | (simp; omega)) (fun _ => ?_)
           | refine headI_ints (by first | omega | (simp; omega)) ?_
           | refine bytesK_map ?_
           | refine catK_nil ?_
           | refine catK_nil' ?_
           | refine catK_u8 ?_
           | refine catK_one ?_
           | refine catK_lit (by omega) ?_
           | refine catK_ints ?_
           | refine catK_int1 ?_
           | refine packK_u8 ?_
           | refine packK_0 ?_
           | refine packK_1 (by omega) ?_
           | refine packK_2 (by omega) (by omega) ?_
           | refine packK_3 (by omega) (by omega) (by omega) ?_
           | refine packK_4 (by omega) (by omega) (by omega) (by omega) ?_
           | refine packK_any ?_
           | refine shrK_8 0 (by omega) rfl (by omega) ?_
           | refine shrK_8 1 (by omega) rfl (by omega) ?_
           | refine shrK_8 2 (by omega) rfl (by omega) ?_
           | refine shrK_8 3 (by omega) rfl (by omega) ?_
           | refine shlK_8 (by omega) (by omega) ?_
           | refine bitK_or8 (by omega) (by omega) ?_
           | refine nilK_no (by omega) ?_
           | refine takeC_u8 ?_
           | refine dropC_u8 ?_
           | refine dropC_zero ?_
           | refine takeC_any ?_
           | refine dropC_any ?_
           | refine callK_intro (cE) ?_
           | refine callK_intro (cM) ?_
           | refine catK_any ?_
           | refine eitherK_l ?_
           | refine nlK_sl ?_
           | refine sideK_intro (by first | omega | rfl | exact Nat.le_of_ble_eq_true rfl | (refine ⟨?_, ?_⟩ <;> first | omega | (simp; done) | (simp; omega)) | (simp; done) | (simp; omega) | first | (rw [hn (by assumption)]; done) | (rw [hn (by assumption)]; rfl) | (rw [hn (by assumption)]; exact ⟨rfl, rfl⟩) | (rw [hn (by assumption)]; exact ⟨rfl, rfl, rfl⟩) | first | (rw [hy (by assumption)]; done) | (rw [hy (by assumption)]; rfl) | (rw [hy (by assumption)]; exact ⟨rfl, rfl⟩) | (rw [hy (by assumption)]; exact ⟨rfl, rfl, rfl⟩) | (rw [hy (by assumption)]; exact ⟨rfl, rfl, rfl⟩)) ?_
           | refine drawK_intro (by kernel_rfl) (by kernel_rfl) ?_)) <;> (try (conv => whnf))
theorem c_OpenT (b : List UInt8) {m : Nat} (hm : m = b.length) (hb : b.length ≤ 90000) (k : Int) : Fn Try.prog 47 [.o (.sl (b.map u8) m), .o (.i .u64 k)] [] (.tup [.c (.a [.b (openT b k).1.1, .s (openT b k).1.2.1, .s (openT b k).1.2.2.1, .s (openT b k).1.2.2.2.1, .i .i64 (openT b k).1.2.2.2.2.1, .i .u64 (openT b k).1.2.2.2.2.2.1, .i .i64 (openT b k).1.2.2.2.2.2.2.1, .i .i64 (openT b k).1.2.2.2.2.2.2.2.1, .s (openT b k).1.2.2.2.2.2.2.2.2.1, .s (openT b k).1.2.2.2.2.2.2.2.2.2]), .c (.o (.i .i64 (openT b k).2))]) [] := by
  have cO := c_boxOpen b hm (by omega) 1 k
  have hl := boxO_len b 1 k
  have hy := @openT_yes b k
  have hn := @openT_no b k
  generalize boxO b 1 k = O at *
  have cD := c_DecodeT O.1 rfl (by omega)
  generalize tickD O.1 = D at *
  rw [tick0] at hn
  generalize openT b k = R at *
  refine Fn_intro (G := g47) (goodA rfl) (fn := Try.f47) rfl rfl rfl rfl rfl ?_
  (repeat' ((conv => whnf) <;>
           first
           | exact rfl
           | with_reducible refine boolK_dec (fun _ => ?_) (fun _ => ?_) <;> try (exfalso; omega)
           | refine boolK_beq (fun _ => ?_) (fun _ => ?_) <;> try (exfalso; first | omega | contradiction)
           | refine boolK_bne (fun _ => ?_) (fun _ => ?_) <;> try (exfalso; first | omega | contradiction)
           | with_reducible refine boolK_not ?_
           | with_reducible refine boolK_and ?_
           | with_reducible refine boolK_or ?_
           | with_reducible refine boolK_true ?_
           | with_reducible refine boolK_false ?_
           | refine boolK_intro (fun _ => ?_) (fun _ => ?_) <;> try (exfalso; simp_all; done)
           | refine wrapK_i64 (by omega) ?_
           | refine wrapK_u8 (by omega) ?_
           | refine convK_i64 (by omega) ?_
           | refine convK_byte ?_
           | refine convK_u64 (by omega) ?_
           | refine convK_u16 (by omega) ?_
           | refine convK_u32 (by omega) ?_
           | refine wrapK_byte ?_
           | refine wrapK_u64 (by omega) ?_
           | refine wrapK_u32 (by omega) ?_
           | refine wrapK_u16 (by omega) ?_
           | with_reducible refine natK_lit ?_
           | refine natK_of rfl ?_
           | refine natK_any ?_
           | refine quoK_i64 (by omega) ?_
           | refine quoK_u8 (by omega) ?_
           | refine quoK_u16 (by omega) ?_
           | refine remK_pos (by omega) ?_
           | refine headI_cons ?_
           | refine headS_cons ?_
           | refine headB_cons ?_
           | refine headV_cons ?_
           | refine headX_cons ?_
           | refine headI_u8 (by first | omega | (simp; omega)) (fun _ => ?_)
           | refine headI_ints (by first | omega | (simp; omega)) ?_
           | refine bytesK_map ?_
           | refine catK_nil ?_
           | refine catK_nil' ?_
           | refine catK_u8 ?_
           | refine catK_one ?_
           | refine catK_lit (by omega) ?_
           | refine catK_ints ?_
           | refine catK_int1 ?_
           | refine packK_u8 ?_
           | refine packK_0 ?_
           | refine packK_1 (by omega) ?_
           | refine packK_2 (by omega) (by omega) ?_
           | refine packK_3 (by omega) (by omega) (by omega) ?_
           | refine packK_4 (by omega) (by omega) (by omega) (by omega) ?_
           | refine packK_any ?_
           | refine shrK_8 0 (by omega) rfl (by omega) ?_
           | refine shrK_8 1 (by omega) rfl (by omega) ?_
           | refine shrK_8 2 (by omega) rfl (by omega) ?_
           | refine shrK_8 3 (by omega) rfl (by omega) ?_
           | refine shlK_8 (by omega) (by omega) ?_
           | refine bitK_or8 (by omega) (by omega) ?_
           | refine nilK_no (by omega) ?_
           | refine takeC_u8 ?_
           | refine dropC_u8 ?_
           | refine dropC_zero ?_
           | refine takeC_any ?_
           | refine dropC_any ?_
           | refine callK_intro (cO) ?_
           | refine callK_intro (cD) ?_
           | refine catK_any ?_
           | refine eitherK_l ?_
           | refine nlK_sl ?_
           | refine sideK_intro (by first | omega | rfl | exact Nat.le_of_ble_eq_true rfl | (refine ⟨?_, ?_⟩ <;> first | omega | (simp; done) | (simp; omega)) | (simp; done) | (simp; omega) | first | (rw [hn (by assumption)]; done) | (rw [hn (by assumption)]; rfl) | (rw [hn (by assumption)]; exact ⟨rfl, rfl⟩) | (rw [hn (by assumption)]; exact ⟨rfl, rfl, rfl⟩) | first | (rw [hy (by assumption)]; done) | (rw [hy (by assumption)]; rfl) | (rw [hy (by assumption)]; exact ⟨rfl, rfl⟩) | (rw [hy (by assumption)]; exact ⟨rfl, rfl, rfl⟩)) ?_
           | refine drawK_intro (by kernel_rfl) (by kernel_rfl) ?_)) <;> (try (conv => whnf))
theorem c_rSealT (li : Bool) (x y z : List UInt8) (ad se lf is : Int) (sn si : List UInt8) (hse : 0 ≤ se ∧ se ≤ 18446744073709551615) (hx : x.length ≤ 100000) (hy : y.length ≤ 100000) (hz : z.length ≤ 100000) (hn : sn.length ≤ 100000) (hi : si.length ≤ 100000) (k : Int) (hk : 0 ≤ k ∧ k ≤ 18446744073709551615) : Fn Try.prog 46 [.a [.b li, .s x, .s y, .s z, .i .i64 ad, .i .u64 se, .i .i64 lf, .i .i64 is, .s sn, .s si], .o (.i .u64 k)] [] (.tup [.fr ((sealS 1 k (tickN li x y z ad se lf is sn si)).1.map u8) (sealS 1 k (tickN li x y z ad se lf is sn si)).1.length 1, .c (.o (.i .i64 (sealS 1 k (tickN li x y z ad se lf is sn si)).2))]) [] := by
  have cE := c_rEncodeT li x y z ad se lf is sn si hse hx hy hz hn hi
  have hl := tickN_len li x y z ad se lf is sn si
  generalize tickN li x y z ad se lf is sn si = N at *
  have cM := c_rboxMake 1 k hk N.1 rfl (by omega)
  have hy := @sealS_yes 1 k N
  have hn := @sealS_no 1 k N
  generalize sealS 1 k N = S at *
  generalize makeS 1 k N.1 = M at *
  refine Fn_intro (G := g46) (goodA rfl) (fn := Try.f46) rfl rfl rfl rfl rfl ?_
  (repeat' ((conv => whnf) <;>
           first
           | exact rfl
           | with_reducible refine boolK_dec (fun _ => ?_) (fun _ => ?_) <;> try (exfalso; omega)
           | refine boolK_beq (fun _ => ?_) (fun _ => ?_) <;> try (exfalso; first | omega | contradiction)
           | refine boolK_bne (fun _ => ?_) (fun _ => ?_) <;> try (exfalso; first | omega | contradiction)
           | with_reducible refine boolK_not ?_
           | with_reducible refine boolK_and ?_
           | with_reducible refine boolK_or ?_
           | with_reducible refine boolK_true ?_
           | with_reducible refine boolK_false ?_
           | refine boolK_intro (fun _ => ?_) (fun _ => ?_) <;> try (exfalso; simp_all; done)
           | refine wrapK_i64 (by omega) ?_
           | refine wrapK_u8 (by omega) ?_
           | refine convK_i64 (by omega) ?_
           | refine convK_byte ?_
           | refine convK_u64 (by omega) ?_
           | refine convK_u16 (by omega) ?_
           | refine convK_u32 (by omega) ?_
           | refine wrapK_byte ?_
           | refine wrapK_u64 (by omega) ?_
           | refine wrapK_u32 (by omega) ?_
           | refine wrapK_u16 (by omega) ?_
           | with_reducible refine natK_lit ?_
           | refine natK_of rfl ?_
           | refine natK_any ?_
           | refine quoK_i64 (by omega) ?_
           | refine quoK_u8 (by omega) ?_
           | refine quoK_u16 (by omega) ?_
           | refine remK_pos (by omega) ?_
           | refine headI_cons ?_
           | refine headS_cons ?_
           | refine headB_cons ?_
           | refine headV_cons ?_
           | refine headX_cons ?_
           | refine headI_u8 (by first | omega | (simp; omega)) (fun _ => ?_)
           | refine headI_ints (by first | omega | (simp; omega)) ?_
           | refine bytesK_map ?_
           | refine catK_nil ?_
           | refine catK_nil' ?_
           | refine catK_u8 ?_
           | refine catK_one ?_
           | refine catK_lit (by omega) ?_
           | refine catK_ints ?_
           | refine catK_int1 ?_
           | refine packK_u8 ?_
           | refine packK_0 ?_
           | refine packK_1 (by omega) ?_
           | refine packK_2 (by omega) (by omega) ?_
           | refine packK_3 (by omega) (by omega) (by omega) ?_
           | refine packK_4 (by omega) (by omega) (by omega) (by omega) ?_
           | refine packK_any ?_
           | refine shrK_8 0 (by omega) rfl (by omega) ?_
           | refine shrK_8 1 (by omega) rfl (by omega) ?_
           | refine shrK_8 2 (by omega) rfl (by omega) ?_
           | refine shrK_8 3 (by omega) rfl (by omega) ?_
           | refine shlK_8 (by omega) (by omega) ?_
           | refine bitK_or8 (by omega) (by omega) ?_
           | refine nilK_no (by omega) ?_
           | refine takeC_u8 ?_
           | refine dropC_u8 ?_
           | refine dropC_zero ?_
           | refine takeC_any ?_
           | refine dropC_any ?_
           | refine callK_intro (cE) ?_
           | refine callK_intro (cM) ?_
           | refine catK_any ?_
           | refine eitherK_l ?_
           | refine nlK_sl ?_
           | refine sideK_intro (by first | omega | rfl | exact Nat.le_of_ble_eq_true rfl | (refine ⟨?_, ?_⟩ <;> first | omega | (simp; done) | (simp; omega)) | (simp; done) | (simp; omega) | first | (rw [hn (by assumption)]; done) | (rw [hn (by assumption)]; rfl) | (rw [hn (by assumption)]; exact ⟨rfl, rfl⟩) | (rw [hn (by assumption)]; exact ⟨rfl, rfl, rfl⟩) | first | (rw [hy (by assumption)]; done) | (rw [hy (by assumption)]; rfl) | (rw [hy (by assumption)]; exact ⟨rfl, rfl⟩) | (rw [hy (by assumption)]; exact ⟨rfl, rfl, rfl⟩) | (rw [hy (by assumption)]; exact ⟨rfl, rfl, rfl⟩)) ?_
           | refine drawK_intro (by kernel_rfl) (by kernel_rfl) ?_)) <;> (try (conv => whnf))
theorem c_rOpenT (b : List UInt8) {m : Nat} (hm : m = b.length) (hb : b.length ≤ 90000) (k : Int) : Fn Try.prog 48 [.o (.sl (b.map u8) m), .o (.i .u64 k)] [] (.tup [.c (.a [.b (openT b k).1.1, .s (openT b k).1.2.1, .s (openT b k).1.2.2.1, .s (openT b k).1.2.2.2.1, .i .i64 (openT b k).1.2.2.2.2.1, .i .u64 (openT b k).1.2.2.2.2.2.1, .i .i64 (openT b k).1.2.2.2.2.2.2.1, .i .i64 (openT b k).1.2.2.2.2.2.2.2.1, .s (openT b k).1.2.2.2.2.2.2.2.2.1, .s (openT b k).1.2.2.2.2.2.2.2.2.2]), .c (.o (.i .i64 (openT b k).2))]) [] := by
  have cO := c_rboxOpen b hm (by omega) 1 k
  have hl := boxO_len b 1 k
  have hy := @openT_yes b k
  have hn := @openT_no b k
  generalize boxO b 1 k = O at *
  have cD := c_rDecodeT O.1 rfl (by omega)
  generalize tickD O.1 = D at *
  rw [tick0] at hn
  generalize openT b k = R at *
  refine Fn_intro (G := g48) (goodA rfl) (fn := Try.f48) rfl rfl rfl rfl rfl ?_
  (repeat' ((conv => whnf) <;>
           first
           | exact rfl
           | with_reducible refine boolK_dec (fun _ => ?_) (fun _ => ?_) <;> try (exfalso; omega)
           | refine boolK_beq (fun _ => ?_) (fun _ => ?_) <;> try (exfalso; first | omega | contradiction)
           | refine boolK_bne (fun _ => ?_) (fun _ => ?_) <;> try (exfalso; first | omega | contradiction)
           | with_reducible refine boolK_not ?_
           | with_reducible refine boolK_and ?_
           | with_reducible refine boolK_or ?_
           | with_reducible refine boolK_true ?_
           | with_reducible refine boolK_false ?_
           | refine boolK_intro (fun _ => ?_) (fun _ => ?_) <;> try (exfalso; simp_all; done)
           | refine wrapK_i64 (by omega) ?_
           | refine wrapK_u8 (by omega) ?_
           | refine convK_i64 (by omega) ?_
           | refine convK_byte ?_
           | refine convK_u64 (by omega) ?_
           | refine convK_u16 (by omega) ?_
           | refine convK_u32 (by omega) ?_
           | refine wrapK_byte ?_
           | refine wrapK_u64 (by omega) ?_
           | refine wrapK_u32 (by omega) ?_
           | refine wrapK_u16 (by omega) ?_
           | with_reducible refine natK_lit ?_
           | refine natK_of rfl ?_
           | refine natK_any ?_
           | refine quoK_i64 (by omega) ?_
           | refine quoK_u8 (by omega) ?_
           | refine quoK_u16 (by omega) ?_
           | refine remK_pos (by omega) ?_
           | refine headI_cons ?_
           | refine headS_cons ?_
           | refine headB_cons ?_
           | refine headV_cons ?_
           | refine headX_cons ?_
           | refine headI_u8 (by first | omega | (simp; omega)) (fun _ => ?_)
           | refine headI_ints (by first | omega | (simp; omega)) ?_
           | refine bytesK_map ?_
           | refine catK_nil ?_
           | refine catK_nil' ?_
           | refine catK_u8 ?_
           | refine catK_one ?_
           | refine catK_lit (by omega) ?_
           | refine catK_ints ?_
           | refine catK_int1 ?_
           | refine packK_u8 ?_
           | refine packK_0 ?_
           | refine packK_1 (by omega) ?_
           | refine packK_2 (by omega) (by omega) ?_
           | refine packK_3 (by omega) (by omega) (by omega) ?_
           | refine packK_4 (by omega) (by omega) (by omega) (by omega) ?_
           | refine packK_any ?_
           | refine shrK_8 0 (by omega) rfl (by omega) ?_
           | refine shrK_8 1 (by omega) rfl (by omega) ?_
           | refine shrK_8 2 (by omega) rfl (by omega) ?_
           | refine shrK_8 3 (by omega) rfl (by omega) ?_
           | refine shlK_8 (by omega) (by omega) ?_
           | refine bitK_or8 (by omega) (by omega) ?_
           | refine nilK_no (by omega) ?_
           | refine takeC_u8 ?_
           | refine dropC_u8 ?_
           | refine dropC_zero ?_
           | refine takeC_any ?_
           | refine dropC_any ?_
           | refine callK_intro (cO) ?_
           | refine callK_intro (cD) ?_
           | refine catK_any ?_
           | refine eitherK_l ?_
           | refine nlK_sl ?_
           | refine sideK_intro (by first | omega | rfl | exact Nat.le_of_ble_eq_true rfl | (refine ⟨?_, ?_⟩ <;> first | omega | (simp; done) | (simp; omega)) | (simp; done) | (simp; omega) | first | (rw [hn (by assumption)]; done) | (rw [hn (by assumption)]; rfl) | (rw [hn (by assumption)]; exact ⟨rfl, rfl⟩) | (rw [hn (by assumption)]; exact ⟨rfl, rfl, rfl⟩) | first | (rw [hy (by assumption)]; done) | (rw [hy (by assumption)]; rfl) | (rw [hy (by assumption)]; exact ⟨rfl, rfl⟩) | (rw [hy (by assumption)]; exact ⟨rfl, rfl, rfl⟩)) ?_
           | refine drawK_intro (by kernel_rfl) (by kernel_rfl) ?_)) <;> (try (conv => whnf))
theorem c_For (li : Bool) (x y z : List UInt8) (ad se lf is : Int) (sn si r : List UInt8) : Fn Try.prog 49 [.a [.b li, .s x, .s y, .s z, .i .i64 ad, .i .u64 se, .i .i64 lf, .i .i64 is, .s sn, .s si], .o (.s r)] [] (.one (.c (.a [.s sn, .s si, .s r]))) [] := by
  refine Fn_intro (G := g49) (goodA rfl) (fn := Try.f49) rfl rfl rfl rfl rfl ?_
  (repeat' ((conv => whnf) <;>
           first
           | exact rfl
           | with_reducible refine boolK_dec (fun _ => ?_) (fun _ => ?_) <;> try (exfalso; omega)
           | refine boolK_beq (fun _ => ?_) (fun _ => ?_) <;> try (exfalso; first | omega | contradiction)
           | refine boolK_bne (fun _ => ?_) (fun _ => ?_) <;> try (exfalso; first | omega | contradiction)
           | with_reducible refine boolK_not ?_
           | with_reducible refine boolK_and ?_
           | with_reducible refine boolK_or ?_
           | with_reducible refine boolK_true ?_
           | with_reducible refine boolK_false ?_
           | refine boolK_intro (fun _ => ?_) (fun _ => ?_) <;> try (exfalso; simp_all; done)
           | refine wrapK_i64 (by omega) ?_
           | refine wrapK_u8 (by omega) ?_
           | refine convK_i64 (by omega) ?_
           | refine convK_byte ?_
           | refine convK_u64 (by omega) ?_
           | refine convK_u16 (by omega) ?_
           | refine convK_u32 (by omega) ?_
           | refine wrapK_byte ?_
           | refine wrapK_u64 (by omega) ?_
           | refine wrapK_u32 (by omega) ?_
           | refine wrapK_u16 (by omega) ?_
           | with_reducible refine natK_lit ?_
           | refine natK_of rfl ?_
           | refine natK_any ?_
           | refine quoK_i64 (by omega) ?_
           | refine quoK_u8 (by omega) ?_
           | refine quoK_u16 (by omega) ?_
           | refine remK_pos (by omega) ?_
           | refine headI_cons ?_
           | refine headS_cons ?_
           | refine headB_cons ?_
           | refine headV_cons ?_
           | refine headX_cons ?_
           | refine headI_u8 (by first | omega | (simp; omega)) (fun _ => ?_)
           | refine headI_ints (by first | omega | (simp; omega)) ?_
           | refine bytesK_map ?_
           | refine catK_nil ?_
           | refine catK_nil' ?_
           | refine catK_u8 ?_
           | refine catK_one ?_
           | refine catK_lit (by omega) ?_
           | refine catK_ints ?_
           | refine catK_int1 ?_
           | refine packK_u8 ?_
           | refine packK_0 ?_
           | refine packK_1 (by omega) ?_
           | refine packK_2 (by omega) (by omega) ?_
           | refine packK_3 (by omega) (by omega) (by omega) ?_
           | refine packK_4 (by omega) (by omega) (by omega) (by omega) ?_
           | refine packK_any ?_
           | refine shrK_8 0 (by omega) rfl (by omega) ?_
           | refine shrK_8 1 (by omega) rfl (by omega) ?_
           | refine shrK_8 2 (by omega) rfl (by omega) ?_
           | refine shrK_8 3 (by omega) rfl (by omega) ?_
           | refine shlK_8 (by omega) (by omega) ?_
           | refine bitK_or8 (by omega) (by omega) ?_
           | refine nilK_no (by omega) ?_
           | refine takeC_u8 ?_
           | refine dropC_u8 ?_
           | refine dropC_zero ?_
           | refine takeC_any ?_
           | refine dropC_any ?_
           | refine catK_any ?_
           | refine eitherK_l ?_
           | refine nlK_sl ?_
           | refine sideK_intro (by first | omega | rfl | exact Nat.le_of_ble_eq_true rfl | (refine ⟨?_, ?_⟩ <;> first | omega | (simp; done) | (simp; omega)) | (simp; done) | (simp; omega)) ?_
           | refine drawK_intro (by kernel_rfl) (by kernel_rfl) ?_)) <;> (try (conv => whnf))
end Go.Sx

/-
  Contracts of the data's tickets, and of the small functions of the laws about tickets.
-/
import Derived.Test.YtcmcjiacpahliaaCTickD
set_option linter.all false
namespace Go.Sx
open Go.Proofs Go.RowKit
noncomputable def g44 : Par := par 65 (nthLL [[0, 2], [2, 3], [2, 3, 4], [2, 3, 4], [2, 3, 4], [2, 3, 4, 5], [2, 3, 4], [2, 3, 4, 42], [2, 3, 4], [2, 3, 4, 53], [2, 4], [2, 4], [2]]) [2] (nthLL [[], [], [], [], [], [], [0, 1, 0, 4, 3, 19, 63, 127]])
noncomputable def g42 : Par := par 29 (nthLL [[], [1, 2], [0]]) [0] (nthLL [])
noncomputable def g43 : Par := par 34 (nthLL [[1], [2]]) [2] (nthLL [])
set_option maxRecDepth 10000
set_option maxHeartbeats 4000000
theorem sess_range {n : Int} (h : 0 ≤ n ∧ n ≤ 1000000) : 0 ≤ sessN n ∧ sessN n ≤ 18446744073709551615 := by unfold sessN; omega
/-- the data's tickets have no error -/
theorem c_Ticket (q : List UInt8) {m : Nat} (hm : m = q.length) (hq : q.length ≤ 900000) : ∃ li x y z ad se lf is sn si, tickC x y z ad se lf is sn si = 0 ∧ (0 ≤ se ∧ se ≤ 18446744073709551615) ∧ Fn Try.prog 44 [.o (.sl (q.map u8) m)] [] (.one (.c (.a [.b li, .s x, .s y, .s z, .i .i64 ad, .i .u64 se, .i .i64 lf, .i .i64 is, .s sn, .s si]))) [] := by
  have n0 := nx_bounds q 0 (n := 2) (by omega)
  have n1 := nx_bounds q 1 (n := 9) (by omega)
  have n2 := nx_bounds q 2 (n := 9) (by omega)
  have n3 := nx_bounds q 3 (n := 256) (by omega)
  have n4 := nx_bounds q 4 (n := 200) (by omega)
  have n5 := nx_bounds q 5 (n := 256) (by omega)
  have n6 := nx_bounds q 6 (n := 256) (by omega)
  have n7 := nx_bounds q 7 (n := 9) (by omega)
  have n9 := nx_bounds q 9 (n := 3) (by omega)
  have n10 := nx_bounds q 10 (n := 3) (by omega)
  have hs := (sess_ok (n := nx q 2 9) (by omega)).2.2
  by_cases hA : nx q 8 7 = 6
  · have nk := nx_bounds q 12 (n := 2) (by omega)
    by_cases hB : nx q 11 9 = 8
    · by_cases h2 : nx q 12 2 = 0
      · have cL := c_Longest0
        rw [← h2] at cL
        refine ⟨nx q 0 2 == 1, longN, longN, longN, 4294967295 - nx q 9 3, sessN (nx q 2 9), nx q 3 256, 4294967295 - nx q 10 3, longN, longN, tickC_0 longest_valid.1 longest_valid.2.2.1 longest_valid.2.2.2 hs (by omega) (by omega) (by omega), sess_range (by omega), ?_⟩
        refine Fn_intro (G := g44) (goodA rfl) (fn := Try.f44) rfl rfl rfl rfl rfl ?_
        (repeat' ((conv => whnf) <;>
           first
           | exact rfl
           | with_reducible refine boolK_dec (fun _ => ?_) (fun _ => ?_) <;> try (exfalso; omega)
           | refine boolK_beq (fun _ => ?_) (fun _ => ?_) <;> try (exfalso; first | omega | contradiction)
           | refine boolK_bne (fun _ => ?_) (fun _ => ?_) <;> try (exfalso; first | omega | contradiction)
           | with_reducible refine boolK_not ?_
           | with_reducible refine boolK_and ?_
           | with_reducible refine boolK_or ?_
           | with_reducible refine boolK_true ?_
           | with_reducible refine boolK_false ?_
           | refine boolK_intro (fun _ => ?_) (fun _ => ?_) <;> try (exfalso; simp_all; done)
           | refine wrapK_i64 (by omega) ?_
           | refine wrapK_u8 (by omega) ?_
           | refine convK_i64 (by omega) ?_
           | refine convK_byte ?_
           | refine convK_u64 (by omega) ?_
           | refine convK_u16 (by omega) ?_
           | refine convK_u32 (by omega) ?_
           | refine wrapK_byte ?_
           | refine wrapK_u64 (by omega) ?_
           | refine wrapK_u32 (by omega) ?_
           | refine wrapK_u16 (by omega) ?_
           | with_reducible refine natK_lit ?_
           | refine natK_of rfl ?_
           | refine natK_any ?_
           | refine quoK_i64 (by omega) ?_
           | refine quoK_u8 (by omega) ?_
           | refine quoK_u16 (by omega) ?_
           | refine remK_pos (by omega) ?_
           | refine headI_cons ?_
           | refine headS_cons ?_
           | refine headB_cons ?_
           | refine headV_cons ?_
           | refine headX_cons ?_
           | refine headI_u8 (by first | omega | (simp; omega)) (fun _ => ?_)
           | refine headI_ints (by first | omega | (simp; omega)) ?_
           | refine bytesK_map ?_
           | refine catK_nil ?_
           | refine catK_nil' ?_
           | refine catK_u8 ?_
           | refine catK_one ?_
           | refine catK_lit (by omega) ?_
           | refine catK_ints ?_
           | refine catK_int1 ?_
           | refine packK_u8 ?_
           | refine packK_0 ?_
           | refine packK_1 (by omega) ?_
           | refine packK_2 (by omega) (by omega) ?_
           | refine packK_3 (by omega) (by omega) (by omega) ?_
           | refine packK_4 (by omega) (by omega) (by omega) (by omega) ?_
           | refine packK_any ?_
           | refine shrK_8 0 (by omega) rfl (by omega) ?_
           | refine shrK_8 1 (by omega) rfl (by omega) ?_
           | refine shrK_8 2 (by omega) rfl (by omega) ?_
           | refine shrK_8 3 (by omega) rfl (by omega) ?_
           | refine shlK_8 (by omega) (by omega) ?_
           | refine bitK_or8 (by omega) (by omega) ?_
           | refine nilK_no (by omega) ?_
           | refine takeC_u8 ?_
           | refine dropC_u8 ?_
           | refine dropC_zero ?_
           | refine takeC_any ?_
           | refine dropC_any ?_
           | refine callK_intro (c_nx0 q hm _ (by omega) hq) ?_
           | refine callK_intro (c_nx q hm 1 2 rfl _ (by omega) hq) ?_
           | refine callK_intro (c_nx q hm 2 3 rfl _ (by omega) hq) ?_
           | refine callK_intro (c_nx q hm 3 4 rfl _ (by omega) hq) ?_
           | refine callK_intro (c_nx q hm 4 5 rfl _ (by omega) hq) ?_
           | refine callK_intro (c_nx q hm 5 6 rfl _ (by omega) hq) ?_
           | refine callK_intro (c_nx q hm 6 7 rfl _ (by omega) hq) ?_
           | refine callK_intro (c_nx q hm 7 8 rfl _ (by omega) hq) ?_
           | refine callK_intro (c_nx q hm 8 9 rfl _ (by omega) hq) ?_
           | refine callK_intro (c_nx q hm 9 10 rfl _ (by omega) hq) ?_
           | refine callK_intro (c_nx q hm 10 11 rfl _ (by omega) hq) ?_
           | refine callK_intro (c_nx q hm 11 12 rfl _ (by omega) hq) ?_
           | refine callK_intro (c_nx q hm 12 13 rfl _ (by omega) hq) ?_
           | refine callK_intro (c_User _ (by omega)) ?_
           | refine callK_intro (c_Service _ (by omega)) ?_
           | refine callK_intro (c_Session _ (by omega)) ?_
           | refine callK_intro (c_Longest0) ?_
           | refine callK_intro (cL) ?_
           | refine catK_any ?_
           | refine eitherK_l ?_
           | refine nlK_sl ?_
           | refine sideK_intro (by first | omega | rfl | exact Nat.le_of_ble_eq_true rfl | (refine ⟨?_, ?_⟩ <;> first | omega | (simp; done) | (simp; omega)) | (simp; done) | (simp; omega)) ?_
           | refine drawK_intro (by kernel_rfl) (by kernel_rfl) ?_)) <;> (try (conv => whnf))
      · have h2 : nx q 12 2 = 1 := by omega
        have cL := c_Longest1
        rw [← h2] at cL
        refine ⟨nx q 0 2 == 1, longM, longM, longM, 4294967295 - nx q 9 3, sessN (nx q 2 9), nx q 3 256, 4294967295 - nx q 10 3, longN, longN, tickC_0 longest_valid.2.1 longest_valid.2.2.1 longest_valid.2.2.2 hs (by omega) (by omega) (by omega), sess_range (by omega), ?_⟩
        refine Fn_intro (G := g44) (goodA rfl) (fn := Try.f44) rfl rfl rfl rfl rfl ?_
        (repeat' ((conv => whnf) <;>
           first
           | exact rfl
           | with_reducible refine boolK_dec (fun _ => ?_) (fun _ => ?_) <;> try (exfalso; omega)
           | refine boolK_beq (fun _ => ?_) (fun _ => ?_) <;> try (exfalso; first | omega | contradiction)
           | refine boolK_bne (fun _ => ?_) (fun _ => ?_) <;> try (exfalso; first | omega | contradiction)
           | with_reducible refine boolK_not ?_
           | with_reducible refine boolK_and ?_
           | with_reducible refine boolK_or ?_
           | with_reducible refine boolK_true ?_
           | with_reducible refine boolK_false ?_
           | refine boolK_intro (fun _ => ?_) (fun _ => ?_) <;> try (exfalso; simp_all; done)
           | refine wrapK_i64 (by omega) ?_
           | refine wrapK_u8 (by omega) ?_
           | refine convK_i64 (by omega) ?_
           | refine convK_byte ?_
           | refine convK_u64 (by omega) ?_
           | refine convK_u16 (by omega) ?_
           | refine convK_u32 (by omega) ?_
           | refine wrapK_byte ?_
           | refine wrapK_u64 (by omega) ?_
           | refine wrapK_u32 (by omega) ?_
           | refine wrapK_u16 (by omega) ?_
           | with_reducible refine natK_lit ?_
           | refine natK_of rfl ?_
           | refine natK_any ?_
           | refine quoK_i64 (by omega) ?_
           | refine quoK_u8 (by omega) ?_
           | refine quoK_u16 (by omega) ?_
           | refine remK_pos (by omega) ?_
           | refine headI_cons ?_
           | refine headS_cons ?_
           | refine headB_cons ?_
           | refine headV_cons ?_
           | refine headX_cons ?_
           | refine headI_u8 (by first | omega | (simp; omega)) (fun _ => ?_)
           | refine headI_ints (by first | omega | (simp; omega)) ?_
           | refine bytesK_map ?_
           | refine catK_nil ?_
           | refine catK_nil' ?_
           | refine catK_u8 ?_
           | refine catK_one ?_
           | refine catK_lit (by omega) ?_
           | refine catK_ints ?_
           | refine catK_int1 ?_
           | refine packK_u8 ?_
           | refine packK_0 ?_
           | refine packK_1 (by omega) ?_
           | refine packK_2 (by omega) (by omega) ?_
           | refine packK_3 (by omega) (by omega) (by omega) ?_
           | refine packK_4 (by omega) (by omega) (by omega) (by omega) ?_
           | refine packK_any ?_
           | refine shrK_8 0 (by omega) rfl (by omega) ?_
           | refine shrK_8 1 (by omega) rfl (by omega) ?_
           | refine shrK_8 2 (by omega) rfl (by omega) ?_
           | refine shrK_8 3 (by omega) rfl (by omega) ?_
           | refine shlK_8 (by omega) (by omega) ?_
           | refine bitK_or8 (by omega) (by omega) ?_
           | refine nilK_no (by omega) ?_
           | refine takeC_u8 ?_
           | refine dropC_u8 ?_
           | refine dropC_zero ?_
           | refine takeC_any ?_
           | refine dropC_any ?_
           | refine callK_intro (c_nx0 q hm _ (by omega) hq) ?_
           | refine callK_intro (c_nx q hm 1 2 rfl _ (by omega) hq) ?_
           | refine callK_intro (c_nx q hm 2 3 rfl _ (by omega) hq) ?_
           | refine callK_intro (c_nx q hm 3 4 rfl _ (by omega) hq) ?_
           | refine callK_intro (c_nx q hm 4 5 rfl _ (by omega) hq) ?_
           | refine callK_intro (c_nx q hm 5 6 rfl _ (by omega) hq) ?_
           | refine callK_intro (c_nx q hm 6 7 rfl _ (by omega) hq) ?_
           | refine callK_intro (c_nx q hm 7 8 rfl _ (by omega) hq) ?_
           | refine callK_intro (c_nx q hm 8 9 rfl _ (by omega) hq) ?_
           | refine callK_intro (c_nx q hm 9 10 rfl _ (by omega) hq) ?_
           | refine callK_intro (c_nx q hm 10 11 rfl _ (by omega) hq) ?_
           | refine callK_intro (c_nx q hm 11 12 rfl _ (by omega) hq) ?_
           | refine callK_intro (c_nx q hm 12 13 rfl _ (by omega) hq) ?_
           | refine callK_intro (c_User _ (by omega)) ?_
           | refine callK_intro (c_Service _ (by omega)) ?_
           | refine callK_intro (c_Session _ (by omega)) ?_
           | refine callK_intro (c_Longest0) ?_
           | refine callK_intro (cL) ?_
           | refine catK_any ?_
           | refine eitherK_l ?_
           | refine nlK_sl ?_
           | refine sideK_intro (by first | omega | rfl | exact Nat.le_of_ble_eq_true rfl | (refine ⟨?_, ?_⟩ <;> first | omega | (simp; done) | (simp; omega)) | (simp; done) | (simp; omega)) ?_
           | refine drawK_intro (by kernel_rfl) (by kernel_rfl) ?_)) <;> (try (conv => whnf))
    · refine ⟨nx q 0 2 == 1, userN (nx q 1 9), [], realmN (nx q 1 9 / 3), 4294967295 - nx q 9 3, sessN (nx q 2 9), nx q 3 256, 4294967295 - nx q 10 3, serviceN (nx q 7 9), serviceI (nx q 7 9), tickC_0 (user_valid _ _) (service_valid _).1 (service_valid _).2 hs (by omega) (by omega) (by omega), sess_range (by omega), ?_⟩
      refine Fn_intro (G := g44) (goodA rfl) (fn := Try.f44) rfl rfl rfl rfl rfl ?_
      (repeat' ((conv => whnf) <;>
           first
           | exact rfl
           | with_reducible refine boolK_dec (fun _ => ?_) (fun _ => ?_) <;> try (exfalso; omega)
           | refine boolK_beq (fun _ => ?_) (fun _ => ?_) <;> try (exfalso; first | omega | contradiction)
           | refine boolK_bne (fun _ => ?_) (fun _ => ?_) <;> try (exfalso; first | omega | contradiction)
           | with_reducible refine boolK_not ?_
           | with_reducible refine boolK_and ?_
           | with_reducible refine boolK_or ?_
           | with_reducible refine boolK_true ?_
           | with_reducible refine boolK_false ?_
           | refine boolK_intro (fun _ => ?_) (fun _ => ?_) <;> try (exfalso; simp_all; done)
           | refine wrapK_i64 (by omega) ?_
           | refine wrapK_u8 (by omega) ?_
           | refine convK_i64 (by omega) ?_
           | refine convK_byte ?_
           | refine convK_u64 (by omega) ?_
           | refine convK_u16 (by omega) ?_
           | refine convK_u32 (by omega) ?_
           | refine wrapK_byte ?_
           | refine wrapK_u64 (by omega) ?_
           | refine wrapK_u32 (by omega) ?_
           | refine wrapK_u16 (by omega) ?_
           | with_reducible refine natK_lit ?_
           | refine natK_of rfl ?_
           | refine natK_any ?_
           | refine quoK_i64 (by omega) ?_
           | refine quoK_u8 (by omega) ?_
           | refine quoK_u16 (by omega) ?_
           | refine remK_pos (by omega) ?_
           | refine headI_cons ?_
           | refine headS_cons ?_
           | refine headB_cons ?_
           | refine headV_cons ?_
           | refine headX_cons ?_
           | refine headI_u8 (by first | omega | (simp; omega)) (fun _ => ?_)
           | refine headI_ints (by first | omega | (simp; omega)) ?_
           | refine bytesK_map ?_
           | refine catK_nil ?_
           | refine catK_nil' ?_
           | refine catK_u8 ?_
           | refine catK_one ?_
           | refine catK_lit (by omega) ?_
           | refine catK_ints ?_
           | refine catK_int1 ?_
           | refine packK_u8 ?_
           | refine packK_0 ?_
           | refine packK_1 (by omega) ?_
           | refine packK_2 (by omega) (by omega) ?_
           | refine packK_3 (by omega) (by omega) (by omega) ?_
           | refine packK_4 (by omega) (by omega) (by omega) (by omega) ?_
           | refine packK_any ?_
           | refine shrK_8 0 (by omega) rfl (by omega) ?_
           | refine shrK_8 1 (by omega) rfl (by omega) ?_
           | refine shrK_8 2 (by omega) rfl (by omega) ?_
           | refine shrK_8 3 (by omega) rfl (by omega) ?_
           | refine shlK_8 (by omega) (by omega) ?_
           | refine bitK_or8 (by omega) (by omega) ?_
           | refine nilK_no (by omega) ?_
           | refine takeC_u8 ?_
           | refine dropC_u8 ?_
           | refine dropC_zero ?_
           | refine takeC_any ?_
           | refine dropC_any ?_
           | refine callK_intro (c_nx0 q hm _ (by omega) hq) ?_
           | refine callK_intro (c_nx q hm 1 2 rfl _ (by omega) hq) ?_
           | refine callK_intro (c_nx q hm 2 3 rfl _ (by omega) hq) ?_
           | refine callK_intro (c_nx q hm 3 4 rfl _ (by omega) hq) ?_
           | refine callK_intro (c_nx q hm 4 5 rfl _ (by omega) hq) ?_
           | refine callK_intro (c_nx q hm 5 6 rfl _ (by omega) hq) ?_
           | refine callK_intro (c_nx q hm 6 7 rfl _ (by omega) hq) ?_
           | refine callK_intro (c_nx q hm 7 8 rfl _ (by omega) hq) ?_
           | refine callK_intro (c_nx q hm 8 9 rfl _ (by omega) hq) ?_
           | refine callK_intro (c_nx q hm 9 10 rfl _ (by omega) hq) ?_
           | refine callK_intro (c_nx q hm 10 11 rfl _ (by omega) hq) ?_
           | refine callK_intro (c_nx q hm 11 12 rfl _ (by omega) hq) ?_
           | refine callK_intro (c_User _ (by omega)) ?_
           | refine callK_intro (c_Service _ (by omega)) ?_
           | refine callK_intro (c_Session _ (by omega)) ?_
           | refine callK_intro (c_Longest0) ?_
           | refine catK_any ?_
           | refine eitherK_l ?_
           | refine nlK_sl ?_
           | refine sideK_intro (by first | omega | rfl | exact Nat.le_of_ble_eq_true rfl | (refine ⟨?_, ?_⟩ <;> first | omega | (simp; done) | (simp; omega)) | (simp; done) | (simp; omega)) ?_
           | refine drawK_intro (by kernel_rfl) (by kernel_rfl) ?_)) <;> (try (conv => whnf))
  · have nk := nx_bounds q 10 (n := 2) (by omega)
    by_cases hB : nx q 9 9 = 8
    · by_cases h2 : nx q 10 2 = 0
      · have cL := c_Longest0
        rw [← h2] at cL
        refine ⟨nx q 0 2 == 1, longN, longN, longN, nx q 4 200, sessN (nx q 2 9), nx q 3 256, nx q 5 256 * 150 + nx q 6 256, longN, longN, tickC_0 longest_valid.1 longest_valid.2.2.1 longest_valid.2.2.2 hs (by omega) (by omega) (by omega), sess_range (by omega), ?_⟩
        refine Fn_intro (G := g44) (goodA rfl) (fn := Try.f44) rfl rfl rfl rfl rfl ?_
        (repeat' ((conv => whnf) <;>
           first
           | exact rfl
           | with_reducible refine boolK_dec (fun _ => ?_) (fun _ => ?_) <;> try (exfalso; omega)
           | refine boolK_beq (fun _ => ?_) (fun _ => ?_) <;> try (exfalso; first | omega | contradiction)
           | refine boolK_bne (fun _ => ?_) (fun _ => ?_) <;> try (exfalso; first | omega | contradiction)
           | with_reducible refine boolK_not ?_
           | with_reducible refine boolK_and ?_
           | with_reducible refine boolK_or ?_
           | with_reducible refine boolK_true ?_
           | with_reducible refine boolK_false ?_
           | refine boolK_intro (fun _ => ?_) (fun _ => ?_) <;> try (exfalso; simp_all; done)
           | refine wrapK_i64 (by omega) ?_
           | refine wrapK_u8 (by omega) ?_
           | refine convK_i64 (by omega) ?_
           | refine convK_byte ?_
           | refine convK_u64 (by omega) ?_
           | refine convK_u16 (by omega) ?_
           | refine convK_u32 (by omega) ?_
           | refine wrapK_byte ?_
           | refine wrapK_u64 (by omega) ?_
           | refine wrapK_u32 (by omega) ?_
           | refine wrapK_u16 (by omega) ?_
           | with_reducible refine natK_lit ?_
           | refine natK_of rfl ?_
           | refine natK_any ?_
           | refine quoK_i64 (by omega) ?_
           | refine quoK_u8 (by omega) ?_
           | refine quoK_u16 (by omega) ?_
           | refine remK_pos (by omega) ?_
           | refine headI_cons ?_
           | refine headS_cons ?_
           | refine headB_cons ?_
           | refine headV_cons ?_
           | refine headX_cons ?_
           | refine headI_u8 (by first | omega | (simp; omega)) (fun _ => ?_)
           | refine headI_ints (by first | omega | (simp; omega)) ?_
           | refine bytesK_map ?_
           | refine catK_nil ?_
           | refine catK_nil' ?_
           | refine catK_u8 ?_
           | refine catK_one ?_
           | refine catK_lit (by omega) ?_
           | refine catK_ints ?_
           | refine catK_int1 ?_
           | refine packK_u8 ?_
           | refine packK_0 ?_
           | refine packK_1 (by omega) ?_
           | refine packK_2 (by omega) (by omega) ?_
           | refine packK_3 (by omega) (by omega) (by omega) ?_
           | refine packK_4 (by omega) (by omega) (by omega) (by omega) ?_
           | refine packK_any ?_
           | refine shrK_8 0 (by omega) rfl (by omega) ?_
           | refine shrK_8 1 (by omega) rfl (by omega) ?_
           | refine shrK_8 2 (by omega) rfl (by omega) ?_
           | refine shrK_8 3 (by omega) rfl (by omega) ?_
           | refine shlK_8 (by omega) (by omega) ?_
           | refine bitK_or8 (by omega) (by omega) ?_
           | refine nilK_no (by omega) ?_
           | refine takeC_u8 ?_
           | refine dropC_u8 ?_
           | refine dropC_zero ?_
           | refine takeC_any ?_
           | refine dropC_any ?_
           | refine callK_intro (c_nx0 q hm _ (by omega) hq) ?_
           | refine callK_intro (c_nx q hm 1 2 rfl _ (by omega) hq) ?_
           | refine callK_intro (c_nx q hm 2 3 rfl _ (by omega) hq) ?_
           | refine callK_intro (c_nx q hm 3 4 rfl _ (by omega) hq) ?_
           | refine callK_intro (c_nx q hm 4 5 rfl _ (by omega) hq) ?_
           | refine callK_intro (c_nx q hm 5 6 rfl _ (by omega) hq) ?_
           | refine callK_intro (c_nx q hm 6 7 rfl _ (by omega) hq) ?_
           | refine callK_intro (c_nx q hm 7 8 rfl _ (by omega) hq) ?_
           | refine callK_intro (c_nx q hm 8 9 rfl _ (by omega) hq) ?_
           | refine callK_intro (c_nx q hm 9 10 rfl _ (by omega) hq) ?_
           | refine callK_intro (c_nx q hm 10 11 rfl _ (by omega) hq) ?_
           | refine callK_intro (c_User _ (by omega)) ?_
           | refine callK_intro (c_Service _ (by omega)) ?_
           | refine callK_intro (c_Session _ (by omega)) ?_
           | refine callK_intro (c_Longest0) ?_
           | refine callK_intro (cL) ?_
           | refine catK_any ?_
           | refine eitherK_l ?_
           | refine nlK_sl ?_
           | refine sideK_intro (by first | omega | rfl | exact Nat.le_of_ble_eq_true rfl | (refine ⟨?_, ?_⟩ <;> first | omega | (simp; done) | (simp; omega)) | (simp; done) | (simp; omega)) ?_
           | refine drawK_intro (by kernel_rfl) (by kernel_rfl) ?_)) <;> (try (conv => whnf))
      · have h2 : nx q 10 2 = 1 := by omega
        have cL := c_Longest1
        rw [← h2] at cL
        refine ⟨nx q 0 2 == 1, longM, longM, longM, nx q 4 200, sessN (nx q 2 9), nx q 3 256, nx q 5 256 * 150 + nx q 6 256, longN, longN, tickC_0 longest_valid.2.1 longest_valid.2.2.1 longest_valid.2.2.2 hs (by omega) (by omega) (by omega), sess_range (by omega), ?_⟩
        refine Fn_intro (G := g44) (goodA rfl) (fn := Try.f44) rfl rfl rfl rfl rfl ?_
        (repeat' ((conv => whnf) <;>
           first
           | exact rfl
           | with_reducible refine boolK_dec (fun _ => ?_) (fun _ => ?_) <;> try (exfalso; omega)
           | refine boolK_beq (fun _ => ?_) (fun _ => ?_) <;> try (exfalso; first | omega | contradiction)
           | refine boolK_bne (fun _ => ?_) (fun _ => ?_) <;> try (exfalso; first | omega | contradiction)
           | with_reducible refine boolK_not ?_
           | with_reducible refine boolK_and ?_
           | with_reducible refine boolK_or ?_
           | with_reducible refine boolK_true ?_
           | with_reducible refine boolK_false ?_
           | refine boolK_intro (fun _ => ?_) (fun _ => ?_) <;> try (exfalso; simp_all; done)
           | refine wrapK_i64 (by omega) ?_
           | refine wrapK_u8 (by omega) ?_
           | refine convK_i64 (by omega) ?_
           | refine convK_byte ?_
           | refine convK_u64 (by omega) ?_
           | refine convK_u16 (by omega) ?_
           | refine convK_u32 (by omega) ?_
           | refine wrapK_byte ?_
           | refine wrapK_u64 (by omega) ?_
           | refine wrapK_u32 (by omega) ?_
           | refine wrapK_u16 (by omega) ?_
           | with_reducible refine natK_lit ?_
           | refine natK_of rfl ?_
           | refine natK_any ?_
           | refine quoK_i64 (by omega) ?_
           | refine quoK_u8 (by omega) ?_
           | refine quoK_u16 (by omega) ?_
           | refine remK_pos (by omega) ?_
           | refine headI_cons ?_
           | refine headS_cons ?_
           | refine headB_cons ?_
           | refine headV_cons ?_
           | refine headX_cons ?_
           | refine headI_u8 (by first | omega | (simp; omega)) (fun _ => ?_)
           | refine headI_ints (by first | omega | (simp; omega)) ?_
           | refine bytesK_map ?_
           | refine catK_nil ?_
           | refine catK_nil' ?_
           | refine catK_u8 ?_
           | refine catK_one ?_
           | refine catK_lit (by omega) ?_
           | refine catK_ints ?_
           | refine catK_int1 ?_
           | refine packK_u8 ?_
           | refine packK_0 ?_
           | refine packK_1 (by omega) ?_
           | refine packK_2 (by omega) (by omega) ?_
           | refine packK_3 (by omega) (by omega) (by omega) ?_
           | refine packK_4 (by omega) (by omega) (by omega) (by omega) ?_
           | refine packK_any ?_
           | refine shrK_8 0 (by omega) rfl (by omega) ?_
           | refine shrK_8 1 (by omega) rfl (by omega) ?_
           | refine shrK_8 2 (by omega) rfl (by omega) ?_
           | refine shrK_8 3 (by omega) rfl (by omega) ?_
           | refine shlK_8 (by omega) (by omega) ?_
           | refine bitK_or8 (by omega) (by omega) ?_
           | refine nilK_no (by omega) ?_
           | refine takeC_u8 ?_
           | refine dropC_u8 ?_
           | refine dropC_zero ?_
           | refine takeC_any ?_
           | refine dropC_any ?_
           | refine callK_intro (c_nx0 q hm _ (by omega) hq) ?_
           | refine callK_intro (c_nx q hm 1 2 rfl _ (by omega) hq) ?_
           | refine callK_intro (c_nx q hm 2 3 rfl _ (by omega) hq) ?_
           | refine callK_intro (c_nx q hm 3 4 rfl _ (by omega) hq) ?_
           | refine callK_intro (c_nx q hm 4 5 rfl _ (by omega) hq) ?_
           | refine callK_intro (c_nx q hm 5 6 rfl _ (by omega) hq) ?_
           | refine callK_intro (c_nx q hm 6 7 rfl _ (by omega) hq) ?_
           | refine callK_intro (c_nx q hm 7 8 rfl _ (by omega) hq) ?_
           | refine callK_intro (c_nx q hm 8 9 rfl _ (by omega) hq) ?_
           | refine callK_intro (c_nx q hm 9 10 rfl _ (by omega) hq) ?_
           | refine callK_intro (c_nx q hm 10 11 rfl _ (by omega) hq) ?_
           | refine callK_intro (c_User _ (by omega)) ?_
           | refine callK_intro (c_Service _ (by omega)) ?_
           | refine callK_intro (c_Session _ (by omega)) ?_
           | refine callK_intro (c_Longest0) ?_
           | refine callK_intro (cL) ?_
           | refine catK_any ?_
           | refine eitherK_l ?_
           | refine nlK_sl ?_
           | refine sideK_intro (by first | omega | rfl | exact Nat.le_of_ble_eq_true rfl | (refine ⟨?_, ?_⟩ <;> first | omega | (simp; done) | (simp; omega)) | (simp; done) | (simp; omega)) ?_
           | refine drawK_intro (by kernel_rfl) (by kernel_rfl) ?_)) <;> (try (conv => whnf))
    · refine ⟨nx q 0 2 == 1, userN (nx q 1 9), [], realmN (nx q 1 9 / 3), nx q 4 200, sessN (nx q 2 9), nx q 3 256, nx q 5 256 * 150 + nx q 6 256, serviceN (nx q 7 9), serviceI (nx q 7 9), tickC_0 (user_valid _ _) (service_valid _).1 (service_valid _).2 hs (by omega) (by omega) (by omega), sess_range (by omega), ?_⟩
      refine Fn_intro (G := g44) (goodA rfl) (fn := Try.f44) rfl rfl rfl rfl rfl ?_
      (repeat' ((conv => whnf) <;>
           first
           | exact rfl
           | with_reducible refine boolK_dec (fun _ => ?_) (fun _ => ?_) <;> try (exfalso; omega)
           | refine boolK_beq (fun _ => ?_) (fun _ => ?_) <;> try (exfalso; first | omega | contradiction)
           | refine boolK_bne (fun _ => ?_) (fun _ => ?_) <;> try (exfalso; first | omega | contradiction)
           | with_reducible refine boolK_not ?_
           | with_reducible refine boolK_and ?_
           | with_reducible refine boolK_or ?_
           | with_reducible refine boolK_true ?_
           | with_reducible refine boolK_false ?_
           | refine boolK_intro (fun _ => ?_) (fun _ => ?_) <;> try (exfalso; simp_all; done)
           | refine wrapK_i64 (by omega) ?_
           | refine wrapK_u8 (by omega) ?_
           | refine convK_i64 (by omega) ?_
           | refine convK_byte ?_
           | refine convK_u64 (by omega) ?_
           | refine convK_u16 (by omega) ?_
           | refine convK_u32 (by omega) ?_
           | refine wrapK_byte ?_
           | refine wrapK_u64 (by omega) ?_
           | refine wrapK_u32 (by omega) ?_
           | refine wrapK_u16 (by omega) ?_
           | with_reducible refine natK_lit ?_
           | refine natK_of rfl ?_
           | refine natK_any ?_
           | refine quoK_i64 (by omega) ?_
           | refine quoK_u8 (by omega) ?_
           | refine quoK_u16 (by omega) ?_
           | refine remK_pos (by omega) ?_
           | refine headI_cons ?_
           | refine headS_cons ?_
           | refine headB_cons ?_
           | refine headV_cons ?_
           | refine headX_cons ?_
           | refine headI_u8 (by first | omega | (simp; omega)) (fun _ => ?_)
           | refine headI_ints (by first | omega | (simp; omega)) ?_
           | refine bytesK_map ?_
           | refine catK_nil ?_
           | refine catK_nil' ?_
           | refine catK_u8 ?_
           | refine catK_one ?_
           | refine catK_lit (by omega) ?_
           | refine catK_ints ?_
           | refine catK_int1 ?_
           | refine packK_u8 ?_
           | refine packK_0 ?_
           | refine packK_1 (by omega) ?_
           | refine packK_2 (by omega) (by omega) ?_
           | refine packK_3 (by omega) (by omega) (by omega) ?_
           | refine packK_4 (by omega) (by omega) (by omega) (by omega) ?_
           | refine packK_any ?_
           | refine shrK_8 0 (by omega) rfl (by omega) ?_
           | refine shrK_8 1 (by omega) rfl (by omega) ?_
           | refine shrK_8 2 (by omega) rfl (by omega) ?_
           | refine shrK_8 3 (by omega) rfl (by omega) ?_
           | refine shlK_8 (by omega) (by omega) ?_
           | refine bitK_or8 (by omega) (by omega) ?_
           | refine nilK_no (by omega) ?_
           | refine takeC_u8 ?_
           | refine dropC_u8 ?_
           | refine dropC_zero ?_
           | refine takeC_any ?_
           | refine dropC_any ?_
           | refine callK_intro (c_nx0 q hm _ (by omega) hq) ?_
           | refine callK_intro (c_nx q hm 1 2 rfl _ (by omega) hq) ?_
           | refine callK_intro (c_nx q hm 2 3 rfl _ (by omega) hq) ?_
           | refine callK_intro (c_nx q hm 3 4 rfl _ (by omega) hq) ?_
           | refine callK_intro (c_nx q hm 4 5 rfl _ (by omega) hq) ?_
           | refine callK_intro (c_nx q hm 5 6 rfl _ (by omega) hq) ?_
           | refine callK_intro (c_nx q hm 6 7 rfl _ (by omega) hq) ?_
           | refine callK_intro (c_nx q hm 7 8 rfl _ (by omega) hq) ?_
           | refine callK_intro (c_nx q hm 8 9 rfl _ (by omega) hq) ?_
           | refine callK_intro (c_nx q hm 9 10 rfl _ (by omega) hq) ?_
           | refine callK_intro (c_User _ (by omega)) ?_
           | refine callK_intro (c_Service _ (by omega)) ?_
           | refine callK_intro (c_Session _ (by omega)) ?_
           | refine callK_intro (c_Longest0) ?_
           | refine catK_any ?_
           | refine eitherK_l ?_
           | refine nlK_sl ?_
           | refine sideK_intro (by first | omega | rfl | exact Nat.le_of_ble_eq_true rfl | (refine ⟨?_, ?_⟩ <;> first | omega | (simp; done) | (simp; omega)) | (simp; done) | (simp; omega)) ?_
           | refine drawK_intro (by kernel_rfl) (by kernel_rfl) ?_)) <;> (try (conv => whnf))
theorem awk6_h1 : tickN false [97] [98] [99] 0 144115188075855874 0 0 [115] [] = (([0, 97, 0, 98, 0, 99, 0, 0, 0, 0, 0, 2, 0, 0, 0, 0, 0, 0, 2, 0, 0, 0, 0, 0, 115, 0, 0, 0, 0, 0, 0, 0] : List UInt8), 0) := by decide +kernel
theorem c_awk6 : Fn Try.prog 91 [.a [.b false, .s [97], .s [98], .s [99], .i .i64 0, .i .u64 (sessN 1), .i .i64 0, .i .i64 0, .s [115], .s []]] [] (.tup [.fr (([0, 97, 0, 98, 0, 99, 0, 0, 0, 0, 0, 2, 0, 0, 0, 0, 0, 0, 2, 0, 0, 0, 0, 0, 115, 0, 0, 0, 0, 0, 0, 0] : List UInt8).map u8) 32 1, .c (.o (.i .i64 0))]) [] := by
  have c := c_EncodeT false [97] [98] [99] 0 144115188075855874 0 0 [115] [] (by decide) (by decide) (by decide) (by decide) (by decide) (by decide)
  rw [awk6_h1] at c
  exact c
theorem c_awake6 : Fn Try.prog 42 [] [] (.one (.c (.o (.b true)))) [] := by
  refine Fn_intro (G := g42) (goodA rfl) (fn := Try.f42) rfl rfl rfl rfl rfl ?_
  (repeat' ((conv => whnf) <;>
           first
           | exact rfl
           | with_reducible refine boolK_dec (fun _ => ?_) (fun _ => ?_) <;> try (exfalso; omega)
           | refine boolK_beq (fun _ => ?_) (fun _ => ?_) <;> try (exfalso; first | omega | contradiction)
           | refine boolK_bne (fun _ => ?_) (fun _ => ?_) <;> try (exfalso; first | omega | contradiction)
           | with_reducible refine boolK_not ?_
           | with_reducible refine boolK_and ?_
           | with_reducible refine boolK_or ?_
           | with_reducible refine boolK_true ?_
           | with_reducible refine boolK_false ?_
           | refine boolK_intro (fun _ => ?_) (fun _ => ?_) <;> try (exfalso; simp_all; done)
           | refine wrapK_i64 (by omega) ?_
           | refine wrapK_u8 (by omega) ?_
           | refine convK_i64 (by omega) ?_
           | refine convK_byte ?_
           | refine convK_u64 (by omega) ?_
           | refine convK_u16 (by omega) ?_
           | refine convK_u32 (by omega) ?_
           | refine wrapK_byte ?_
           | refine wrapK_u64 (by omega) ?_
           | refine wrapK_u32 (by omega) ?_
           | refine wrapK_u16 (by omega) ?_
           | with_reducible refine natK_lit ?_
           | refine natK_of rfl ?_
           | refine natK_any ?_
           | refine quoK_i64 (by omega) ?_
           | refine quoK_u8 (by omega) ?_
           | refine quoK_u16 (by omega) ?_
           | refine remK_pos (by omega) ?_
           | refine headI_cons ?_
           | refine headS_cons ?_
           | refine headB_cons ?_
           | refine headV_cons ?_
           | refine headX_cons ?_
           | refine headI_u8 (by first | omega | (simp; omega)) (fun _ => ?_)
           | refine headI_ints (by first | omega | (simp; omega)) ?_
           | refine bytesK_map ?_
           | refine catK_nil ?_
           | refine catK_nil' ?_
           | refine catK_u8 ?_
           | refine catK_one ?_
           | refine catK_lit (by omega) ?_
           | refine catK_ints ?_
           | refine catK_int1 ?_
           | refine packK_u8 ?_
           | refine packK_0 ?_
           | refine packK_1 (by omega) ?_
           | refine packK_2 (by omega) (by omega) ?_
           | refine packK_3 (by omega) (by omega) (by omega) ?_
           | refine packK_4 (by omega) (by omega) (by omega) (by omega) ?_
           | refine packK_any ?_
           | refine shrK_8 0 (by omega) rfl (by omega) ?_
           | refine shrK_8 1 (by omega) rfl (by omega) ?_
           | refine shrK_8 2 (by omega) rfl (by omega) ?_
           | refine shrK_8 3 (by omega) rfl (by omega) ?_
           | refine shlK_8 (by omega) (by omega) ?_
           | refine bitK_or8 (by omega) (by omega) ?_
           | refine nilK_no (by omega) ?_
           | refine takeC_u8 ?_
           | refine dropC_u8 ?_
           | refine dropC_zero ?_
           | refine takeC_any ?_
           | refine dropC_any ?_
           | refine callK_intro (c_Session 1 (by omega)) ?_
           | refine callK_intro (c_awk6) ?_
           | refine catK_any ?_
           | refine eitherK_l ?_
           | refine nlK_sl ?_
           | refine sideK_intro (by first | omega | rfl | exact Nat.le_of_ble_eq_true rfl | (refine ⟨?_, ?_⟩ <;> first | omega | (simp; done) | (simp; omega)) | (simp; done) | (simp; omega)) ?_
           | refine drawK_intro (by kernel_rfl) (by kernel_rfl) ?_)) <;> (try (conv => whnf))
theorem c_long6 (li : Bool) (x y z : List UInt8) (ad se lf is : Int) (sn si : List UInt8) : Fn Try.prog 43 [.a [.b li, .s x, .s y, .s z, .i .i64 ad, .i .u64 se, .i .i64 lf, .i .i64 is, .s sn, .s si]] [] (.one (.c (.o (.b (decide (x.length > 100 ∨ y.length > 100 ∨ z.length > 100 ∨ sn.length > 100 ∨ si.length > 100)))))) [] := by
  refine Fn_intro (G := g43) (goodA rfl) (fn := Try.f43) rfl rfl rfl rfl rfl ?_
  (repeat' ((conv => whnf) <;>
           first
           | exact rfl
           | with_reducible refine boolK_dec (fun _ => ?_) (fun _ => ?_) <;> try (exfalso; omega)
           | refine boolK_beq (fun _ => ?_) (fun _ => ?_) <;> try (exfalso; first | omega | contradiction)
           | refine boolK_bne (fun _ => ?_) (fun _ => ?_) <;> try (exfalso; first | omega | contradiction)
           | with_reducible refine boolK_not ?_
           | with_reducible refine boolK_and ?_
           | with_reducible refine boolK_or ?_
           | with_reducible refine boolK_true ?_
           | with_reducible refine boolK_false ?_
           | refine boolK_intro (fun _ => ?_) (fun _ => ?_) <;> try (exfalso; simp_all; done)
           | refine wrapK_i64 (by omega) ?_
           | refine wrapK_u8 (by omega) ?_
           | refine convK_i64 (by omega) ?_
           | refine convK_byte ?_
           | refine convK_u64 (by omega) ?_
           | refine convK_u16 (by omega) ?_
           | refine convK_u32 (by omega) ?_
           | refine wrapK_byte ?_
           | refine wrapK_u64 (by omega) ?_
           | refine wrapK_u32 (by omega) ?_
           | refine wrapK_u16 (by omega) ?_
           | with_reducible refine natK_lit ?_
           | refine natK_of rfl ?_
           | refine natK_any ?_
           | refine quoK_i64 (by omega) ?_
           | refine quoK_u8 (by omega) ?_
           | refine quoK_u16 (by omega) ?_
           | refine remK_pos (by omega) ?_
           | refine headI_cons ?_
           | refine headS_cons ?_
           | refine headB_cons ?_
           | refine headV_cons ?_
           | refine headX_cons ?_
           | refine headI_u8 (by first | omega | (simp; omega)) (fun _ => ?_)
           | refine headI_ints (by first | omega | (simp; omega)) ?_
           | refine bytesK_map ?_
           | refine catK_nil ?_
           | refine catK_nil' ?_
           | refine catK_u8 ?_
           | refine catK_one ?_
           | refine catK_lit (by omega) ?_
           | refine catK_ints ?_
           | refine catK_int1 ?_
           | refine packK_u8 ?_
           | refine packK_0 ?_
           | refine packK_1 (by omega) ?_
           | refine packK_2 (by omega) (by omega) ?_
           | refine packK_3 (by omega) (by omega) (by omega) ?_
           | refine packK_4 (by omega) (by omega) (by omega) (by omega) ?_
           | refine packK_any ?_
           | refine shrK_8 0 (by omega) rfl (by omega) ?_
           | refine shrK_8 1 (by omega) rfl (by omega) ?_
           | refine shrK_8 2 (by omega) rfl (by omega) ?_
           | refine shrK_8 3 (by omega) rfl (by omega) ?_
           | refine shlK_8 (by omega) (by omega) ?_
           | refine bitK_or8 (by omega) (by omega) ?_
           | refine nilK_no (by omega) ?_
           | refine takeC_u8 ?_
           | refine dropC_u8 ?_
           | refine dropC_zero ?_
           | refine takeC_any ?_
           | refine dropC_any ?_
           | refine catK_any ?_
           | refine eitherK_l ?_
           | refine nlK_sl ?_
           | refine sideK_intro (by first | omega | rfl | exact Nat.le_of_ble_eq_true rfl | (refine ⟨?_, ?_⟩ <;> first | omega | (simp; done) | (simp; omega)) | (simp; done) | (simp; omega) | (exact congrArg (fun x => [L.b x]) (decide_eq_decide.mpr (by omega))) | (exact congrArg (fun x => [L.b x]) (Eq.symm (decide_eq_true (by omega)))) | (exact congrArg (fun x => [L.b x]) (Eq.symm (decide_eq_false (by omega))))) ?_
           | refine drawK_intro (by kernel_rfl) (by kernel_rfl) ?_)) <;> (try (conv => whnf))
end Go.Sx

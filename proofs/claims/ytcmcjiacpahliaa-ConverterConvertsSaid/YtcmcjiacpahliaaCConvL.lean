/-
  Contracts of the small functions of the laws about the converter.
-/
import Derived.Test.YtcmcjiacpahliaaCConv
set_option linter.all false
namespace Go.Sx
open Go.Proofs Go.RowKit
noncomputable def g15 : Par := par 42 (nthLL [[], [1], [1, 3], [1, 3], [3, 4, 5], [0]]) [0] (nthLL [[], [], [], [], [], [0, 1, 3, 7, 15, 31, 63, 127, 255, 511, 1023, 2047, 4095, 8191, 16383, 32767, 65535, 131071, 65535, 524287, 1048575, 2097151]])
noncomputable def g16 : Par := par 35 (nthLL [[0], [0, 3], [0, 3, 7], [0, 3], [0, 3, 34], [2], [2]]) [2] (nthLL [])
set_option maxRecDepth 10000
set_option maxHeartbeats 4000000
theorem awk26_h1 : convS (userN 0) [] (realmN (0 / 3)) (serviceN 0) (serviceI 0) (sessN 1) 1000 1299 0 = (tick0, false) := convS_no (by omega)
theorem awk26_h2 : convS (userN 0) [] (realmN (0 / 3)) (serviceN 0) (serviceI 0) (sessN 1) 1000 1300 0 = ((false, userN 0, [], realmN (0 / 3), 0, sessN 1, 0, 1000, serviceN 0, serviceI 0), true) := (convS_yes (by omega) (by decide +kernel)).trans rfl
theorem c_awk26a : Fn Try.prog 20 [.a [.s (userN 0), .s [], .s (realmN (0 / 3)), .s (serviceN 0), .s (serviceI 0), .s (realmN (0 / 3)), .i .u64 (sessN 1), .i .i64 1000, .i .i64 1299, .i .i64 0]] [] (.tup [.c (.a [.b false, .s [], .s [], .s [], .i .i64 0, .i .u64 0, .i .i64 0, .i .i64 0, .s [], .s []]), .c (.o (.b false))]) [] := by
  have c := c_Convert (userN 0) [] (realmN (0 / 3)) (serviceN 0) (serviceI 0) (realmN (0 / 3)) (sessN 1) 1000 1299 0 (by decide) (by omega) (by omega) (by decide +kernel) (by decide +kernel) (by decide +kernel) (by decide +kernel) (by decide +kernel)
  rw [awk26_h1] at c
  exact c
theorem c_awk26b : Fn Try.prog 20 [.a [.s (userN 0), .s [], .s (realmN (0 / 3)), .s (serviceN 0), .s (serviceI 0), .s (realmN (0 / 3)), .i .u64 (sessN 1), .i .i64 1000, .i .i64 1300, .i .i64 0]] [] (.tup [.c (.a [.b false, .s (userN 0), .s [], .s (realmN (0 / 3)), .i .i64 0, .i .u64 (sessN 1), .i .i64 0, .i .i64 1000, .s (serviceN 0), .s (serviceI 0)]), .c (.o (.b true))]) [] := by
  have c := c_Convert (userN 0) [] (realmN (0 / 3)) (serviceN 0) (serviceI 0) (realmN (0 / 3)) (sessN 1) 1000 1300 0 (by decide) (by omega) (by omega) (by decide +kernel) (by decide +kernel) (by decide +kernel) (by decide +kernel) (by decide +kernel)
  rw [awk26_h2] at c
  exact c
theorem c_awake26 : Fn Try.prog 15 [] [] (.one (.c (.o (.b true)))) [] := by
  have cU := c_User 0 (by omega)
  have cS := c_Service 0 (by omega)
  have cK := c_Session 1 (by omega)
  have c1 := c_awk26a
  have c2 := c_awk26b
  generalize userN 0 = U at *
  generalize realmN (0 / 3) = R at *
  generalize serviceN 0 = N at *
  generalize serviceI 0 = I at *
  generalize sessN 1 = S at *
  refine Fn_intro (G := g15) (goodA rfl) (fn := Try.f15) rfl rfl rfl rfl rfl ?_
  (repeat' ((conv => whnf) <;>
           first
           | exact rfl
           | with_reducible refine boolK_dec (fun _ => ?_) (fun _ => ?_) <;> try (exfalso; omega)
           | refine boolK_beq (fun _ => ?_) (fun _ => ?_) <;> try (exfalso; first | omega | contradiction)
           | refine boolK_bne (fun _ => ?_) (fun _ => ?_) <;> try (exfalso; first | omega | contradiction)
           | with_reducible refine boolK_not ?_
           | with_reducible refine boolK_and ?_
           | with_reducible refine boolK_or ?_
           | with_reducible refine boolK_true ?_
           | with_reducible refine boolK_false ?_
           | refine boolK_intro (fun _ => ?_) (fun _ => ?_) <;> try (exfalso; simp_all; done)
           | refine wrapK_i64 (by omega) ?_
           | refine wrapK_u8 (by omega) ?_
           | refine convK_i64 (by omega) ?_
           | refine convK_byte ?_
           | refine convK_u64 (by omega) ?_
           | refine convK_u16 (by omega) ?_
           | refine convK_u32 (by omega) ?_
           | refine wrapK_byte ?_
           | refine wrapK_u64 (by omega) ?_
           | refine wrapK_u32 (by omega) ?_
           | refine wrapK_u16 (by omega) ?_
           | with_reducible refine natK_lit ?_
           | refine natK_of rfl ?_
           | refine natK_any ?_
           | refine quoK_i64 (by omega) ?_
           | refine quoK_u8 (by omega) ?_
           | refine quoK_u16 (by omega) ?_
           | refine remK_pos (by omega) ?_
           | refine headI_cons ?_
           | refine headS_cons ?_
           | refine headB_cons ?_
           | refine headV_cons ?_
           | refine headX_cons ?_
           | refine headI_u8 (by first | omega | (simp; omega)) (fun _ => ?_)
           | refine headI_ints (by first | omega | (simp; omega)) ?_
           | refine bytesK_map ?_
           | refine catK_nil ?_
           | refine catK_nil' ?_
           | refine catK_u8 ?_
           | refine catK_one ?_
           | refine catK_lit (by omega) ?_
           | refine catK_ints ?_
           | refine catK_int1 ?_
           | refine packK_u8 ?_
           | refine packK_0 ?_
           | refine packK_1 (by omega) ?_
           | refine packK_2 (by omega) (by omega) ?_
           | refine packK_3 (by omega) (by omega) (by omega) ?_
           | refine packK_4 (by omega) (by omega) (by omega) (by omega) ?_
           | refine packK_any ?_
           | refine shrK_8 0 (by omega) rfl (by omega) ?_
           | refine shrK_8 1 (by omega) rfl (by omega) ?_
           | refine shrK_8 2 (by omega) rfl (by omega) ?_
           | refine shrK_8 3 (by omega) rfl (by omega) ?_
           | refine shlK_8 (by omega) (by omega) ?_
           | refine bitK_or8 (by omega) (by omega) ?_
           | refine nilK_no (by omega) ?_
           | refine takeC_u8 ?_
           | refine dropC_u8 ?_
           | refine dropC_zero ?_
           | refine takeC_any ?_
           | refine dropC_any ?_
           | refine callK_intro (cU) ?_
           | refine callK_intro (cS) ?_
           | refine callK_intro (cK) ?_
           | refine callK_intro (c1) ?_
           | refine callK_intro (c2) ?_
           | refine catK_any ?_
           | refine eitherK_l ?_
           | refine nlK_sl ?_
           | refine sideK_intro (by first | omega | rfl | exact Nat.le_of_ble_eq_true rfl | (refine ⟨?_, ?_⟩ <;> first | omega | (simp; done) | (simp; omega)) | (simp; done) | (simp; omega)) ?_
           | refine drawK_intro (by kernel_rfl) (by kernel_rfl) ?_)) <;> (try (conv => whnf))
theorem c_long26 (x y z u v w : List UInt8) : Fn Try.prog 16 [.o (.sl [.s x, .s y, .s z, .s u, .s v, .s w] 2)] [] (.one (.c (.o (.b (decide (x.length > 100 ∨ y.length > 100 ∨ z.length > 100 ∨ u.length > 100 ∨ v.length > 100 ∨ w.length > 100)))))) [] := by
  refine Fn_intro (G := g16) (goodA rfl) (fn := Try.f16) rfl rfl rfl rfl rfl ?_
  (repeat' ((conv => whnf) <;>
           first
           | exact rfl
           | with_reducible refine boolK_dec (fun _ => ?_) (fun _ => ?_) <;> try (exfalso; omega)
           | refine boolK_beq (fun _ => ?_) (fun _ => ?_) <;> try (exfalso; first | omega | contradiction)
           | refine boolK_bne (fun _ => ?_) (fun _ => ?_) <;> try (exfalso; first | omega | contradiction)
           | with_reducible refine boolK_not ?_
           | with_reducible refine boolK_and ?_
           | with_reducible refine boolK_or ?_
           | with_reducible refine boolK_true ?_
           | with_reducible refine boolK_false ?_
           | refine boolK_intro (fun _ => ?_) (fun _ => ?_) <;> try (exfalso; simp_all; done)
           | refine wrapK_i64 (by omega) ?_
           | refine wrapK_u8 (by omega) ?_
           | refine convK_i64 (by omega) ?_
           | refine convK_byte ?_
           | refine convK_u64 (by omega) ?_
           | refine convK_u16 (by omega) ?_
           | refine convK_u32 (by omega) ?_
           | refine wrapK_byte ?_
           | refine wrapK_u64 (by omega) ?_
           | refine wrapK_u32 (by omega) ?_
           | refine wrapK_u16 (by omega) ?_
           | with_reducible refine natK_lit ?_
           | refine natK_of rfl ?_
           | refine natK_any ?_
           | refine quoK_i64 (by omega) ?_
           | refine quoK_u8 (by omega) ?_
           | refine quoK_u16 (by omega) ?_
           | refine remK_pos (by omega) ?_
           | refine headI_cons ?_
           | refine headS_cons ?_
           | refine headB_cons ?_
           | refine headV_cons ?_
           | refine headX_cons ?_
           | refine headI_u8 (by first | omega | (simp; omega)) (fun _ => ?_)
           | refine headI_ints (by first | omega | (simp; omega)) ?_
           | refine bytesK_map ?_
           | refine catK_nil ?_
           | refine catK_nil' ?_
           | refine catK_u8 ?_
           | refine catK_one ?_
           | refine catK_lit (by omega) ?_
           | refine catK_ints ?_
           | refine catK_int1 ?_
           | refine packK_u8 ?_
           | refine packK_0 ?_
           | refine packK_1 (by omega) ?_
           | refine packK_2 (by omega) (by omega) ?_
           | refine packK_3 (by omega) (by omega) (by omega) ?_
           | refine packK_4 (by omega) (by omega) (by omega) (by omega) ?_
           | refine packK_any ?_
           | refine shrK_8 0 (by omega) rfl (by omega) ?_
           | refine shrK_8 1 (by omega) rfl (by omega) ?_
           | refine shrK_8 2 (by omega) rfl (by omega) ?_
           | refine shrK_8 3 (by omega) rfl (by omega) ?_
           | refine shlK_8 (by omega) (by omega) ?_
           | refine bitK_or8 (by omega) (by omega) ?_
           | refine nilK_no (by omega) ?_
           | refine takeC_u8 ?_
           | refine dropC_u8 ?_
           | refine dropC_zero ?_
           | refine takeC_any ?_
           | refine dropC_any ?_
           | refine loopK_step (G := g16) ?_
           | refine catK_any ?_
           | refine eitherK_l ?_
           | refine nlK_sl ?_
           | refine sideK_intro (by first | omega | rfl | exact Nat.le_of_ble_eq_true rfl | (refine ⟨?_, ?_⟩ <;> first | omega | (simp; done) | (simp; omega)) | (simp; done) | (simp; omega) | (exact congrArg (fun x => [L.b x]) (Eq.symm (decide_eq_true (by omega)))) | (exact congrArg (fun x => [L.b x]) (Eq.symm (decide_eq_false (by omega))))) ?_
           | refine drawK_intro (by kernel_rfl) (by kernel_rfl) ?_)) <;> (try (conv => whnf))
end Go.Sx

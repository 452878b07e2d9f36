/-
  Contracts of the functions of package ticket and of its reference.
-/
import Derived.Test.YtcmcjiacpahliaaPTick
import Derived.Test.YtcmcjiacpahliaaCKey
import Derived.Test.YtcmcjiacpahliaaCFieldP
import Derived.Test.YtcmcjiacpahliaaCData
set_option linter.all false
namespace Go.Sx
open Go.Proofs Go.RowKit
noncomputable def g137 : Par := par 12 (nthLL [[0, 1], [4]]) [4] (nthLL [])
noncomputable def g140 : Par := par 12 (nthLL [[0, 1], [4]]) [4] (nthLL [])
noncomputable def g73 : Par := par 42 (nthLL [[1], [1, 3], [2], [1, 20], [2], [25], [2], [2]]) [2] (nthLL [])
noncomputable def g75 : Par := par 39 (nthLL [[1], [1, 18], [2], [1, 22], [2], [38], [2], [2]]) [2] (nthLL [])
noncomputable def g91 : Par := par 52 (nthLL [[1], [1, 4], [1, 4, 10], [2, 3], [1, 5], [1, 5, 13], [1, 5], [1, 6], [1, 6], [1, 6], [1, 6], [1, 6], [1, 6], [1, 6], [6], [2, 3]]) [2, 3, 4] (nthLL [])
noncomputable def g92 : Par := par 46 (nthLL [[1], [1, 4], [1, 4, 10], [2, 3], [1, 5], [1, 5, 13], [1, 5], [1, 6], [1, 6], [1, 6], [2, 3]]) [2, 3, 4] (nthLL [[], [], [], [], [], [], [], [0, 1, 0, 4, 15, 31], [0, 0, 2, 0, 8, 31, 0, 64, 255, 511, 1023], [0, 0, 2, 7, 0, 16, 0, 64, 255, 511], [0, 0, 2, 7, 0, 16, 63, 127, 255, 511]])
set_option maxRecDepth 10000
set_option maxHeartbeats 4000000
theorem c_concat2 (a b : List UInt8) {m n : Nat} (hm : m = a.length) (hn : n = b.length) (h : a.length + b.length ≤ 900000) : Fn Try.prog 109 [.o (.sl [.sl (a.map u8) m, .sl (b.map u8) n] 2)] [] (.one (.fr ((a ++ b).map u8) (a.length + b.length) 1)) [] := by
  subst hm; subst hn
  have c := c_concat [a, b] rfl (by simp; omega) (by simp)
  have e : [a, b].flatten = a ++ b := by simp
  rw [e, List.length_append] at c
  exact c
theorem c_withinT (n m : Int) : Fn Try.prog 137 [.o (.i .i64 n), .o (.i .i64 m)] [] (.one (.c (.o (.b (decide (0 ≤ n ∧ n ≤ m)))))) [] := by
  refine Fn_intro (G := g137) (goodA rfl) (fn := Try.f137) rfl rfl rfl rfl rfl ?_
  (repeat' ((conv => whnf) <;>
           first
           | exact rfl
           | with_reducible refine boolK_dec (fun _ => ?_) (fun _ => ?_) <;> try (exfalso; omega)
           | refine boolK_beq (fun _ => ?_) (fun _ => ?_) <;> try (exfalso; first | omega | contradiction)
           | refine boolK_bne (fun _ => ?_) (fun _ => ?_) <;> try (exfalso; first | omega | contradiction)
           | with_reducible refine boolK_not ?_
           | with_reducible refine boolK_and ?_
           | with_reducible refine boolK_or ?_
           | with_reducible refine boolK_true ?_
           | with_reducible refine boolK_false ?_
           | refine boolK_intro (fun _ => ?_) (fun _ => ?_) <;> try (exfalso; simp_all; done)
           | refine wrapK_i64 (by omega) ?_
           | refine wrapK_u8 (by omega) ?_
           | refine convK_i64 (by omega) ?_
           | refine convK_byte ?_
           | refine convK_u64 (by omega) ?_
           | refine convK_u16 (by omega) ?_
           | refine convK_u32 (by omega) ?_
           | refine wrapK_byte ?_
           | refine wrapK_u64 (by omega) ?_
           | refine wrapK_u32 (by omega) ?_
           | refine wrapK_u16 (by omega) ?_
           | with_reducible refine natK_lit ?_
           | refine natK_of rfl ?_
           | refine natK_any ?_
           | refine quoK_i64 (by omega) ?_
           | refine quoK_u8 (by omega) ?_
           | refine quoK_u16 (by omega) ?_
           | refine remK_pos (by omega) ?_
           | refine headI_cons ?_
           | refine headS_cons ?_
           | refine headB_cons ?_
           | refine headV_cons ?_
           | refine headX_cons ?_
           | refine headI_u8 (by first | omega | (simp; omega)) (fun _ => ?_)
           | refine headI_ints (by first | omega | (simp; omega)) ?_
           | refine bytesK_map ?_
           | refine catK_nil ?_
           | refine catK_nil' ?_
           | refine catK_u8 ?_
           | refine catK_one ?_
           | refine catK_lit (by omega) ?_
           | refine catK_ints ?_
           | refine catK_int1 ?_
           | refine packK_u8 ?_
           | refine packK_0 ?_
           | refine packK_1 (by omega) ?_
           | refine packK_2 (by omega) (by omega) ?_
           | refine packK_3 (by omega) (by omega) (by omega) ?_
           | refine packK_4 (by omega) (by omega) (by omega) (by omega) ?_
           | refine packK_any ?_
           | refine shrK_8 0 (by omega) rfl (by omega) ?_
           | refine shrK_8 1 (by omega) rfl (by omega) ?_
           | refine shrK_8 2 (by omega) rfl (by omega) ?_
           | refine shrK_8 3 (by omega) rfl (by omega) ?_
           | refine shlK_8 (by omega) (by omega) ?_
           | refine bitK_or8 (by omega) (by omega) ?_
           | refine nilK_no (by omega) ?_
           | refine takeC_u8 ?_
           | refine dropC_u8 ?_
           | refine dropC_zero ?_
           | refine takeC_any ?_
           | refine dropC_any ?_
           | refine catK_any ?_
           | refine eitherK_l ?_
           | refine nlK_sl ?_
           | refine sideK_intro (by first | omega | rfl | exact Nat.le_of_ble_eq_true rfl | (refine ⟨?_, ?_⟩ <;> first | omega | (simp; done) | (simp; omega)) | (simp; done) | (simp; omega) | (exact congrArg (fun x => [L.b x]) (decide_eq_decide.mpr (by omega))) | (exact congrArg (fun x => [L.b x]) (Eq.symm (decide_eq_true (by omega)))) | (exact congrArg (fun x => [L.b x]) (Eq.symm (decide_eq_false (by omega))))) ?_
           | refine drawK_intro (by kernel_rfl) (by kernel_rfl) ?_)) <;> (try (conv => whnf))
theorem c_rwithinT (n m : Int) : Fn Try.prog 140 [.o (.i .i64 n), .o (.i .i64 m)] [] (.one (.c (.o (.b (decide (0 ≤ n ∧ n ≤ m)))))) [] := by
  refine Fn_intro (G := g140) (goodA rfl) (fn := Try.f140) rfl rfl rfl rfl rfl ?_
  (repeat' ((conv => whnf) <;>
           first
           | exact rfl
           | with_reducible refine boolK_dec (fun _ => ?_) (fun _ => ?_) <;> try (exfalso; omega)
           | refine boolK_beq (fun _ => ?_) (fun _ => ?_) <;> try (exfalso; first | omega | contradiction)
           | refine boolK_bne (fun _ => ?_) (fun _ => ?_) <;> try (exfalso; first | omega | contradiction)
           | with_reducible refine boolK_not ?_
           | with_reducible refine boolK_and ?_
           | with_reducible refine boolK_or ?_
           | with_reducible refine boolK_true ?_
           | with_reducible refine boolK_false ?_
           | refine boolK_intro (fun _ => ?_) (fun _ => ?_) <;> try (exfalso; simp_all; done)
           | refine wrapK_i64 (by omega) ?_
           | refine wrapK_u8 (by omega) ?_
           | refine convK_i64 (by omega) ?_
           | refine convK_byte ?_
           | refine convK_u64 (by omega) ?_
           | refine convK_u16 (by omega) ?_
           | refine convK_u32 (by omega) ?_
           | refine wrapK_byte ?_
           | refine wrapK_u64 (by omega) ?_
           | refine wrapK_u32 (by omega) ?_
           | refine wrapK_u16 (by omega) ?_
           | with_reducible refine natK_lit ?_
           | refine natK_of rfl ?_
           | refine natK_any ?_
           | refine quoK_i64 (by omega) ?_
           | refine quoK_u8 (by omega) ?_
           | refine quoK_u16 (by omega) ?_
           | refine remK_pos (by omega) ?_
           | refine headI_cons ?_
           | refine headS_cons ?_
           | refine headB_cons ?_
           | refine headV_cons ?_
           | refine headX_cons ?_
           | refine headI_u8 (by first | omega | (simp; omega)) (fun _ => ?_)
           | refine headI_ints (by first | omega | (simp; omega)) ?_
           | refine bytesK_map ?_
           | refine catK_nil ?_
           | refine catK_nil' ?_
           | refine catK_u8 ?_
           | refine catK_one ?_
           | refine catK_lit (by omega) ?_
           | refine catK_ints ?_
           | refine catK_int1 ?_
           | refine packK_u8 ?_
           | refine packK_0 ?_
           | refine packK_1 (by omega) ?_
           | refine packK_2 (by omega) (by omega) ?_
           | refine packK_3 (by omega) (by omega) (by omega) ?_
           | refine packK_4 (by omega) (by omega) (by omega) (by omega) ?_
           | refine packK_any ?_
           | refine shrK_8 0 (by omega) rfl (by omega) ?_
           | refine shrK_8 1 (by omega) rfl (by omega) ?_
           | refine shrK_8 2 (by omega) rfl (by omega) ?_
           | refine shrK_8 3 (by omega) rfl (by omega) ?_
           | refine shlK_8 (by omega) (by omega) ?_
           | refine bitK_or8 (by omega) (by omega) ?_
           | refine nilK_no (by omega) ?_
           | refine takeC_u8 ?_
           | refine dropC_u8 ?_
           | refine dropC_zero ?_
           | refine takeC_any ?_
           | refine dropC_any ?_
           | refine catK_any ?_
           | refine eitherK_l ?_
           | refine nlK_sl ?_
           | refine sideK_intro (by first | omega | rfl | exact Nat.le_of_ble_eq_true rfl | (refine ⟨?_, ?_⟩ <;> first | omega | (simp; done) | (simp; omega)) | (simp; done) | (simp; omega) | (exact congrArg (fun x => [L.b x]) (decide_eq_decide.mpr (by omega))) | (exact congrArg (fun x => [L.b x]) (Eq.symm (decide_eq_true (by omega)))) | (exact congrArg (fun x => [L.b x]) (Eq.symm (decide_eq_false (by omega))))) ?_
           | refine drawK_intro (by kernel_rfl) (by kernel_rfl) ?_)) <;> (try (conv => whnf))
theorem c_CheckT (li : Bool) (x y z : List UInt8) (ad se lf is : Int) (sn si : List UInt8) (hse : 0 ≤ se ∧ se ≤ 18446744073709551615) (hx : x.length ≤ 100000) (hy : y.length ≤ 100000) (hz : z.length ≤ 100000) (hn : sn.length ≤ 100000) (hi : si.length ≤ 100000) : Fn Try.prog 73 [.a [.b li, .s x, .s y, .s z, .i .i64 ad, .i .u64 se, .i .i64 lf, .i .i64 is, .s sn, .s si]] [] (.one (.c (.o (.i .i64 (tickC x y z ad se lf is sn si))))) [] := by
  refine Fn_intro (G := g73) (goodA rfl) (fn := Try.f73) rfl rfl rfl rfl rfl ?_
  (repeat' ((conv => whnf) <;>
           first
           | exact rfl
           | with_reducible refine boolK_dec (fun _ => ?_) (fun _ => ?_) <;> try (exfalso; omega)
           | refine boolK_beq (fun _ => ?_) (fun _ => ?_) <;> try (exfalso; first | omega | contradiction)
           | refine boolK_bne (fun _ => ?_) (fun _ => ?_) <;> try (exfalso; first | omega | contradiction)
           | with_reducible refine boolK_not ?_
           | with_reducible refine boolK_and ?_
           | with_reducible refine boolK_or ?_
           | with_reducible refine boolK_true ?_
           | with_reducible refine boolK_false ?_
           | refine boolK_intro (fun _ => ?_) (fun _ => ?_) <;> try (exfalso; simp_all; done)
           | refine wrapK_i64 (by omega) ?_
           | refine wrapK_u8 (by omega) ?_
           | refine convK_i64 (by omega) ?_
           | refine convK_byte ?_
           | refine convK_u64 (by omega) ?_
           | refine convK_u16 (by omega) ?_
           | refine convK_u32 (by omega) ?_
           | refine wrapK_byte ?_
           | refine wrapK_u64 (by omega) ?_
           | refine wrapK_u32 (by omega) ?_
           | refine wrapK_u16 (by omega) ?_
           | with_reducible refine natK_lit ?_
           | refine natK_of rfl ?_
           | refine natK_any ?_
           | refine quoK_i64 (by omega) ?_
           | refine quoK_u8 (by omega) ?_
           | refine quoK_u16 (by omega) ?_
           | refine remK_pos (by omega) ?_
           | refine headI_cons ?_
           | refine headS_cons ?_
           | refine headB_cons ?_
           | refine headV_cons ?_
           | refine headX_cons ?_
           | refine headI_u8 (by first | omega | (simp; omega)) (fun _ => ?_)
           | refine headI_ints (by first | omega | (simp; omega)) ?_
           | refine bytesK_map ?_
           | refine catK_nil ?_
           | refine catK_nil' ?_
           | refine catK_u8 ?_
           | refine catK_one ?_
           | refine catK_lit (by omega) ?_
           | refine catK_ints ?_
           | refine catK_int1 ?_
           | refine packK_u8 ?_
           | refine packK_0 ?_
           | refine packK_1 (by omega) ?_
           | refine packK_2 (by omega) (by omega) ?_
           | refine packK_3 (by omega) (by omega) (by omega) ?_
           | refine packK_4 (by omega) (by omega) (by omega) (by omega) ?_
           | refine packK_any ?_
           | refine shrK_8 0 (by omega) rfl (by omega) ?_
           | refine shrK_8 1 (by omega) rfl (by omega) ?_
           | refine shrK_8 2 (by omega) rfl (by omega) ?_
           | refine shrK_8 3 (by omega) rfl (by omega) ?_
           | refine shlK_8 (by omega) (by omega) ?_
           | refine bitK_or8 (by omega) (by omega) ?_
           | refine nilK_no (by omega) ?_
           | refine takeC_u8 ?_
           | refine dropC_u8 ?_
           | refine dropC_zero ?_
           | refine takeC_any ?_
           | refine dropC_any ?_
           | refine callK_intro (c_Valid _ _ _ (by omega) (by omega) (by omega)) ?_
           | refine callK_intro (c_ValidName _ (by omega)) ?_
           | refine callK_intro (c_ValidInstance _ (by omega)) ?_
           | refine callK_intro (c_Class _ hse) ?_
           | refine callK_intro (c_withinT _ _) ?_
           | refine catK_any ?_
           | refine eitherK_l ?_
           | refine nlK_sl ?_
           | refine sideK_intro (by first | omega | rfl | exact Nat.le_of_ble_eq_true rfl | (refine ⟨?_, ?_⟩ <;> first | omega | (simp; done) | (simp; omega)) | (simp; done) | (simp; omega) | first | (rw [tickC_3 (.inl (by assumption))]; done) | (rw [tickC_3 (.inl (by assumption))]; rfl) | (rw [tickC_3 (.inl (by assumption))]; exact ⟨rfl, rfl⟩) | (rw [tickC_3 (.inl (by assumption))]; exact ⟨rfl, rfl, rfl⟩) | first | (rw [tickC_3 (.inr (.inl (by assumption)))]; done) | (rw [tickC_3 (.inr (.inl (by assumption)))]; rfl) | (rw [tickC_3 (.inr (.inl (by assumption)))]; exact ⟨rfl, rfl⟩) | (rw [tickC_3 (.inr (.inl (by assumption)))]; exact ⟨rfl, rfl, rfl⟩) | first | (rw [tickC_3 (.inr (.inr (by assumption)))]; done) | (rw [tickC_3 (.inr (.inr (by assumption)))]; rfl) | (rw [tickC_3 (.inr (.inr (by assumption)))]; exact ⟨rfl, rfl⟩) | (rw [tickC_3 (.inr (.inr (by assumption)))]; exact ⟨rfl, rfl, rfl⟩) | first | (rw [tickC_10 (by assumption) (by assumption) (by assumption) (by assumption)]; done) | (rw [tickC_10 (by assumption) (by assumption) (by assumption) (by assumption)]; rfl) | (rw [tickC_10 (by assumption) (by assumption) (by assumption) (by assumption)]; exact ⟨rfl, rfl⟩) | (rw [tickC_10 (by assumption) (by assumption) (by assumption) (by assumption)]; exact ⟨rfl, rfl, rfl⟩) | first | (rw [tickC_4 (by assumption) (by assumption) (by assumption) (by assumption) (by omega)]; done) | (rw [tickC_4 (by assumption) (by assumption) (by assumption) (by assumption) (by omega)]; rfl) | (rw [tickC_4 (by assumption) (by assumption) (by assumption) (by assumption) (by omega)]; exact ⟨rfl, rfl⟩) | (rw [tickC_4 (by assumption) (by assumption) (by assumption) (by assumption) (by omega)]; exact ⟨rfl, rfl, rfl⟩) | first | (rw [tickC_0 (by assumption) (by assumption) (by assumption) (by assumption) (by omega) (by omega) (by omega)]; done) | (rw [tickC_0 (by assumption) (by assumption) (by assumption) (by assumption) (by omega) (by omega) (by omega)]; rfl) | (rw [tickC_0 (by assumption) (by assumption) (by assumption) (by assumption) (by omega) (by omega) (by omega)]; exact ⟨rfl, rfl⟩) | (rw [tickC_0 (by assumption) (by assumption) (by assumption) (by assumption) (by omega) (by omega) (by omega)]; exact ⟨rfl, rfl, rfl⟩)) ?_
           | refine drawK_intro (by kernel_rfl) (by kernel_rfl) ?_)) <;> (try (conv => whnf))
theorem c_rCheckT (li : Bool) (x y z : List UInt8) (ad se lf is : Int) (sn si : List UInt8) (hse : 0 ≤ se ∧ se ≤ 18446744073709551615) (hx : x.length ≤ 100000) (hy : y.length ≤ 100000) (hz : z.length ≤ 100000) (hn : sn.length ≤ 100000) (hi : si.length ≤ 100000) : Fn Try.prog 75 [.a [.b li, .s x, .s y, .s z, .i .i64 ad, .i .u64 se, .i .i64 lf, .i .i64 is, .s sn, .s si]] [] (.one (.c (.o (.i .i64 (tickC x y z ad se lf is sn si))))) [] := by
  refine Fn_intro (G := g75) (goodA rfl) (fn := Try.f75) rfl rfl rfl rfl rfl ?_
  (repeat' ((conv => whnf) <;>
           first
           | exact rfl
           | with_reducible refine boolK_dec (fun _ => ?_) (fun _ => ?_) <;> try (exfalso; omega)
           | refine boolK_beq (fun _ => ?_) (fun _ => ?_) <;> try (exfalso; first | omega | contradiction)
           | refine boolK_bne (fun _ => ?_) (fun _ => ?_) <;> try (exfalso; first | omega | contradiction)
           | with_reducible refine boolK_not ?_
           | with_reducible refine boolK_and ?_
           | with_reducible refine boolK_or ?_
           | with_reducible refine boolK_true ?_
           | with_reducible refine boolK_false ?_
           | refine boolK_intro (fun _ => ?_) (fun _ => ?_) <;> try (exfalso; simp_all; done)
           | refine wrapK_i64 (by omega) ?_
           | refine wrapK_u8 (by omega) ?_
           | refine convK_i64 (by omega) ?_
           | refine convK_byte ?_
           | refine convK_u64 (by omega) ?_
           | refine convK_u16 (by omega) ?_
           | refine convK_u32 (by omega) ?_
           | refine wrapK_byte ?_
           | refine wrapK_u64 (by omega) ?_
           | refine wrapK_u32 (by omega) ?_
           | refine wrapK_u16 (by omega) ?_
           | with_reducible refine natK_lit ?_
           | refine natK_of rfl ?_
           | refine natK_any ?_
           | refine quoK_i64 (by omega) ?_
           | refine quoK_u8 (by omega) ?_
           | refine quoK_u16 (by omega) ?_
           | refine remK_pos (by omega) ?_
           | refine headI_cons ?_
           | refine headS_cons ?_
           | refine headB_cons ?_
           | refine headV_cons ?_
           | refine headX_cons ?_
           | refine headI_u8 (by first | omega | (simp; omega)) (fun _ => ?_)
           | refine headI_ints (by first | omega | (simp; omega)) ?_
           | refine bytesK_map ?_
           | refine catK_nil ?_
           | refine catK_nil' ?_
           | refine catK_u8 ?_
           | refine catK_one ?_
           | refine catK_lit (by omega) ?_
           | refine catK_ints ?_
           | refine catK_int1 ?_
           | refine packK_u8 ?_
           | refine packK_0 ?_
           | refine packK_1 (by omega) ?_
           | refine packK_2 (by omega) (by omega) ?_
           | refine packK_3 (by omega) (by omega) (by omega) ?_
           | refine packK_4 (by omega) (by omega) (by omega) (by omega) ?_
           | refine packK_any ?_
           | refine shrK_8 0 (by omega) rfl (by omega) ?_
           | refine shrK_8 1 (by omega) rfl (by omega) ?_
           | refine shrK_8 2 (by omega) rfl (by omega) ?_
           | refine shrK_8 3 (by omega) rfl (by omega) ?_
           | refine shlK_8 (by omega) (by omega) ?_
           | refine bitK_or8 (by omega) (by omega) ?_
           | refine nilK_no (by omega) ?_
           | refine takeC_u8 ?_
           | refine dropC_u8 ?_
           | refine dropC_zero ?_
           | refine takeC_any ?_
           | refine dropC_any ?_
           | refine callK_intro (c_rValid _ _ _ (by omega) (by omega) (by omega)) ?_
           | refine callK_intro (c_rValidName _ (by omega)) ?_
           | refine callK_intro (c_rValidInstance _ (by omega)) ?_
           | refine callK_intro (c_rClass _ hse) ?_
           | refine callK_intro (c_rwithinT _ _) ?_
           | refine catK_any ?_
           | refine eitherK_l ?_
           | refine nlK_sl ?_
           | refine sideK_intro (by first | omega | rfl | exact Nat.le_of_ble_eq_true rfl | (refine ⟨?_, ?_⟩ <;> first | omega | (simp; done) | (simp; omega)) | (simp; done) | (simp; omega) | first | (rw [tickC_3 (.inl (by assumption))]; done) | (rw [tickC_3 (.inl (by assumption))]; rfl) | (rw [tickC_3 (.inl (by assumption))]; exact ⟨rfl, rfl⟩) | (rw [tickC_3 (.inl (by assumption))]; exact ⟨rfl, rfl, rfl⟩) | first | (rw [tickC_3 (.inr (.inl (by assumption)))]; done) | (rw [tickC_3 (.inr (.inl (by assumption)))]; rfl) | (rw [tickC_3 (.inr (.inl (by assumption)))]; exact ⟨rfl, rfl⟩) | (rw [tickC_3 (.inr (.inl (by assumption)))]; exact ⟨rfl, rfl, rfl⟩) | first | (rw [tickC_3 (.inr (.inr (by assumption)))]; done) | (rw [tickC_3 (.inr (.inr (by assumption)))]; rfl) | (rw [tickC_3 (.inr (.inr (by assumption)))]; exact ⟨rfl, rfl⟩) | (rw [tickC_3 (.inr (.inr (by assumption)))]; exact ⟨rfl, rfl, rfl⟩) | first | (rw [tickC_10 (by assumption) (by assumption) (by assumption) (by assumption)]; done) | (rw [tickC_10 (by assumption) (by assumption) (by assumption) (by assumption)]; rfl) | (rw [tickC_10 (by assumption) (by assumption) (by assumption) (by assumption)]; exact ⟨rfl, rfl⟩) | (rw [tickC_10 (by assumption) (by assumption) (by assumption) (by assumption)]; exact ⟨rfl, rfl, rfl⟩) | first | (rw [tickC_4 (by assumption) (by assumption) (by assumption) (by assumption) (by omega)]; done) | (rw [tickC_4 (by assumption) (by assumption) (by assumption) (by assumption) (by omega)]; rfl) | (rw [tickC_4 (by assumption) (by assumption) (by assumption) (by assumption) (by omega)]; exact ⟨rfl, rfl⟩) | (rw [tickC_4 (by assumption) (by assumption) (by assumption) (by assumption) (by omega)]; exact ⟨rfl, rfl, rfl⟩) | first | (rw [tickC_0 (by assumption) (by assumption) (by assumption) (by assumption) (by omega) (by omega) (by omega)]; done) | (rw [tickC_0 (by assumption) (by assumption) (by assumption) (by assumption) (by omega) (by omega) (by omega)]; rfl) | (rw [tickC_0 (by assumption) (by assumption) (by assumption) (by assumption) (by omega) (by omega) (by omega)]; exact ⟨rfl, rfl⟩) | (rw [tickC_0 (by assumption) (by assumption) (by assumption) (by assumption) (by omega) (by omega) (by omega)]; exact ⟨rfl, rfl, rfl⟩)) ?_
           | refine drawK_intro (by kernel_rfl) (by kernel_rfl) ?_)) <;> (try (conv => whnf))
theorem c_EncodeT (li : Bool) (x y z : List UInt8) (ad se lf is : Int) (sn si : List UInt8) (hse : 0 ≤ se ∧ se ≤ 18446744073709551615) (hx : x.length ≤ 100000) (hy : y.length ≤ 100000) (hz : z.length ≤ 100000) (hn : sn.length ≤ 100000) (hi : si.length ≤ 100000) : Fn Try.prog 91 [.a [.b li, .s x, .s y, .s z, .i .i64 ad, .i .u64 se, .i .i64 lf, .i .i64 is, .s sn, .s si]] [] (.tup [.fr ((tickN li x y z ad se lf is sn si).1.map u8) (tickN li x y z ad se lf is sn si).1.length 1, .c (.o (.i .i64 (tickN li x y z ad se lf is sn si).2))]) [] := by
  have hkb := keyB_len se
  refine Fn_intro (G := g91) (goodA rfl) (fn := Try.f91) rfl rfl rfl rfl rfl ?_
  by_cases hc : tickC x y z ad se lf is sn si = 0
  · rw [tickN_ok hc]
    have hl := tickB_len li x y z ad se lf is sn si
    cases li
    · (repeat' ((conv => whnf) <;>
           first
           | exact rfl
           | with_reducible refine boolK_dec (fun _ => ?_) (fun _ => ?_) <;> try (exfalso; omega)
           | refine boolK_beq (fun _ => ?_) (fun _ => ?_) <;> try (exfalso; first | omega | contradiction)
           | refine boolK_bne (fun _ => ?_) (fun _ => ?_) <;> try (exfalso; first | omega | contradiction)
           | with_reducible refine boolK_not ?_
           | with_reducible refine boolK_and ?_
           | with_reducible refine boolK_or ?_
           | with_reducible refine boolK_true ?_
           | with_reducible refine boolK_false ?_
           | refine boolK_intro (fun _ => ?_) (fun _ => ?_) <;> try (exfalso; simp_all; done)
           | refine wrapK_i64 (by omega) ?_
           | refine wrapK_u8 (by omega) ?_
           | refine convK_i64 (by omega) ?_
           | refine convK_byte ?_
           | refine convK_u64 (by omega) ?_
           | refine convK_u16 (by omega) ?_
           | refine convK_u32 (by omega) ?_
           | refine wrapK_byte ?_
           | refine wrapK_u64 (by omega) ?_
           | refine wrapK_u32 (by omega) ?_
           | refine wrapK_u16 (by omega) ?_
           | with_reducible refine natK_lit ?_
           | refine natK_of rfl ?_
           | refine natK_any ?_
           | refine quoK_i64 (by omega) ?_
           | refine quoK_u8 (by omega) ?_
           | refine quoK_u16 (by omega) ?_
           | refine remK_pos (by omega) ?_
           | refine headI_cons ?_
           | refine headS_cons ?_
           | refine headB_cons ?_
           | refine headV_cons ?_
           | refine headX_cons ?_
           | refine headI_u8 (by first | omega | (simp; omega)) (fun _ => ?_)
           | refine headI_ints (by first | omega | (simp; omega)) ?_
           | refine bytesK_map ?_
           | refine catK_nil ?_
           | refine catK_nil' ?_
           | refine catK_u8 ?_
           | refine catK_one ?_
           | refine catK_lit (by omega) ?_
           | refine catK_ints ?_
           | refine catK_int1 ?_
           | refine packK_u8 ?_
           | refine packK_0 ?_
           | refine packK_1 (by omega) ?_
           | refine packK_2 (by omega) (by omega) ?_
           | refine packK_3 (by omega) (by omega) (by omega) ?_
           | refine packK_4 (by omega) (by omega) (by omega) (by omega) ?_
           | refine packK_any ?_
           | refine shrK_8 0 (by omega) rfl (by omega) ?_
           | refine shrK_8 1 (by omega) rfl (by omega) ?_
           | refine shrK_8 2 (by omega) rfl (by omega) ?_
           | refine shrK_8 3 (by omega) rfl (by omega) ?_
           | refine shlK_8 (by omega) (by omega) ?_
           | refine bitK_or8 (by omega) (by omega) ?_
           | refine nilK_no (by omega) ?_
           | refine takeC_u8 ?_
           | refine dropC_u8 ?_
           | refine dropC_zero ?_
           | refine takeC_any ?_
           | refine dropC_any ?_
           | refine callK_intro (c_CheckT _ _ _ _ _ _ _ _ _ _ hse hx hy hz hn hi) ?_
           | refine callK_intro (c_PutOctet [] rfl (by simp) _) ?_
           | refine callK_intro (c_PutPrincipal _ (by first | rfl | (simp; done) | (simp; omega)) _ _ _ (by first | omega | (simp; done) | (simp; omega))) ?_
           | refine callK_intro (c_PutNumber _ (by first | rfl | (simp; done) | (simp; omega)) (by first | omega | (simp; done) | (simp; omega)) _ _) ?_
           | refine callK_intro (c_keyBytes _ hse) ?_
           | refine callK_intro (c_concat2 _ _ (by first | rfl | (simp; done) | (simp; omega)) (by first | rfl | (simp; done) | (simp; omega)) (by first | omega | (simp; done) | (simp; omega))) ?_
           | refine callK_intro (c_PutOctet _ (by first | rfl | (simp; done) | (simp; omega)) (by first | omega | (simp; done) | (simp; omega)) _) ?_
           | refine callK_intro (c_PutText _ (by first | rfl | (simp; done) | (simp; omega)) _ (by first | omega | (simp; done) | (simp; omega))) ?_
           | refine callK_intro (c_Pad (tickB false x y z ad se lf is sn si) (by simp only [tickB_len, List.length_nil]; simp; omega) (by omega)) ?_
           | refine catK_any ?_
           | refine eitherK_l ?_
           | refine nlK_sl ?_
           | refine sideK_intro (by first | omega | rfl | exact Nat.le_of_ble_eq_true rfl | (refine ⟨?_, ?_⟩ <;> first | omega | (simp; done) | (simp; omega)) | (simp; done) | (simp; omega) | (exact ⟨rfl, rfl, rfl⟩)) ?_
           | refine drawK_intro (by kernel_rfl) (by kernel_rfl) ?_)) <;> (try (conv => whnf))
    · (repeat' ((conv => whnf) <;>
           first
           | exact rfl
           | with_reducible refine boolK_dec (fun _ => ?_) (fun _ => ?_) <;> try (exfalso; omega)
           | refine boolK_beq (fun _ => ?_) (fun _ => ?_) <;> try (exfalso; first | omega | contradiction)
           | refine boolK_bne (fun _ => ?_) (fun _ => ?_) <;> try (exfalso; first | omega | contradiction)
           | with_reducible refine boolK_not ?_
           | with_reducible refine boolK_and ?_
           | with_reducible refine boolK_or ?_
           | with_reducible refine boolK_true ?_
           | with_reducible refine boolK_false ?_
           | refine boolK_intro (fun _ => ?_) (fun _ => ?_) <;> try (exfalso; simp_all; done)
           | refine wrapK_i64 (by omega) ?_
           | refine wrapK_u8 (by omega) ?_
           | refine convK_i64 (by omega) ?_
           | refine convK_byte ?_
           | refine convK_u64 (by omega) ?_
           | refine convK_u16 (by omega) ?_
           | refine convK_u32 (by omega) ?_
           | refine wrapK_byte ?_
           | refine wrapK_u64 (by omega) ?_
           | refine wrapK_u32 (by omega) ?_
           | refine wrapK_u16 (by omega) ?_
           | with_reducible refine natK_lit ?_
           | refine natK_of rfl ?_
           | refine natK_any ?_
           | refine quoK_i64 (by omega) ?_
           | refine quoK_u8 (by omega) ?_
           | refine quoK_u16 (by omega) ?_
           | refine remK_pos (by omega) ?_
           | refine headI_cons ?_
           | refine headS_cons ?_
           | refine headB_cons ?_
           | refine headV_cons ?_
           | refine headX_cons ?_
           | refine headI_u8 (by first | omega | (simp; omega)) (fun _ => ?_)
           | refine headI_ints (by first | omega | (simp; omega)) ?_
           | refine bytesK_map ?_
           | refine catK_nil ?_
           | refine catK_nil' ?_
           | refine catK_u8 ?_
           | refine catK_one ?_
           | refine catK_lit (by omega) ?_
           | refine catK_ints ?_
           | refine catK_int1 ?_
           | refine packK_u8 ?_
           | refine packK_0 ?_
           | refine packK_1 (by omega) ?_
           | refine packK_2 (by omega) (by omega) ?_
           | refine packK_3 (by omega) (by omega) (by omega) ?_
           | refine packK_4 (by omega) (by omega) (by omega) (by omega) ?_
           | refine packK_any ?_
           | refine shrK_8 0 (by omega) rfl (by omega) ?_
           | refine shrK_8 1 (by omega) rfl (by omega) ?_
           | refine shrK_8 2 (by omega) rfl (by omega) ?_
           | refine shrK_8 3 (by omega) rfl (by omega) ?_
           | refine shlK_8 (by omega) (by omega) ?_
           | refine bitK_or8 (by omega) (by omega) ?_
           | refine nilK_no (by omega) ?_
           | refine takeC_u8 ?_
           | refine dropC_u8 ?_
           | refine dropC_zero ?_
           | refine takeC_any ?_
           | refine dropC_any ?_
           | refine callK_intro (c_CheckT _ _ _ _ _ _ _ _ _ _ hse hx hy hz hn hi) ?_
           | refine callK_intro (c_PutOctet [] rfl (by simp) _) ?_
           | refine callK_intro (c_PutPrincipal _ (by first | rfl | (simp; done) | (simp; omega)) _ _ _ (by first | omega | (simp; done) | (simp; omega))) ?_
           | refine callK_intro (c_PutNumber _ (by first | rfl | (simp; done) | (simp; omega)) (by first | omega | (simp; done) | (simp; omega)) _ _) ?_
           | refine callK_intro (c_keyBytes _ hse) ?_
           | refine callK_intro (c_concat2 _ _ (by first | rfl | (simp; done) | (simp; omega)) (by first | rfl | (simp; done) | (simp; omega)) (by first | omega | (simp; done) | (simp; omega))) ?_
           | refine callK_intro (c_PutOctet _ (by first | rfl | (simp; done) | (simp; omega)) (by first | omega | (simp; done) | (simp; omega)) _) ?_
           | refine callK_intro (c_PutText _ (by first | rfl | (simp; done) | (simp; omega)) _ (by first | omega | (simp; done) | (simp; omega))) ?_
           | refine callK_intro (c_Pad (tickB true x y z ad se lf is sn si) (by simp only [tickB_len, List.length_nil]; simp; omega) (by omega)) ?_
           | refine catK_any ?_
           | refine eitherK_l ?_
           | refine nlK_sl ?_
           | refine sideK_intro (by first | omega | rfl | exact Nat.le_of_ble_eq_true rfl | (refine ⟨?_, ?_⟩ <;> first | omega | (simp; done) | (simp; omega)) | (simp; done) | (simp; omega) | (exact ⟨rfl, rfl, rfl⟩)) ?_
           | refine drawK_intro (by kernel_rfl) (by kernel_rfl) ?_)) <;> (try (conv => whnf))
  · rw [tickN_no hc]
    (repeat' ((conv => whnf) <;>
           first
           | exact rfl
           | with_reducible refine boolK_dec (fun _ => ?_) (fun _ => ?_) <;> try (exfalso; omega)
           | refine boolK_beq (fun _ => ?_) (fun _ => ?_) <;> try (exfalso; first | omega | contradiction)
           | refine boolK_bne (fun _ => ?_) (fun _ => ?_) <;> try (exfalso; first | omega | contradiction)
           | with_reducible refine boolK_not ?_
           | with_reducible refine boolK_and ?_
           | with_reducible refine boolK_or ?_
           | with_reducible refine boolK_true ?_
           | with_reducible refine boolK_false ?_
           | refine boolK_intro (fun _ => ?_) (fun _ => ?_) <;> try (exfalso; simp_all; done)
           | refine wrapK_i64 (by omega) ?_
           | refine wrapK_u8 (by omega) ?_
           | refine convK_i64 (by omega) ?_
           | refine convK_byte ?_
           | refine convK_u64 (by omega) ?_
           | refine convK_u16 (by omega) ?_
           | refine convK_u32 (by omega) ?_
           | refine wrapK_byte ?_
           | refine wrapK_u64 (by omega) ?_
           | refine wrapK_u32 (by omega) ?_
           | refine wrapK_u16 (by omega) ?_
           | with_reducible refine natK_lit ?_
           | refine natK_of rfl ?_
           | refine natK_any ?_
           | refine quoK_i64 (by omega) ?_
           | refine quoK_u8 (by omega) ?_
           | refine quoK_u16 (by omega) ?_
           | refine remK_pos (by omega) ?_
           | refine headI_cons ?_
           | refine headS_cons ?_
           | refine headB_cons ?_
           | refine headV_cons ?_
           | refine headX_cons ?_
           | refine headI_u8 (by first | omega | (simp; omega)) (fun _ => ?_)
           | refine headI_ints (by first | omega | (simp; omega)) ?_
           | refine bytesK_map ?_
           | refine catK_nil ?_
           | refine catK_nil' ?_
           | refine catK_u8 ?_
           | refine catK_one ?_
           | refine catK_lit (by omega) ?_
           | refine catK_ints ?_
           | refine catK_int1 ?_
           | refine packK_u8 ?_
           | refine packK_0 ?_
           | refine packK_1 (by omega) ?_
           | refine packK_2 (by omega) (by omega) ?_
           | refine packK_3 (by omega) (by omega) (by omega) ?_
           | refine packK_4 (by omega) (by omega) (by omega) (by omega) ?_
           | refine packK_any ?_
           | refine shrK_8 0 (by omega) rfl (by omega) ?_
           | refine shrK_8 1 (by omega) rfl (by omega) ?_
           | refine shrK_8 2 (by omega) rfl (by omega) ?_
           | refine shrK_8 3 (by omega) rfl (by omega) ?_
           | refine shlK_8 (by omega) (by omega) ?_
           | refine bitK_or8 (by omega) (by omega) ?_
           | refine nilK_no (by omega) ?_
           | refine takeC_u8 ?_
           | refine dropC_u8 ?_
           | refine dropC_zero ?_
           | refine takeC_any ?_
           | refine dropC_any ?_
           | refine callK_intro (c_CheckT _ _ _ _ _ _ _ _ _ _ hse hx hy hz hn hi) ?_
           | refine catK_any ?_
           | refine eitherK_l ?_
           | refine nlK_sl ?_
           | refine sideK_intro (by first | omega | rfl | exact Nat.le_of_ble_eq_true rfl | (refine ⟨?_, ?_⟩ <;> first | omega | (simp; done) | (simp; omega)) | (simp; done) | (simp; omega)) ?_
           | refine drawK_intro (by kernel_rfl) (by kernel_rfl) ?_)) <;> (try (conv => whnf))
theorem c_rEncodeT (li : Bool) (x y z : List UInt8) (ad se lf is : Int) (sn si : List UInt8) (hse : 0 ≤ se ∧ se ≤ 18446744073709551615) (hx : x.length ≤ 100000) (hy : y.length ≤ 100000) (hz : z.length ≤ 100000) (hn : sn.length ≤ 100000) (hi : si.length ≤ 100000) : Fn Try.prog 92 [.a [.b li, .s x, .s y, .s z, .i .i64 ad, .i .u64 se, .i .i64 lf, .i .i64 is, .s sn, .s si]] [] (.tup [.fr ((tickN li x y z ad se lf is sn si).1.map u8) (tickN li x y z ad se lf is sn si).1.length 1, .c (.o (.i .i64 (tickN li x y z ad se lf is sn si).2))]) [] := by
  have hkb := keyB_len se
  refine Fn_intro (G := g92) (goodA rfl) (fn := Try.f92) rfl rfl rfl rfl rfl ?_
  by_cases hc : tickC x y z ad se lf is sn si = 0
  · rw [tickN_ok hc]
    have hl := tickB_len li x y z ad se lf is sn si
    cases li
    · (repeat' ((conv => whnf) <;>
           first
           | exact rfl
           | with_reducible refine boolK_dec (fun _ => ?_) (fun _ => ?_) <;> try (exfalso; omega)
           | refine boolK_beq (fun _ => ?_) (fun _ => ?_) <;> try (exfalso; first | omega | contradiction)
           | refine boolK_bne (fun _ => ?_) (fun _ => ?_) <;> try (exfalso; first | omega | contradiction)
           | with_reducible refine boolK_not ?_
           | with_reducible refine boolK_and ?_
           | with_reducible refine boolK_or ?_
           | with_reducible refine boolK_true ?_
           | with_reducible refine boolK_false ?_
           | refine boolK_intro (fun _ => ?_) (fun _ => ?_) <;> try (exfalso; simp_all; done)
           | refine wrapK_i64 (by omega) ?_
           | refine wrapK_u8 (by omega) ?_
           | refine convK_i64 (by omega) ?_
           | refine convK_byte ?_
           | refine convK_u64 (by omega) ?_
           | refine convK_u16 (by omega) ?_
           | refine convK_u32 (by omega) ?_
           | refine wrapK_byte ?_
           | refine wrapK_u64 (by omega) ?_
           | refine wrapK_u32 (by omega) ?_
           | refine wrapK_u16 (by omega) ?_
           | with_reducible refine natK_lit ?_
           | refine natK_of rfl ?_
           | refine natK_any ?_
           | refine quoK_i64 (by omega) ?_
           | refine quoK_u8 (by omega) ?_
           | refine quoK_u16 (by omega) ?_
           | refine remK_pos (by omega) ?_
           | refine headI_cons ?_
           | refine headS_cons ?_
           | refine headB_cons ?_
           | refine headV_cons ?_
           | refine headX_cons ?_
           | refine headI_u8 (by first | omega | (simp; omega)) (fun _ => ?_)
           | refine headI_ints (by first | omega | (simp; omega)) ?_
           | refine bytesK_map ?_
           | refine catK_nil ?_
           | refine catK_nil' ?_
           | refine catK_u8 ?_
           | refine catK_one ?_
           | refine catK_lit (by omega) ?_
           | refine catK_ints ?_
           | refine catK_int1 ?_
           | refine packK_u8 ?_
           | refine packK_0 ?_
           | refine packK_1 (by omega) ?_
           | refine packK_2 (by omega) (by omega) ?_
           | refine packK_3 (by omega) (by omega) (by omega) ?_
           | refine packK_4 (by omega) (by omega) (by omega) (by omega) ?_
           | refine packK_any ?_
           | refine shrK_8 0 (by omega) rfl (by omega) ?_
           | refine shrK_8 1 (by omega) rfl (by omega) ?_
           | refine shrK_8 2 (by omega) rfl (by omega) ?_
           | refine shrK_8 3 (by omega) rfl (by omega) ?_
           | refine shlK_8 (by omega) (by omega) ?_
           | refine bitK_or8 (by omega) (by omega) ?_
           | refine nilK_no (by omega) ?_
           | refine takeC_u8 ?_
           | refine dropC_u8 ?_
           | refine dropC_zero ?_
           | refine takeC_any ?_
           | refine dropC_any ?_
           | refine callK_intro (c_rCheckT _ _ _ _ _ _ _ _ _ _ hse hx hy hz hn hi) ?_
           | refine callK_intro (c_rPutOctet [] rfl (by simp) _) ?_
           | refine callK_intro (c_rPutPrincipal _ (by first | rfl | (simp; done) | (simp; omega)) _ _ _ (by first | omega | (simp; done) | (simp; omega))) ?_
           | refine callK_intro (c_rPutNumber _ (by first | rfl | (simp; done) | (simp; omega)) (by first | omega | (simp; done) | (simp; omega)) _ _) ?_
           | refine callK_intro (c_rkeyBytes _ hse) ?_
           | refine callK_intro (c_rPutOctet _ (by first | rfl | (simp; done) | (simp; omega)) (by first | omega | (simp; done) | (simp; omega)) _) ?_
           | refine callK_intro (c_rPutText _ (by first | rfl | (simp; done) | (simp; omega)) _ (by first | omega | (simp; done) | (simp; omega))) ?_
           | refine callK_intro (c_rPad (tickB false x y z ad se lf is sn si) (by simp only [tickB_len, List.length_nil]; simp; omega) (by omega)) ?_
           | refine catK_any ?_
           | refine eitherK_l ?_
           | refine nlK_sl ?_
           | refine sideK_intro (by first | omega | rfl | exact Nat.le_of_ble_eq_true rfl | (refine ⟨?_, ?_⟩ <;> first | omega | (simp; done) | (simp; omega)) | (simp; done) | (simp; omega) | (exact ⟨rfl, rfl, rfl⟩)) ?_
           | refine drawK_intro (by kernel_rfl) (by kernel_rfl) ?_)) <;> (try (conv => whnf))
    · (repeat' ((conv => whnf) <;>
           first
           | exact rfl
           | with_reducible refine boolK_dec (fun _ => ?_) (fun _ => ?_) <;> try (exfalso; omega)
           | refine boolK_beq (fun _ => ?_) (fun _ => ?_) <;> try (exfalso; first | omega | contradiction)
           | refine boolK_bne (fun _ => ?_) (fun _ => ?_) <;> try (exfalso; first | omega | contradiction)
           | with_reducible refine boolK_not ?_
           | with_reducible refine boolK_and ?_
           | with_reducible refine boolK_or ?_
           | with_reducible refine boolK_true ?_
           | with_reducible refine boolK_false ?_
           | refine boolK_intro (fun _ => ?_) (fun _ => ?_) <;> try (exfalso; simp_all; done)
           | refine wrapK_i64 (by omega) ?_
           | refine wrapK_u8 (by omega) ?_
           | refine convK_i64 (by omega) ?_
           | refine convK_byte ?_
           | refine convK_u64 (by omega) ?_
           | refine convK_u16 (by omega) ?_
           | refine convK_u32 (by omega) ?_
           | refine wrapK_byte ?_
           | refine wrapK_u64 (by omega) ?_
           | refine wrapK_u32 (by omega) ?_
           | refine wrapK_u16 (by omega) ?_
           | with_reducible refine natK_lit ?_
           | refine natK_of rfl ?_
           | refine natK_any ?_
           | refine quoK_i64 (by omega) ?_
           | refine quoK_u8 (by omega) ?_
           | refine quoK_u16 (by omega) ?_
           | refine remK_pos (by omega) ?_
           | refine headI_cons ?_
           | refine headS_cons ?_
           | refine headB_cons ?_
           | refine headV_cons ?_
           | refine headX_cons ?_
           | refine headI_u8 (by first | omega | (simp; omega)) (fun _ => ?_)
           | refine headI_ints (by first | omega | (simp; omega)) ?_
           | refine bytesK_map ?_
           | refine catK_nil ?_
           | refine catK_nil' ?_
           | refine catK_u8 ?_
           | refine catK_one ?_
           | refine catK_lit (by omega) ?_
           | refine catK_ints ?_
           | refine catK_int1 ?_
           | refine packK_u8 ?_
           | refine packK_0 ?_
           | refine packK_1 (by omega) ?_
           | refine packK_2 (by omega) (by omega) ?_
           | refine packK_3 (by omega) (by omega) (by omega) ?_
           | refine packK_4 (by omega) (by omega) (by omega) (by omega) ?_
           | refine packK_any ?_
           | refine shrK_8 0 (by omega) rfl (by omega) ?_
           | refine shrK_8 1 (by omega) rfl (by omega) ?_
           | refine shrK_8 2 (by omega) rfl (by omega) ?_
           | refine shrK_8 3 (by omega) rfl (by omega) ?_
           | refine shlK_8 (by omega) (by omega) ?_
           | refine bitK_or8 (by omega) (by omega) ?_
           | refine nilK_no (by omega) ?_
           | refine takeC_u8 ?_
           | refine dropC_u8 ?_
           | refine dropC_zero ?_
           | refine takeC_any ?_
           | refine dropC_any ?_
           | refine callK_intro (c_rCheckT _ _ _ _ _ _ _ _ _ _ hse hx hy hz hn hi) ?_
           | refine callK_intro (c_rPutOctet [] rfl (by simp) _) ?_
           | refine callK_intro (c_rPutPrincipal _ (by first | rfl | (simp; done) | (simp; omega)) _ _ _ (by first | omega | (simp; done) | (simp; omega))) ?_
           | refine callK_intro (c_rPutNumber _ (by first | rfl | (simp; done) | (simp; omega)) (by first | omega | (simp; done) | (simp; omega)) _ _) ?_
           | refine callK_intro (c_rkeyBytes _ hse) ?_
           | refine callK_intro (c_rPutOctet _ (by first | rfl | (simp; done) | (simp; omega)) (by first | omega | (simp; done) | (simp; omega)) _) ?_
           | refine callK_intro (c_rPutText _ (by first | rfl | (simp; done) | (simp; omega)) _ (by first | omega | (simp; done) | (simp; omega))) ?_
           | refine callK_intro (c_rPad (tickB true x y z ad se lf is sn si) (by simp only [tickB_len, List.length_nil]; simp; omega) (by omega)) ?_
           | refine catK_any ?_
           | refine eitherK_l ?_
           | refine nlK_sl ?_
           | refine sideK_intro (by first | omega | rfl | exact Nat.le_of_ble_eq_true rfl | (refine ⟨?_, ?_⟩ <;> first | omega | (simp; done) | (simp; omega)) | (simp; done) | (simp; omega) | (exact ⟨rfl, rfl, rfl⟩)) ?_
           | refine drawK_intro (by kernel_rfl) (by kernel_rfl) ?_)) <;> (try (conv => whnf))
  · rw [tickN_no hc]
    (repeat' ((conv => whnf) <;>
           first
           | exact rfl
           | with_reducible refine boolK_dec (fun _ => ?_) (fun _ => ?_) <;> try (exfalso; omega)
           | refine boolK_beq (fun _ => ?_) (fun _ => ?_) <;> try (exfalso; first | omega | contradiction)
           | refine boolK_bne (fun _ => ?_) (fun _ => ?_) <;> try (exfalso; first | omega | contradiction)
           | with_reducible refine boolK_not ?_
           | with_reducible refine boolK_and ?_
           | with_reducible refine boolK_or ?_
           | with_reducible refine boolK_true ?_
           | with_reducible refine boolK_false ?_
           | refine boolK_intro (fun _ => ?_) (fun _ => ?_) <;> try (exfalso; simp_all; done)
           | refine wrapK_i64 (by omega) ?_
           | refine wrapK_u8 (by omega) ?_
           | refine convK_i64 (by omega) ?_
           | refine convK_byte ?_
           | refine convK_u64 (by omega) ?_
           | refine convK_u16 (by omega) ?_
           | refine convK_u32 (by omega) ?_
           | refine wrapK_byte ?_
           | refine wrapK_u64 (by omega) ?_
           | refine wrapK_u32 (by omega) ?_
           | refine wrapK_u16 (by omega) ?_
           | with_reducible refine natK_lit ?_
           | refine natK_of rfl ?_
           | refine natK_any ?_
           | refine quoK_i64 (by omega) ?_
           | refine quoK_u8 (by omega) ?_
           | refine quoK_u16 (by omega) ?_
           | refine remK_pos (by omega) ?_
           | refine headI_cons ?_
           | refine headS_cons ?_
           | refine headB_cons ?_
           | refine headV_cons ?_
           | refine headX_cons ?_
           | refine headI_u8 (by first | omega | (simp; omega)) (fun _ => ?_)
           | refine headI_ints (by first | omega | (simp; omega)) ?_
           | refine bytesK_map ?_
           | refine catK_nil ?_
           | refine catK_nil' ?_
           | refine catK_u8 ?_
           | refine catK_one ?_
           | refine catK_lit (by omega) ?_
           | refine catK_ints ?_
           | refine catK_int1 ?_
           | refine packK_u8 ?_
           | refine packK_0 ?_
           | refine packK_1 (by omega) ?_
           | refine packK_2 (by omega) (by omega) ?_
           | refine packK_3 (by omega) (by omega) (by omega) ?_
           | refine packK_4 (by omega) (by omega) (by omega) (by omega) ?_
           | refine packK_any ?_
           | refine shrK_8 0 (by omega) rfl (by omega) ?_
           | refine shrK_8 1 (by omega) rfl (by omega) ?_
           | refine shrK_8 2 (by omega) rfl (by omega) ?_
           | refine shrK_8 3 (by omega) rfl (by omega) ?_
           | refine shlK_8 (by omega) (by omega) ?_
           | refine bitK_or8 (by omega) (by omega) ?_
           | refine nilK_no (by omega) ?_
           | refine takeC_u8 ?_
           | refine dropC_u8 ?_
           | refine dropC_zero ?_
           | refine takeC_any ?_
           | refine dropC_any ?_
           | refine callK_intro (c_rCheckT _ _ _ _ _ _ _ _ _ _ hse hx hy hz hn hi) ?_
           | refine catK_any ?_
           | refine eitherK_l ?_
           | refine nlK_sl ?_
           | refine sideK_intro (by first | omega | rfl | exact Nat.le_of_ble_eq_true rfl | (refine ⟨?_, ?_⟩ <;> first | omega | (simp; done) | (simp; omega)) | (simp; done) | (simp; omega)) ?_
           | refine drawK_intro (by kernel_rfl) (by kernel_rfl) ?_)) <;> (try (conv => whnf))
end Go.Sx

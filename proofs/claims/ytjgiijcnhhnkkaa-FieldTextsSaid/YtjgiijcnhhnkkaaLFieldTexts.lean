/-
  The statement FieldTexts: the law returns true for every input; no conditions.
-/
import Derived.Test.YtjgiijcnhhnkkaaCLaw5
import Derived.Test.YtjgiijcnhhnkkaaCData
import Derived.Test.YtjgiijcnhhnkkaaCFieldP
set_option linter.all false
namespace Go.Sx
open Go.Proofs
noncomputable def g5 : Par := par 146 (nthLL [[0, 1, 2, 3, 4], [0, 1, 2, 3, 4, 26], [10], [0, 1, 2, 3, 4, 29], [10], [0, 1, 2, 3, 4, 11], [0, 1, 2, 3, 4, 11, 35], [0, 1, 2, 4, 11], [0, 1, 2, 4, 11, 12], [1, 2, 13], [1, 2, 13, 14], [1, 2, 13, 14, 65], [1, 2, 13, 14], [1, 2, 13, 14, 15], [1, 2, 13, 14, 15, 69], [1, 2, 13, 14, 15], [1, 2, 13, 14, 15, 16], [1, 2, 13, 14, 15, 16, 17, 18, 19], [1, 2, 13, 14, 15, 16, 17, 18, 19, 20, 21, 22], [1, 2, 13, 14, 15, 16, 112], [10], [1, 2, 13, 14, 15, 16, 18, 19, 23], [1, 2, 13, 14, 15, 18, 19, 21, 22, 23, 24], [1, 2, 13, 14, 15, 145], [10], [10]]) [10] (nthLL [[], [], [], [], [], [], [], [], [], [0, 0, 2, 0, 14, 0, 0, 64, 192, 448, 992, 2046, 0, 0, 8192, 24576, 61440, 126976, 262143, 524287]])
set_option maxRecDepth 10000
set_option maxHeartbeats 4000000
theorem c_FieldTexts (b : List UInt8) (k : Int) (hk : -9223372036854775808 ≤ k ∧ k ≤ 9223372036854775807) (s w : UInt8) (h : Int) (hh : 0 ≤ h ∧ h ≤ 65535) : Fn Try.prog 5 [.o (.sl (b.map u8) b.length), .o (.i .i64 k), .o (.i .u8 (s.toNat : Int)), .o (.i .u8 (w.toNat : Int)), .o (.i .u16 h)] [] (.one (.c (.o (.b true)))) [] := by
  have hs := byte_lt s
  have hw := byte_lt w
  have hL : (longN ++ [110, 110, 110]).length = 42 := rfl
  refine Fn_intro (G := g5) (goodA rfl) (fn := Try.f5) rfl rfl rfl rfl rfl ?_
  by_cases hb : b.length > 300
  · (repeat' ((conv => whnf) <;>
           first
           | exact rfl
           | with_reducible refine boolK_dec (fun _ => ?_) (fun _ => ?_) <;> try (exfalso; omega)
           | refine boolK_beq (fun _ => ?_) (fun _ => ?_) <;> try (exfalso; first | omega | contradiction)
           | refine boolK_bne (fun _ => ?_) (fun _ => ?_) <;> try (exfalso; first | omega | contradiction)
           | with_reducible refine boolK_not ?_
           | with_reducible refine boolK_and ?_
           | with_reducible refine boolK_or ?_
           | with_reducible refine boolK_true ?_
           | with_reducible refine boolK_false ?_
           | refine boolK_intro (fun _ => ?_) (fun _ => ?_) <;> try (exfalso; simp_all; done)
           | refine wrapK_i64 (by omega) ?_
           | refine wrapK_u8 (by omega) ?_
           | refine convK_i64 (by omega) ?_
           | refine convK_byte ?_
           | refine convK_u64 (by omega) ?_
           | refine convK_u16 (by omega) ?_
           | refine convK_u32 (by omega) ?_
           | refine wrapK_byte ?_
           | refine wrapK_u64 (by omega) ?_
           | refine wrapK_u32 (by omega) ?_
           | refine wrapK_u16 (by omega) ?_
           | with_reducible refine natK_lit ?_
           | refine natK_of rfl ?_
           | refine natK_any ?_
           | refine quoK_i64 (by omega) ?_
           | refine quoK_u8 (by omega) ?_
           | refine quoK_u16 (by omega) ?_
           | refine remK_pos (by omega) ?_
           | refine headI_cons ?_
           | refine headS_cons ?_
           | refine headB_cons ?_
           | refine headV_cons ?_
           | refine headX_cons ?_
           | refine headI_u8 (by first | omega | (simp; omega)) (fun _ => ?_)
           | refine headI_ints (by first | omega | (simp; omega)) ?_
           | refine bytesK_map ?_
           | refine catK_nil ?_
           | refine catK_nil' ?_
           | refine catK_u8 ?_
           | refine catK_one ?_
           | refine catK_lit (by omega) ?_
           | refine catK_ints ?_
           | refine catK_int1 ?_
           | refine packK_u8 ?_
           | refine packK_0 ?_
           | refine packK_1 (by omega) ?_
           | refine packK_2 (by omega) (by omega) ?_
           | refine packK_3 (by omega) (by omega) (by omega) ?_
           | refine packK_4 (by omega) (by omega) (by omega) (by omega) ?_
           | refine packK_any ?_
           | refine shrK_8 0 (by omega) rfl (by omega) ?_
           | refine shrK_8 1 (by omega) rfl (by omega) ?_
           | refine shrK_8 2 (by omega) rfl (by omega) ?_
           | refine shrK_8 3 (by omega) rfl (by omega) ?_
           | refine shlK_8 (by omega) (by omega) ?_
           | refine bitK_or8 (by omega) (by omega) ?_
           | refine nilK_no (by omega) ?_
           | refine takeC_u8 ?_
           | refine dropC_u8 ?_
           | refine dropC_zero ?_
           | refine takeC_any ?_
           | refine dropC_any ?_
           | refine callK_intro (c_awake5) ?_
           | refine catK_any ?_
           | refine eitherK_l ?_
           | refine nlK_sl ?_
           | refine sideK_intro (by first | omega | rfl | exact Nat.le_of_ble_eq_true rfl | (refine ⟨?_, ?_⟩ <;> first | omega | (simp; done) | (simp; omega)) | (simp; done) | (simp; omega)) ?_
           | refine drawK_intro (by kernel_rfl) (by kernel_rfl) ?_)) <;> (try (conv => whnf))
  · by_cases h5 : (w.toNat : Int) % 5 = 4
    · by_cases h2 : (w.toNat : Int) % 2 = 0
      · obtain ⟨r, hr, cs⟩ := c_Spoil ([] ++ longN ++ [0] ++ longN ++ [0] ++ longN ++ [0]) (m := ([] : List UInt8).length + longN.length + 1 + longN.length + 1 + longN.length + 1) (by simp; omega) (by decide) h hh
        have hl : ([] ++ longN ++ [0] ++ longN ++ [0] ++ longN ++ [0] : List UInt8).length = 120 := rfl
        have cL := c_Longest0
        rw [← h2] at cL
        (repeat' ((conv => whnf) <;>
           first
           | exact rfl
           | with_reducible refine boolK_dec (fun _ => ?_) (fun _ => ?_) <;> try (exfalso; omega)
           | refine boolK_beq (fun _ => ?_) (fun _ => ?_) <;> try (exfalso; first | omega | contradiction)
           | refine boolK_bne (fun _ => ?_) (fun _ => ?_) <;> try (exfalso; first | omega | contradiction)
           | with_reducible refine boolK_not ?_
           | with_reducible refine boolK_and ?_
           | with_reducible refine boolK_or ?_
           | with_reducible refine boolK_true ?_
           | with_reducible refine boolK_false ?_
           | refine boolK_intro (fun _ => ?_) (fun _ => ?_) <;> try (exfalso; simp_all; done)
           | refine wrapK_i64 (by omega) ?_
           | refine wrapK_u8 (by omega) ?_
           | refine convK_i64 (by omega) ?_
           | refine convK_byte ?_
           | refine convK_u64 (by omega) ?_
           | refine convK_u16 (by omega) ?_
           | refine convK_u32 (by omega) ?_
           | refine wrapK_byte ?_
           | refine wrapK_u64 (by omega) ?_
           | refine wrapK_u32 (by omega) ?_
           | refine wrapK_u16 (by omega) ?_
           | with_reducible refine natK_lit ?_
           | refine natK_of rfl ?_
           | refine natK_any ?_
           | refine quoK_i64 (by omega) ?_
           | refine quoK_u8 (by omega) ?_
           | refine quoK_u16 (by omega) ?_
           | refine remK_pos (by omega) ?_
           | refine headI_cons ?_
           | refine headS_cons ?_
           | refine headB_cons ?_
           | refine headV_cons ?_
           | refine headX_cons ?_
           | refine headI_u8 (by first | omega | (simp; omega)) (fun _ => ?_)
           | refine headI_ints (by first | omega | (simp; omega)) ?_
           | refine bytesK_map ?_
           | refine catK_nil ?_
           | refine catK_nil' ?_
           | refine catK_u8 ?_
           | refine catK_one ?_
           | refine catK_lit (by omega) ?_
           | refine catK_ints ?_
           | refine catK_int1 ?_
           | refine packK_u8 ?_
           | refine packK_0 ?_
           | refine packK_1 (by omega) ?_
           | refine packK_2 (by omega) (by omega) ?_
           | refine packK_3 (by omega) (by omega) (by omega) ?_
           | refine packK_4 (by omega) (by omega) (by omega) (by omega) ?_
           | refine packK_any ?_
           | refine shrK_8 0 (by omega) rfl (by omega) ?_
           | refine shrK_8 1 (by omega) rfl (by omega) ?_
           | refine shrK_8 2 (by omega) rfl (by omega) ?_
           | refine shrK_8 3 (by omega) rfl (by omega) ?_
           | refine shlK_8 (by omega) (by omega) ?_
           | refine bitK_or8 (by omega) (by omega) ?_
           | refine nilK_no (by omega) ?_
           | refine takeC_u8 ?_
           | refine dropC_u8 ?_
           | refine dropC_zero ?_
           | refine takeC_any ?_
           | refine dropC_any ?_
           | refine callK_intro (c_awake5) ?_
           | refine callK_intro (c_User _ (by omega)) ?_
           | refine callK_intro (c_Longest0) ?_
           | refine callK_intro (cL) ?_
           | refine callK_intro (c_rPutPrincipal [] rfl _ _ _ (by decide)) ?_
           | refine callK_intro (cs) ?_
           | refine callK_intro (c_rPutText [] rfl _ (by first | omega | (simp; done) | (simp; omega))) ?_
           | refine callK_intro (c_Text _ (by first | rfl | (simp; done) | (simp; omega)) (by first | omega | (simp; done) | (simp; omega)) _ (by omega)) ?_
           | refine callK_intro (c_rText _ (by first | rfl | (simp; done) | (simp; omega)) (by first | omega | (simp; done) | (simp; omega)) _ (by omega)) ?_
           | refine callK_intro (c_Principal _ (by first | rfl | (simp; done) | (simp; omega)) (by first | omega | (simp; done) | (simp; omega)) _ (by omega)) ?_
           | refine callK_intro (c_rPrincipal _ (by first | rfl | (simp; done) | (simp; omega)) (by first | omega | (simp; done) | (simp; omega)) _ (by omega)) ?_
           | refine loopK_step (G := g5) ?_
           | refine catK_any ?_
           | refine eitherK_l ?_
           | refine nlK_sl ?_
           | refine sideK_intro (by first | omega | rfl | exact Nat.le_of_ble_eq_true rfl | (refine ⟨?_, ?_⟩ <;> first | omega | (simp; done) | (simp; omega)) | (simp; done) | (simp; omega)) ?_
           | refine drawK_intro (by kernel_rfl) (by kernel_rfl) ?_)) <;> (try (conv => whnf))
      · obtain ⟨r, hr, cs⟩ := c_Spoil ([] ++ longM ++ [0] ++ longM ++ [0] ++ longM ++ [0]) (m := ([] : List UInt8).length + longM.length + 1 + longM.length + 1 + longM.length + 1) (by simp; omega) (by decide) h hh
        have hl : ([] ++ longM ++ [0] ++ longM ++ [0] ++ longM ++ [0] : List UInt8).length = 117 := rfl
        have h2 : (w.toNat : Int) % 2 = 1 := by omega
        have cL := c_Longest1
        rw [← h2] at cL
        (repeat' ((conv => whnf) <;>
           first
           | exact rfl
           | with_reducible refine boolK_dec (fun _ => ?_) (fun _ => ?_) <;> try (exfalso; omega)
           | refine boolK_beq (fun _ => ?_) (fun _ => ?_) <;> try (exfalso; first | omega | contradiction)
           | refine boolK_bne (fun _ => ?_) (fun _ => ?_) <;> try (exfalso; first | omega | contradiction)
           | with_reducible refine boolK_not ?_
           | with_reducible refine boolK_and ?_
           | with_reducible refine boolK_or ?_
           | with_reducible refine boolK_true ?_
           | with_reducible refine boolK_false ?_
           | refine boolK_intro (fun _ => ?_) (fun _ => ?_) <;> try (exfalso; simp_all; done)
           | refine wrapK_i64 (by omega) ?_
           | refine wrapK_u8 (by omega) ?_
           | refine convK_i64 (by omega) ?_
           | refine convK_byte ?_
           | refine convK_u64 (by omega) ?_
           | refine convK_u16 (by omega) ?_
           | refine convK_u32 (by omega) ?_
           | refine wrapK_byte ?_
           | refine wrapK_u64 (by omega) ?_
           | refine wrapK_u32 (by omega) ?_
           | refine wrapK_u16 (by omega) ?_
           | with_reducible refine natK_lit ?_
           | refine natK_of rfl ?_
           | refine natK_any ?_
           | refine quoK_i64 (by omega) ?_
           | refine quoK_u8 (by omega) ?_
           | refine quoK_u16 (by omega) ?_
           | refine remK_pos (by omega) ?_
           | refine headI_cons ?_
           | refine headS_cons ?_
           | refine headB_cons ?_
           | refine headV_cons ?_
           | refine headX_cons ?_
           | refine headI_u8 (by first | omega | (simp; omega)) (fun _ => ?_)
           | refine headI_ints (by first | omega | (simp; omega)) ?_
           | refine bytesK_map ?_
           | refine catK_nil ?_
           | refine catK_nil' ?_
           | refine catK_u8 ?_
           | refine catK_one ?_
           | refine catK_lit (by omega) ?_
           | refine catK_ints ?_
           | refine catK_int1 ?_
           | refine packK_u8 ?_
           | refine packK_0 ?_
           | refine packK_1 (by omega) ?_
           | refine packK_2 (by omega) (by omega) ?_
           | refine packK_3 (by omega) (by omega) (by omega) ?_
           | refine packK_4 (by omega) (by omega) (by omega) (by omega) ?_
           | refine packK_any ?_
           | refine shrK_8 0 (by omega) rfl (by omega) ?_
           | refine shrK_8 1 (by omega) rfl (by omega) ?_
           | refine shrK_8 2 (by omega) rfl (by omega) ?_
           | refine shrK_8 3 (by omega) rfl (by omega) ?_
           | refine shlK_8 (by omega) (by omega) ?_
           | refine bitK_or8 (by omega) (by omega) ?_
           | refine nilK_no (by omega) ?_
           | refine takeC_u8 ?_
           | refine dropC_u8 ?_
           | refine dropC_zero ?_
           | refine takeC_any ?_
           | refine dropC_any ?_
           | refine callK_intro (c_awake5) ?_
           | refine callK_intro (c_User _ (by omega)) ?_
           | refine callK_intro (c_Longest0) ?_
           | refine callK_intro (cL) ?_
           | refine callK_intro (c_rPutPrincipal [] rfl _ _ _ (by decide)) ?_
           | refine callK_intro (cs) ?_
           | refine callK_intro (c_rPutText [] rfl _ (by first | omega | (simp; done) | (simp; omega))) ?_
           | refine callK_intro (c_Text _ (by first | rfl | (simp; done) | (simp; omega)) (by first | omega | (simp; done) | (simp; omega)) _ (by omega)) ?_
           | refine callK_intro (c_rText _ (by first | rfl | (simp; done) | (simp; omega)) (by first | omega | (simp; done) | (simp; omega)) _ (by omega)) ?_
           | refine callK_intro (c_Principal _ (by first | rfl | (simp; done) | (simp; omega)) (by first | omega | (simp; done) | (simp; omega)) _ (by omega)) ?_
           | refine callK_intro (c_rPrincipal _ (by first | rfl | (simp; done) | (simp; omega)) (by first | omega | (simp; done) | (simp; omega)) _ (by omega)) ?_
           | refine loopK_step (G := g5) ?_
           | refine catK_any ?_
           | refine eitherK_l ?_
           | refine nlK_sl ?_
           | refine sideK_intro (by first | omega | rfl | exact Nat.le_of_ble_eq_true rfl | (refine ⟨?_, ?_⟩ <;> first | omega | (simp; done) | (simp; omega)) | (simp; done) | (simp; omega)) ?_
           | refine drawK_intro (by kernel_rfl) (by kernel_rfl) ?_)) <;> (try (conv => whnf))
    · obtain ⟨l1, l2, l3⟩ := valid_len (user_valid w.toNat ((w.toNat : Int) / 3))
      obtain ⟨r, hr, cs⟩ := c_Spoil ([] ++ userN w.toNat ++ [0] ++ [] ++ [0] ++ realmN ((w.toNat : Int) / 3) ++ [0]) (m := ([] : List UInt8).length + (userN w.toNat).length + 1 + ([] : List UInt8).length + 1 + (realmN ((w.toNat : Int) / 3)).length + 1) (by simp; omega) (by simp; omega) h hh
      have hl : ([] ++ userN w.toNat ++ [0] ++ [] ++ [0] ++ realmN ((w.toNat : Int) / 3) ++ [0] : List UInt8).length ≤ 100 := by simp; omega
      (repeat' ((conv => whnf) <;>
           first
           | exact rfl
           | with_reducible refine boolK_dec (fun _ => ?_) (fun _ => ?_) <;> try (exfalso; omega)
           | refine boolK_beq (fun _ => ?_) (fun _ => ?_) <;> try (exfalso; first | omega | contradiction)
           | refine boolK_bne (fun _ => ?_) (fun _ => ?_) <;> try (exfalso; first | omega | contradiction)
           | with_reducible refine boolK_not ?_
           | with_reducible refine boolK_and ?_
           | with_reducible refine boolK_or ?_
           | with_reducible refine boolK_true ?_
           | with_reducible refine boolK_false ?_
           | refine boolK_intro (fun _ => ?_) (fun _ => ?_) <;> try (exfalso; simp_all; done)
           | refine wrapK_i64 (by omega) ?_
           | refine wrapK_u8 (by omega) ?_
           | refine convK_i64 (by omega) ?_
           | refine convK_byte ?_
           | refine convK_u64 (by omega) ?_
           | refine convK_u16 (by omega) ?_
           | refine convK_u32 (by omega) ?_
           | refine wrapK_byte ?_
           | refine wrapK_u64 (by omega) ?_
           | refine wrapK_u32 (by omega) ?_
           | refine wrapK_u16 (by omega) ?_
           | with_reducible refine natK_lit ?_
           | refine natK_of rfl ?_
           | refine natK_any ?_
           | refine quoK_i64 (by omega) ?_
           | refine quoK_u8 (by omega) ?_
           | refine quoK_u16 (by omega) ?_
           | refine remK_pos (by omega) ?_
           | refine headI_cons ?_
           | refine headS_cons ?_
           | refine headB_cons ?_
           | refine headV_cons ?_
           | refine headX_cons ?_
           | refine headI_u8 (by first | omega | (simp; omega)) (fun _ => ?_)
           | refine headI_ints (by first | omega | (simp; omega)) ?_
           | refine bytesK_map ?_
           | refine catK_nil ?_
           | refine catK_nil' ?_
           | refine catK_u8 ?_
           | refine catK_one ?_
           | refine catK_lit (by omega) ?_
           | refine catK_ints ?_
           | refine catK_int1 ?_
           | refine packK_u8 ?_
           | refine packK_0 ?_
           | refine packK_1 (by omega) ?_
           | refine packK_2 (by omega) (by omega) ?_
           | refine packK_3 (by omega) (by omega) (by omega) ?_
           | refine packK_4 (by omega) (by omega) (by omega) (by omega) ?_
           | refine packK_any ?_
           | refine shrK_8 0 (by omega) rfl (by omega) ?_
           | refine shrK_8 1 (by omega) rfl (by omega) ?_
           | refine shrK_8 2 (by omega) rfl (by omega) ?_
           | refine shrK_8 3 (by omega) rfl (by omega) ?_
           | refine shlK_8 (by omega) (by omega) ?_
           | refine bitK_or8 (by omega) (by omega) ?_
           | refine nilK_no (by omega) ?_
           | refine takeC_u8 ?_
           | refine dropC_u8 ?_
           | refine dropC_zero ?_
           | refine takeC_any ?_
           | refine dropC_any ?_
           | refine callK_intro (c_awake5) ?_
           | refine callK_intro (c_User _ (by omega)) ?_
           | refine callK_intro (c_Longest0) ?_
           | refine callK_intro (c_rPutPrincipal [] rfl _ _ _ (by first | omega | (simp; done) | (simp; omega))) ?_
           | refine callK_intro (cs) ?_
           | refine callK_intro (c_rPutText [] rfl _ (by first | omega | (simp; done) | (simp; omega))) ?_
           | refine callK_intro (c_Text _ (by first | rfl | (simp; done) | (simp; omega)) (by first | omega | (simp; done) | (simp; omega)) _ (by omega)) ?_
           | refine callK_intro (c_rText _ (by first | rfl | (simp; done) | (simp; omega)) (by first | omega | (simp; done) | (simp; omega)) _ (by omega)) ?_
           | refine callK_intro (c_Principal _ (by first | rfl | (simp; done) | (simp; omega)) (by first | omega | (simp; done) | (simp; omega)) _ (by omega)) ?_
           | refine callK_intro (c_rPrincipal _ (by first | rfl | (simp; done) | (simp; omega)) (by first | omega | (simp; done) | (simp; omega)) _ (by omega)) ?_
           | refine loopK_step (G := g5) ?_
           | refine catK_any ?_
           | refine eitherK_l ?_
           | refine nlK_sl ?_
           | refine sideK_intro (by first | omega | rfl | exact Nat.le_of_ble_eq_true rfl | (refine ⟨?_, ?_⟩ <;> first | omega | (simp; done) | (simp; omega)) | (simp; done) | (simp; omega)) ?_
           | refine drawK_intro (by kernel_rfl) (by kernel_rfl) ?_)) <;> (try (conv => whnf))
end Go.Sx
namespace Go.Proofs.Ytjgiijcnhhnkkaa
open Go.ChangeShapes Go.WideShapes Go.ChangeAt Go.RowKit Go.Sx
namespace FieldTextsProof
set_option maxRecDepth 100000 in
theorem walk (W : World) (v0 v1 v2 v3 v4 : Value) (ls0 ls1 ls2 ls3 ls4 : List L)
    (t0 : Typ (tabF tab) 41 ls0) (t1 : Typ (tabF tab) 3 ls1) (t2 : Typ (tabF tab) 5 ls2) (t3 : Typ (tabF tab) 5 ls3) (t4 : Typ (tabF tab) 48 ls4)
    (r0 : RelC (fun _ => False) W noMu (argC (tabF tab 41).agg ls0) v0) (r1 : RelC (fun _ => False) W noMu (argC (tabF tab 3).agg ls1) v1) (r2 : RelC (fun _ => False) W noMu (argC (tabF tab 5).agg ls2) v2) (r3 : RelC (fun _ => False) W noMu (argC (tabF tab 5).agg ls3) v3) (r4 : RelC (fun _ => False) W noMu (argC (tabF tab 48).agg ls4) v4) :
    Calls Try.prog 5 #[v0, v1, v2, v3, v4] W fun e w' => e = .returned (.bool true) ∧ Below W.heap.size W w' := by
  obtain ⟨a0, rfl⟩ := typ_bytes t0 rfl rfl
  obtain ⟨a1, rfl, wa1⟩ := typ_int t1 rfl
  obtain ⟨a2, rfl⟩ := typ_u8 t2 rfl
  obtain ⟨a3, rfl⟩ := typ_u8 t3 rfl
  obtain ⟨a4, rfl, wa4⟩ := typ_int t4 rfl
  exact calls_of_fn Try.func5 rfl rfl (c_FieldTexts a0 a1 (wf_i64 wa1) a2 a3 a4 (wf_u16 wa4)) (relCs_cons r0 (relCs_cons r1 (relCs_cons r2 (relCs_cons r3 (relCs_cons r4 relCs_nil)))))

set_option maxRecDepth 100000 in
theorem lifted (os : Os) (started : os.Started) (H : Type) (enc : TypeId × Value → H) :
    ReturnsInHanded {} Try.checked os 5 .any (Rows.fieldTextsSpec.pre6 enc Try.prog Try.f5 Rows.fieldTextsRow.domain false) (Rows.fieldTextsSpec.post enc Try.prog Try.f5 false true false false) := by
  refine returnsInHanded_of_change (C := Try.checked) ownA started (by kernel_rfl) Try.func5
    (ChangeSpec.witness6 (enc := enc) (C := Try.checked) false ⟨#[], #[.slice none 0 0, .int .i64 0, .int .u8 0, .int .u8 0, .int .u16 0], []⟩ 8 (by kernel_rfl) (by kernel_rfl) (by kernel_rfl) (by kernel_rfl)) ?_
  intro W base args ds gs before hval0 hW hcnd _
  have hval : ∀ (j : Nat) t v, Try.f5.params[j]? = some t → args[j]? = some v → Value.okWide Try.prog W .any base t v := hval0
  have hW' := hW
  obtain ⟨p, q, hA0, hV, rfl, hfz, hnd⟩ := hW
  have hA : DataW.TrodAll enc Try.prog W 0 (fun _ => true) true Try.f5.params.toList args.toList ds p := hA0
  rw [Try.params5] at hA hval
  obtain ⟨v0, vs0, d0, ds0, p0, q0, hargs, rfl, rfl, h0, r0⟩ := trodAll_cons hA
  obtain ⟨v1, vs1, d1, ds1, p1, q1, rfl, rfl, rfl, h1, r1⟩ := trodAll_cons r0
  obtain ⟨v2, vs2, d2, ds2, p2, q2, rfl, rfl, rfl, h2, r2⟩ := trodAll_cons r1
  obtain ⟨v3, vs3, d3, ds3, p3, q3, rfl, rfl, rfl, h3, r3⟩ := trodAll_cons r2
  obtain ⟨v4, vs4, d4, ds4, p4, q4, rfl, rfl, rfl, h4, r4⟩ := trodAll_cons r3
  obtain ⟨rfl, rfl, rfl⟩ := trodAll_nil r4
  obtain rfl : args = #[v0, v1, v2, v3, v4] := by cases args; simp_all
  obtain ⟨rfl, rfl⟩ := trodVars_none hV
  obtain ⟨ls0, t0, c0⟩ := rel_arg tokA (n := 9) rfl h0 (hval 0 41 v0 rfl rfl)
  obtain ⟨ls1, t1, c1⟩ := rel_arg tokA (n := 9) rfl h1 (hval 1 3 v1 rfl rfl)
  obtain ⟨ls2, t2, c2⟩ := rel_arg tokA (n := 9) rfl h2 (hval 2 5 v2 rfl rfl)
  obtain ⟨ls3, t3, c3⟩ := rel_arg tokA (n := 9) rfl h3 (hval 3 5 v3 rfl rfl)
  obtain ⟨ls4, t4, c4⟩ := rel_arg tokA (n := 9) rfl h4 (hval 4 48 v4 rfl rfl)
  have lt0 : ∀ x ∈ p0, x.block < W.heap.size := by obtain ⟨m, hm⟩ := h0; exact DataW.trod_lt m _ _ _ hm
  have lt1 : ∀ x ∈ p1, x.block < W.heap.size := by obtain ⟨m, hm⟩ := h1; exact DataW.trod_lt m _ _ _ hm
  have lt2 : ∀ x ∈ p2, x.block < W.heap.size := by obtain ⟨m, hm⟩ := h2; exact DataW.trod_lt m _ _ _ hm
  have lt3 : ∀ x ∈ p3, x.block < W.heap.size := by obtain ⟨m, hm⟩ := h3; exact DataW.trod_lt m _ _ _ hm
  have lt4 : ∀ x ∈ p4, x.block < W.heap.size := by obtain ⟨m, hm⟩ := h4; exact DataW.trod_lt m _ _ _ hm
  clear hA0 hval0
  refine (walk W v0 v1 v2 v3 v4 ls0 ls1 ls2 ls3 ls4 t0 t1 t2 t3 t4 c0 c1 c2 c3 c4).mono fun e W' ⟨he, bel⟩ => ?_
  subst he
  exact ⟨_, rfl, _, _, _, [], _, [], hW', trodAll_mk1 (shut_bool Try.underlying4 _), (trodAll_cons_mk (Below.trod laidOutA (by kernel_rfl) (of_decide_eq_true (by kernel_rfl)) h0 bel lt0) (trodAll_cons_mk (Below.trod laidOutA (by kernel_rfl) (of_decide_eq_true (by kernel_rfl)) h1 bel lt1) (trodAll_cons_mk (Below.trod laidOutA (by kernel_rfl) (of_decide_eq_true (by kernel_rfl)) h2 bel lt2) (trodAll_cons_mk (Below.trod laidOutA (by kernel_rfl) (of_decide_eq_true (by kernel_rfl)) h3 bel lt3) (trodAll_cons_mk (Below.trod laidOutA (by kernel_rfl) (of_decide_eq_true (by kernel_rfl)) h4 bel lt4) trodAll_mk0))))), rfl, bel.frame _, fun h => by cases h⟩

theorem over : Rows.fieldTextsRow.holds Try.pinned (OpenSpec.ofChange Rows.fieldTextsSpec) :=
  OpenClaim.holds_of_wide 5 Try.f5 rfl rfl rfl rfl rfl rfl rfl ⟨rfl, rfl, rfl, rfl, rfl⟩ rfl rfl rfl rfl rfl (by kernel_rfl) Try.func5 (by kernel_rfl)
    (of_decide_eq_true (by kernel_rfl)) (by unfold Func.isWrapper; first | (rw [if_pos (by decide +kernel)]; kernel_rfl) | (rw [if_neg (by decide +kernel)]; exact ⟨rfl, rfl⟩))
    (fun os started H enc _ => lifted os started H enc)
end FieldTextsProof

theorem fieldTexts_proved : Rows.FieldTextsSaid := FieldTextsProof.over
#print axioms fieldTexts_proved
end Go.Proofs.Ytjgiijcnhhnkkaa

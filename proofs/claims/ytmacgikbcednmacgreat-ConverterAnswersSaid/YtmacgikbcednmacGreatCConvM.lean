/-
  Contracts of the small functions of the laws about the converter.
-/
import Derived.Test.YtmacgikbcednmacGreatPX2
import Derived.Test.YtmacgikbcednmacGreatCConvA
import Derived.Test.YtmacgikbcednmacGreatCConvL
import Derived.Test.YtmacgikbcednmacGreatCSimple
set_option linter.all false
namespace Go.Sx
open Go.Proofs Go.RowKit
def aK (sv : Int) : Int := if sv % 3 = 0 then longK 4 else if sv % 3 = 1 then longK 5 else longK 3
theorem simO_len (a b c : Int) : (simO a b c).length = 6 := rfl
theorem simO_sm (life ex bad : UInt8) : ∀ s ∈ simO (life.toNat : Int) (ex.toNat : Int) (bad.toNat : Int), deSm 90000 s := by
  have u : ∀ n : Int, (userN n).length ≤ 3 := fun n => by unfold userN; split <;> (try split) <;> decide
  have v : ∀ n : Int, (serviceN n).length ≤ 6 := fun n => by unfold serviceN; split <;> (try split) <;> decide
  have w : ∀ n : Int, (serviceI n).length ≤ 4 := fun n => by unfold serviceI; split <;> (try split) <;> decide
  have k : ∀ n : Nat, n ≤ 6 → 0 ≤ longK (n : Int) ∧ longK (n : Int) ≤ 18446744073709551615 := fun n hn => by unfold longK; omega
  intro s hs
  simp only [simO, List.mem_cons, List.not_mem_nil, or_false] at hs
  rcases hs with rfl | rfl | rfl | rfl | rfl | rfl
  · exact ⟨Nat.le_trans (u 0) (by decide), Nat.zero_le _, k 0 (by decide)⟩
  · exact ⟨Nat.le_trans (u 1) (by decide), Nat.zero_le _, k 1 (by decide)⟩
  · exact ⟨Nat.le_trans (u 2) (by decide), Nat.zero_le _, k 2 (by decide)⟩
  · exact ⟨Nat.le_trans (v 2) (by decide), Nat.le_trans (w 2) (by decide), k 3 (by decide)⟩
  · exact ⟨Nat.le_trans (v 0) (by decide), Nat.le_trans (w 0) (by decide), k 4 (by decide)⟩
  · exact ⟨Nat.le_trans (v 1) (by decide), Nat.le_trans (w 1) (by decide), k 5 (by decide)⟩
theorem simO_kv (a b c : Int) : ∀ e ∈ simO a b c, 0 ≤ e.kv ∧ e.kv ≤ 255 := by
  intro s hs
  simp only [simO, List.mem_cons, List.not_mem_nil, or_false] at hs
  rcases hs with rfl | rfl | rfl | rfl | rfl | rfl <;> exact ⟨by dsimp only; omega, by dsimp only; omega⟩
noncomputable def g13 : Par := par 75 (nthLL [[2, 3], [4]]) [4] (nthLL [])
noncomputable def g8 : Par := par 108 (nthLL [[1], [1, 3], [1, 3, 4], [1, 3, 4], [1, 3, 4, 5], [1, 4, 5, 6, 7], [1, 4, 5, 6, 7, 54], [1, 4, 5, 6, 7, 54, 55], [1, 4, 5, 6, 7], [1, 4, 5, 6, 7, 54, 58], [1, 4, 5, 6, 7], [1, 4, 5, 6, 7, 54, 64], [1, 4, 5, 6, 7], [1, 4, 5, 6, 7, 71], [1, 4, 5, 6, 7], [1, 5, 6, 7, 8], [1, 5, 6, 7, 8, 81], [1, 5, 6, 7, 8], [1, 6, 7, 10], [1, 12], [1, 12, 102], [12], [2]]) [2, 8, 12] (nthLL [[], [], [0, 1, 3, 7, 0, 0, 32, 96, 239, 0, 512, 1536, 3584, 7680, 16383, 0, 65535], [], [0, 1, 3, 7, 0, 16, 48, 112, 255, 511, 1023], [0, 0, 2, 7]])
set_option maxRecDepth 10000
set_option maxHeartbeats 16000000
theorem c_same17 (kd : Int) (v1 v2 v3 c1 c2 c3 s1 s2 s3 : List UInt8) (k k2 k3 : Int) (S : List UInt8) {m n : Nat} (hm : m = S.length) (hn : n = S.length) (is en : Int) : Fn Tryz.prog 13 [.a [.i .i64 kd, .s v1, .s v2, .s v3, .s c1, .s c2, .s c3, .s s1, .s s2, .s s3, .i .u64 k, .i .u64 k2, .i .u64 k3, .sl (S.map u8) m, .i .i64 is, .i .i64 en], .a [.i .i64 kd, .s v1, .s v2, .s v3, .s c1, .s c2, .s c3, .s s1, .s s2, .s s3, .i .u64 k, .i .u64 k2, .i .u64 k3, .sl (S.map u8) n, .i .i64 is, .i .i64 en]] [] (.one (.c (.o (.b true)))) [] := by
  subst hm
  subst hn
  refine Fn_intro (G := g13) (goodA rfl) (fn := Tryz.f13) rfl rfl rfl rfl rfl ?_
  (repeat' ((conv => whnf) <;> first | with_reducible refine boolK_refl ?_ | exact rfl | with_reducible refine boolK_dec (fun _ => ?_) (fun _ => ?_) <;> try (exfalso; omega) | refine boolK_beq (fun _ => ?_) (fun _ => ?_) <;> try (exfalso; first | omega | with_reducible contradiction) | refine boolK_bne (fun _ => ?_) (fun _ => ?_) <;> try (exfalso; first | omega | with_reducible contradiction) | (with_reducible first | refine boolK_not ?_ | refine boolK_and ?_ | refine boolK_or ?_ | refine boolK_true ?_ | refine boolK_false ?_) | refine boolK_intro (fun _ => ?_) (fun _ => ?_) <;> try (exfalso; simp_all; done) | refine jC ?_ | refine jD ?_ | refine jE ?_ | refine jF ?_ | refine jG ?_ | with_reducible refine natK_lit ?_ | refine natK_of rfl ?_ | refine natK_any ?_ | refine jW ?_ | assumption | refine jy ?_ | refine ju ?_ | refine jv ?_)) <;> (try (conv => whnf))
theorem enc26 (c1 c2 c3 s1 s2 s3 : List UInt8) (k st en ad : Int) (hl : c1.length ≤ 100000 ∧ c2.length ≤ 100000 ∧ c3.length ≤ 100000 ∧ s1.length ≤ 100000 ∧ s2.length ≤ 100000 ∧ s3.length ≤ 100000) (hk : 0 ≤ k ∧ k ≤ 18446744073709551615) : ∃ (B : List UInt8) (e : Int), B.length ≤ 1000 ∧ Fn Tryz.prog 21 [.a [.s c1, .s c2, .s c3, .s s1, .s s2, .s s3, .i .u64 k, .i .i64 st, .i .i64 en, .i .i64 ad]] [] (.tup [.fr (B.map u8) B.length 1, .c (.o (.i .i64 e))]) [] := by
  refine ⟨_, _, ?_, c_rEncR c1 c2 c3 s1 s2 s3 k st en ad hl hk⟩
  by_cases h : (frN ⟨c1, c2, c3, s1, s2, s3, k, st, en, ad⟩).2 = 0
  · obtain ⟨⟨v1, v2⟩, _, _, hb⟩ := frN_is (pair_of h rfl)
    obtain ⟨a1, a2, a3⟩ := valid_len v1
    obtain ⟨b1, b2, b3⟩ := valid_len v2
    rw [← hb, padS_len]
    have := padN_lt (frB ⟨c1, c2, c3, s1, s2, s3, k, st, en, ad⟩).length
    have := frB_len ⟨c1, c2, c3, s1, s2, s3, k, st, en, ad⟩
    dsimp only at *
    omega
  · unfold frN at h ⊢
    split at h
    · rename_i h1
      split at h
      · rename_i h2
        split at h
        · exact absurd rfl h
        · rename_i h3; rw [if_pos h1, if_pos h2, if_neg h3]; exact Nat.zero_le _
      · rename_i h2; rw [if_pos h1, if_neg h2]; exact Nat.zero_le _
    · rename_i h1; rw [if_neg h1]; exact Nat.zero_le _
theorem mak26 (K : Int) (hK : 0 ≤ K ∧ K ≤ 18446744073709551615) (b : List UInt8) {m : Nat} (hm : m = b.length) (hb : b.length ≤ 2000) : ∃ (B : List UInt8) (e : Int), B.length ≤ 1012 ∧ Fn Tryz.prog 22 [.o (.i .i64 9), .o (.i .u64 K), .o (.sl (b.map u8) m)] [] (.tup [.fr (B.map u8) B.length 1, .c (.o (.i .i64 e))]) [] := ⟨_, _, makeS_len _ _ _, c_rboxMake 9 K hK b hm (by omega)⟩
theorem fmN_len (t : FMsg) : (fmN t).1.length ≤ 1200 := by
  by_cases h : (fmN t).2 = 0
  · obtain ⟨_, v, h3, hb⟩ := fmN_is (pair_of h rfl)
    obtain ⟨a1, a2, a3⟩ := valid_len v
    rw [← hb, fmB_len]
    omega
  · unfold fmN at h ⊢
    split at h
    · rename_i h1
      split at h
      · rename_i h2
        split at h
        · exact absurd rfl h
        · rename_i h3; rw [if_pos h1, if_pos h2, if_neg h3]; exact Nat.zero_le _
      · rename_i h2; rw [if_pos h1, if_neg h2]; exact Nat.zero_le _
    · rename_i h1; rw [if_neg h1]; exact Nat.zero_le _
theorem msg26 (op : Int) (n1 n2 n3 bx : List UInt8) {m : Nat} (hm : m = bx.length) (hl : n1.length ≤ 100000 ∧ n2.length ≤ 100000 ∧ n3.length ≤ 100000 ∧ bx.length ≤ 100000) : ∃ (B : List UInt8) (e : Int), B.length ≤ 1200 ∧ Fn Tryz.prog 19 [.a [.i .i64 op, .s n1, .s n2, .s n3, .sl (bx.map u8) m]] [] (.tup [.fr (B.map u8) B.length 1, .c (.o (.i .i64 e))]) [] := ⟨_, _, fmN_len _, c_rEncM op n1 n2 n3 bx hm hl⟩
theorem c_message_0 (cl sv nm ky wr : UInt8) (st ln hw : Int) (hst : 0 ≤ st ∧ st ≤ 65535) (hln : 0 ≤ ln ∧ ln ≤ 65535) (hhw : 0 ≤ hw ∧ hw ≤ 65535) (hw12 : (wr.toNat : Int) % 12 = 0) : ∃ B : List UInt8, B.length ≤ 1300 ∧ Fn Tryz.prog 8 [.a [.i .u8 (cl.toNat : Int), .i .u8 (sv.toNat : Int), .i .u8 (nm.toNat : Int), .i .u8 (ky.toNat : Int), .i .u16 st, .i .u16 ln, .i .u8 (wr.toNat : Int), .i .u16 hw]] [] (.one (.fr (B.map u8) B.length 1)) [] := by
  have h1 := byte_lt cl
  have h2 := byte_lt sv
  have h3 := byte_lt nm
  have h4 := byte_lt ky
  have uU := c_User (cl.toNat : Int) (by omega)
  have uS := c_Service ((sv.toNat : Int) % 3) (by omega)
  have uK := c_Session (ky.toNat : Int) (by omega)
  have l4 := c_Long 4 (by omega)
  have l5 := c_Long 5 (by omega)
  have l3 := c_Long 3 (by omega)
  have U : ∀ n : Int, (userN n).length ≤ 3 := fun n => by unfold userN; split <;> (try split) <;> decide
  have S : ∀ n : Int, (serviceN n).length ≤ 6 := fun n => by unfold serviceN; split <;> (try split) <;> decide
  have I : ∀ n : Int, (serviceI n).length ≤ 4 := fun n => by unfold serviceI; split <;> (try split) <;> decide
  have T : ∀ n : Int, (realmN n).length ≤ 3 := fun n => by unfold realmN; split <;> (try split) <;> decide
  have U1 := U (cl.toNat : Int)
  have T1 := T ((cl.toNat : Int) / 3)
  have S1 := S ((sv.toNat : Int) % 3)
  have I1 := I ((sv.toNat : Int) % 3)
  have T2 := T ((sv.toNat : Int) % 3 / 3)
  have k1 : 0 ≤ sessN (ky.toNat : Int) ∧ sessN (ky.toNat : Int) ≤ 18446744073709551615 := by unfold sessN; omega
  have k4 : 0 ≤ longK 4 ∧ longK 4 ≤ 18446744073709551615 := by decide
  have k5 : 0 ≤ longK 5 ∧ longK 5 ≤ 18446744073709551615 := by decide
  have k3 : 0 ≤ longK 3 ∧ longK 3 ≤ 18446744073709551615 := by decide
  have h5 := byte_lt wr
  clear U S I T
  obtain ⟨B0, x0, L0, c1⟩ := enc26 (userN (cl.toNat : Int)) [] (realmN ((cl.toNat : Int) / 3)) (serviceN ((sv.toNat : Int) % 3)) (serviceI ((sv.toNat : Int) % 3)) (realmN ((sv.toNat : Int) % 3 / 3)) (sessN (ky.toNat : Int)) (1000 + st % 5000) (1000 + st % 5000 + ln) 3 (by simp only [List.length_nil]; omega) k1
  obtain ⟨KX, hKX, hKr⟩ : ∃ KX : Int, KX = aK (sv.toNat : Int) ∧ (0 ≤ KX ∧ KX ≤ 18446744073709551615) := ⟨_, rfl, by unfold aK; split; exact k4; split; exact k5; exact k3⟩
  obtain ⟨B1, x1, L1, c2⟩ := mak26 KX hKr B0 (m := B0.length) rfl (by omega)
  obtain ⟨B2, x2, L2, c3⟩ := msg26 2 (serviceN ((sv.toNat : Int) % 3)) (serviceI ((sv.toNat : Int) % 3)) (realmN ((sv.toNat : Int) % 3 / 3)) B1 (m := B1.length) rfl (by omega)
  refine ⟨B2, by omega, ?_⟩
  have hs : (sv.toNat : Int) % 3 = 0 ∨ (sv.toNat : Int) % 3 = 1 ∨ (sv.toNat : Int) % 3 = 2 := by omega
  rcases hs with hs | hs | hs
  · have ek : aK (sv.toNat : Int) = longK 4 := by unfold aK; rw [hs]; rfl
    rw [ek] at hKX
    clear ek
    subst hKX
    generalize longK 4 = K4 at *
    generalize longK 5 = K5 at *
    generalize longK 3 = K3 at *
    generalize userN (cl.toNat : Int) = Uc at *
    generalize realmN ((cl.toNat : Int) / 3) = Rc at *
    generalize serviceN ((sv.toNat : Int) % 3) = Sv at *
    generalize serviceI ((sv.toNat : Int) % 3) = Iv at *
    generalize realmN ((sv.toNat : Int) % 3 / 3) = Rv at *
    generalize sessN (ky.toNat : Int) = Ks at *
    refine Fn_intro (G := g8) (goodA rfl) (fn := Tryz.f8) rfl rfl rfl rfl rfl ?_
    (repeat' ((conv => whnf) <;> first | refine natK_of (j := 0) (by omega) ?_ | exact rfl | with_reducible refine boolK_dec (fun _ => ?_) (fun _ => ?_) <;> try (exfalso; omega) | refine boolK_beq (fun _ => ?_) (fun _ => ?_) <;> try (exfalso; first | omega | with_reducible contradiction) | refine boolK_bne (fun _ => ?_) (fun _ => ?_) <;> try (exfalso; first | omega | with_reducible contradiction) | (with_reducible first | refine boolK_not ?_ | refine boolK_and ?_ | refine boolK_or ?_ | refine boolK_true ?_ | refine boolK_false ?_) | refine boolK_intro (fun _ => ?_) (fun _ => ?_) <;> try (exfalso; simp_all; done) | refine jA ?_ | refine jB ?_ | refine jC ?_ | refine jD ?_ | refine jE ?_ | refine jF ?_ | refine jG ?_ | refine jH ?_ | refine jI ?_ | refine jJ ?_ | refine jK ?_ | with_reducible refine natK_lit ?_ | refine natK_of rfl ?_ | refine natK_any ?_ | refine jO ?_ | refine jP ?_ | refine jQ ?_ | refine jR ?_ | refine jS ?_ | refine jT ?_ | refine jU (fun _ => ?_) | refine jV ?_ | refine jW ?_ | refine jX ?_ | refine jY ?_ | refine jZ ?_ | refine ja ?_ | refine jb ?_ | refine jc ?_ | refine jd ?_ | refine je ?_ | refine jf ?_ | refine jg ?_ | refine jh ?_ | refine ji ?_ | refine jj ?_ | refine jk ?_ | refine jn ?_ | refine jo ?_ | refine jp ?_ | refine jq ?_ | refine jr ?_ | refine js ?_ | refine callK_intro (uU) ?_ | refine callK_intro (uS) ?_ | refine callK_intro (uK) ?_ | refine callK_intro (l4) ?_ | refine callK_intro (l5) ?_ | refine callK_intro (l3) ?_ | refine callK_intro (c1) ?_ | refine callK_intro (c2) ?_ | refine callK_intro (c3) ?_ | refine jt ?_ | refine jy ?_ | refine ju ?_ | refine sideK_intro (by first | (exact ⟨rfl, rfl, rfl⟩)) ?_ | refine jv ?_)) <;> (try (conv => whnf))
  · have ek : aK (sv.toNat : Int) = longK 5 := by unfold aK; rw [hs]; rfl
    rw [ek] at hKX
    clear ek
    subst hKX
    generalize longK 4 = K4 at *
    generalize longK 5 = K5 at *
    generalize longK 3 = K3 at *
    generalize userN (cl.toNat : Int) = Uc at *
    generalize realmN ((cl.toNat : Int) / 3) = Rc at *
    generalize serviceN ((sv.toNat : Int) % 3) = Sv at *
    generalize serviceI ((sv.toNat : Int) % 3) = Iv at *
    generalize realmN ((sv.toNat : Int) % 3 / 3) = Rv at *
    generalize sessN (ky.toNat : Int) = Ks at *
    refine Fn_intro (G := g8) (goodA rfl) (fn := Tryz.f8) rfl rfl rfl rfl rfl ?_
    (repeat' ((conv => whnf) <;> first | refine natK_of (j := 1) (by omega) ?_ | exact rfl | with_reducible refine boolK_dec (fun _ => ?_) (fun _ => ?_) <;> try (exfalso; omega) | refine boolK_beq (fun _ => ?_) (fun _ => ?_) <;> try (exfalso; first | omega | with_reducible contradiction) | refine boolK_bne (fun _ => ?_) (fun _ => ?_) <;> try (exfalso; first | omega | with_reducible contradiction) | (with_reducible first | refine boolK_not ?_ | refine boolK_and ?_ | refine boolK_or ?_ | refine boolK_true ?_ | refine boolK_false ?_) | refine boolK_intro (fun _ => ?_) (fun _ => ?_) <;> try (exfalso; simp_all; done) | refine jA ?_ | refine jB ?_ | refine jC ?_ | refine jD ?_ | refine jE ?_ | refine jF ?_ | refine jG ?_ | refine jH ?_ | refine jI ?_ | refine jJ ?_ | refine jK ?_ | with_reducible refine natK_lit ?_ | refine natK_of rfl ?_ | refine natK_any ?_ | refine jO ?_ | refine jP ?_ | refine jQ ?_ | refine jR ?_ | refine jS ?_ | refine jT ?_ | refine jU (fun _ => ?_) | refine jV ?_ | refine jW ?_ | refine jX ?_ | refine jY ?_ | refine jZ ?_ | refine ja ?_ | refine jb ?_ | refine jc ?_ | refine jd ?_ | refine je ?_ | refine jf ?_ | refine jg ?_ | refine jh ?_ | refine ji ?_ | refine jj ?_ | refine jk ?_ | refine jn ?_ | refine jo ?_ | refine jp ?_ | refine jq ?_ | refine jr ?_ | refine js ?_ | refine callK_intro (uU) ?_ | refine callK_intro (uS) ?_ | refine callK_intro (uK) ?_ | refine callK_intro (l4) ?_ | refine callK_intro (l5) ?_ | refine callK_intro (l3) ?_ | refine callK_intro (c1) ?_ | refine callK_intro (c2) ?_ | refine callK_intro (c3) ?_ | refine jt ?_ | refine jy ?_ | refine ju ?_ | refine sideK_intro (by first | (exact ⟨rfl, rfl, rfl⟩)) ?_ | refine jv ?_)) <;> (try (conv => whnf))
  · have ek : aK (sv.toNat : Int) = longK 3 := by unfold aK; rw [hs]; rfl
    rw [ek] at hKX
    clear ek
    subst hKX
    generalize longK 4 = K4 at *
    generalize longK 5 = K5 at *
    generalize longK 3 = K3 at *
    generalize userN (cl.toNat : Int) = Uc at *
    generalize realmN ((cl.toNat : Int) / 3) = Rc at *
    generalize serviceN ((sv.toNat : Int) % 3) = Sv at *
    generalize serviceI ((sv.toNat : Int) % 3) = Iv at *
    generalize realmN ((sv.toNat : Int) % 3 / 3) = Rv at *
    generalize sessN (ky.toNat : Int) = Ks at *
    refine Fn_intro (G := g8) (goodA rfl) (fn := Tryz.f8) rfl rfl rfl rfl rfl ?_
    (repeat' ((conv => whnf) <;> first | refine natK_of (j := 2) (by omega) ?_ | exact rfl | with_reducible refine boolK_dec (fun _ => ?_) (fun _ => ?_) <;> try (exfalso; omega) | refine boolK_beq (fun _ => ?_) (fun _ => ?_) <;> try (exfalso; first | omega | with_reducible contradiction) | refine boolK_bne (fun _ => ?_) (fun _ => ?_) <;> try (exfalso; first | omega | with_reducible contradiction) | (with_reducible first | refine boolK_not ?_ | refine boolK_and ?_ | refine boolK_or ?_ | refine boolK_true ?_ | refine boolK_false ?_) | refine boolK_intro (fun _ => ?_) (fun _ => ?_) <;> try (exfalso; simp_all; done) | refine jA ?_ | refine jB ?_ | refine jC ?_ | refine jD ?_ | refine jE ?_ | refine jF ?_ | refine jG ?_ | refine jH ?_ | refine jI ?_ | refine jJ ?_ | refine jK ?_ | with_reducible refine natK_lit ?_ | refine natK_of rfl ?_ | refine natK_any ?_ | refine jO ?_ | refine jP ?_ | refine jQ ?_ | refine jR ?_ | refine jS ?_ | refine jT ?_ | refine jU (fun _ => ?_) | refine jV ?_ | refine jW ?_ | refine jX ?_ | refine jY ?_ | refine jZ ?_ | refine ja ?_ | refine jb ?_ | refine jc ?_ | refine jd ?_ | refine je ?_ | refine jf ?_ | refine jg ?_ | refine jh ?_ | refine ji ?_ | refine jj ?_ | refine jk ?_ | refine jn ?_ | refine jo ?_ | refine jp ?_ | refine jq ?_ | refine jr ?_ | refine js ?_ | refine callK_intro (uU) ?_ | refine callK_intro (uS) ?_ | refine callK_intro (uK) ?_ | refine callK_intro (l4) ?_ | refine callK_intro (l5) ?_ | refine callK_intro (l3) ?_ | refine callK_intro (c1) ?_ | refine callK_intro (c2) ?_ | refine callK_intro (c3) ?_ | refine jt ?_ | refine jy ?_ | refine ju ?_ | refine sideK_intro (by first | (exact ⟨rfl, rfl, rfl⟩)) ?_ | refine jv ?_)) <;> (try (conv => whnf))
theorem c_message_1 (cl sv nm ky wr : UInt8) (st ln hw : Int) (hst : 0 ≤ st ∧ st ≤ 65535) (hln : 0 ≤ ln ∧ ln ≤ 65535) (hhw : 0 ≤ hw ∧ hw ≤ 65535) (hw12 : (wr.toNat : Int) % 12 = 1) : ∃ B : List UInt8, B.length ≤ 1300 ∧ Fn Tryz.prog 8 [.a [.i .u8 (cl.toNat : Int), .i .u8 (sv.toNat : Int), .i .u8 (nm.toNat : Int), .i .u8 (ky.toNat : Int), .i .u16 st, .i .u16 ln, .i .u8 (wr.toNat : Int), .i .u16 hw]] [] (.one (.fr (B.map u8) B.length 1)) [] := by
  have h1 := byte_lt cl
  have h2 := byte_lt sv
  have h3 := byte_lt nm
  have h4 := byte_lt ky
  have uU := c_User (cl.toNat : Int) (by omega)
  have uS := c_Service ((sv.toNat : Int) % 3) (by omega)
  have uK := c_Session (ky.toNat : Int) (by omega)
  have l4 := c_Long 4 (by omega)
  have l5 := c_Long 5 (by omega)
  have l3 := c_Long 3 (by omega)
  have U : ∀ n : Int, (userN n).length ≤ 3 := fun n => by unfold userN; split <;> (try split) <;> decide
  have S : ∀ n : Int, (serviceN n).length ≤ 6 := fun n => by unfold serviceN; split <;> (try split) <;> decide
  have I : ∀ n : Int, (serviceI n).length ≤ 4 := fun n => by unfold serviceI; split <;> (try split) <;> decide
  have T : ∀ n : Int, (realmN n).length ≤ 3 := fun n => by unfold realmN; split <;> (try split) <;> decide
  have U1 := U (cl.toNat : Int)
  have T1 := T ((cl.toNat : Int) / 3)
  have S1 := S ((sv.toNat : Int) % 3)
  have I1 := I ((sv.toNat : Int) % 3)
  have T2 := T ((sv.toNat : Int) % 3 / 3)
  have k1 : 0 ≤ sessN (ky.toNat : Int) ∧ sessN (ky.toNat : Int) ≤ 18446744073709551615 := by unfold sessN; omega
  have k4 : 0 ≤ longK 4 ∧ longK 4 ≤ 18446744073709551615 := by decide
  have k5 : 0 ≤ longK 5 ∧ longK 5 ≤ 18446744073709551615 := by decide
  have k3 : 0 ≤ longK 3 ∧ longK 3 ≤ 18446744073709551615 := by decide
  have h5 := byte_lt wr
  have l9 := c_Long 9 (by omega)
  have k9 : 0 ≤ longK 9 ∧ longK 9 ≤ 18446744073709551615 := by decide
  clear U S I T
  obtain ⟨B0, x0, L0, c1⟩ := enc26 (userN (cl.toNat : Int)) [] (realmN ((cl.toNat : Int) / 3)) (serviceN ((sv.toNat : Int) % 3)) (serviceI ((sv.toNat : Int) % 3)) (realmN ((sv.toNat : Int) % 3 / 3)) (sessN (ky.toNat : Int)) (1000 + st % 5000) (1000 + st % 5000 + ln) 3 (by simp only [List.length_nil]; omega) k1
  obtain ⟨KX, hKX, hKr⟩ : ∃ KX : Int, KX = longK 9 ∧ (0 ≤ KX ∧ KX ≤ 18446744073709551615) := ⟨_, rfl, k9⟩
  obtain ⟨B1, x1, L1, c2⟩ := mak26 KX hKr B0 (m := B0.length) rfl (by omega)
  obtain ⟨B2, x2, L2, c3⟩ := msg26 2 (serviceN ((sv.toNat : Int) % 3)) (serviceI ((sv.toNat : Int) % 3)) (realmN ((sv.toNat : Int) % 3 / 3)) B1 (m := B1.length) rfl (by omega)
  refine ⟨B2, by omega, ?_⟩
  subst hKX
  generalize longK 4 = K4 at *
  generalize longK 5 = K5 at *
  generalize longK 3 = K3 at *
  generalize userN (cl.toNat : Int) = Uc at *
  generalize realmN ((cl.toNat : Int) / 3) = Rc at *
  generalize serviceN ((sv.toNat : Int) % 3) = Sv at *
  generalize serviceI ((sv.toNat : Int) % 3) = Iv at *
  generalize realmN ((sv.toNat : Int) % 3 / 3) = Rv at *
  generalize sessN (ky.toNat : Int) = Ks at *
  generalize longK 9 = K9 at *
  have hs : (sv.toNat : Int) % 3 = 0 ∨ (sv.toNat : Int) % 3 = 1 ∨ (sv.toNat : Int) % 3 = 2 := by omega
  rcases hs with hs | hs | hs
  · skip
    refine Fn_intro (G := g8) (goodA rfl) (fn := Tryz.f8) rfl rfl rfl rfl rfl ?_
    (repeat' ((conv => whnf) <;> first | refine natK_of (j := 0) (by omega) ?_ | exact rfl | with_reducible refine boolK_dec (fun _ => ?_) (fun _ => ?_) <;> try (exfalso; omega) | refine boolK_beq (fun _ => ?_) (fun _ => ?_) <;> try (exfalso; first | omega | with_reducible contradiction) | refine boolK_bne (fun _ => ?_) (fun _ => ?_) <;> try (exfalso; first | omega | with_reducible contradiction) | (with_reducible first | refine boolK_not ?_ | refine boolK_and ?_ | refine boolK_or ?_ | refine boolK_true ?_ | refine boolK_false ?_) | refine boolK_intro (fun _ => ?_) (fun _ => ?_) <;> try (exfalso; simp_all; done) | refine jA ?_ | refine jB ?_ | refine jC ?_ | refine jD ?_ | refine jE ?_ | refine jF ?_ | refine jG ?_ | refine jH ?_ | refine jI ?_ | refine jJ ?_ | refine jK ?_ | with_reducible refine natK_lit ?_ | refine natK_of rfl ?_ | refine natK_any ?_ | refine jO ?_ | refine jP ?_ | refine jQ ?_ | refine jR ?_ | refine jS ?_ | refine jT ?_ | refine jU (fun _ => ?_) | refine jV ?_ | refine jW ?_ | refine jX ?_ | refine jY ?_ | refine jZ ?_ | refine ja ?_ | refine jb ?_ | refine jc ?_ | refine jd ?_ | refine je ?_ | refine jf ?_ | refine jg ?_ | refine jh ?_ | refine ji ?_ | refine jj ?_ | refine jk ?_ | refine jn ?_ | refine jo ?_ | refine jp ?_ | refine jq ?_ | refine jr ?_ | refine js ?_ | refine callK_intro (uU) ?_ | refine callK_intro (uS) ?_ | refine callK_intro (uK) ?_ | refine callK_intro (l4) ?_ | refine callK_intro (l5) ?_ | refine callK_intro (l3) ?_ | refine callK_intro (c1) ?_ | refine callK_intro (c2) ?_ | refine callK_intro (c3) ?_ | refine callK_intro (l9) ?_ | refine jt ?_ | refine jy ?_ | refine ju ?_ | refine sideK_intro (by first | (exact ⟨rfl, rfl, rfl⟩)) ?_ | refine jv ?_)) <;> (try (conv => whnf))
  · skip
    refine Fn_intro (G := g8) (goodA rfl) (fn := Tryz.f8) rfl rfl rfl rfl rfl ?_
    (repeat' ((conv => whnf) <;> first | refine natK_of (j := 1) (by omega) ?_ | exact rfl | with_reducible refine boolK_dec (fun _ => ?_) (fun _ => ?_) <;> try (exfalso; omega) | refine boolK_beq (fun _ => ?_) (fun _ => ?_) <;> try (exfalso; first | omega | with_reducible contradiction) | refine boolK_bne (fun _ => ?_) (fun _ => ?_) <;> try (exfalso; first | omega | with_reducible contradiction) | (with_reducible first | refine boolK_not ?_ | refine boolK_and ?_ | refine boolK_or ?_ | refine boolK_true ?_ | refine boolK_false ?_) | refine boolK_intro (fun _ => ?_) (fun _ => ?_) <;> try (exfalso; simp_all; done) | refine jA ?_ | refine jB ?_ | refine jC ?_ | refine jD ?_ | refine jE ?_ | refine jF ?_ | refine jG ?_ | refine jH ?_ | refine jI ?_ | refine jJ ?_ | refine jK ?_ | with_reducible refine natK_lit ?_ | refine natK_of rfl ?_ | refine natK_any ?_ | refine jO ?_ | refine jP ?_ | refine jQ ?_ | refine jR ?_ | refine jS ?_ | refine jT ?_ | refine jU (fun _ => ?_) | refine jV ?_ | refine jW ?_ | refine jX ?_ | refine jY ?_ | refine jZ ?_ | refine ja ?_ | refine jb ?_ | refine jc ?_ | refine jd ?_ | refine je ?_ | refine jf ?_ | refine jg ?_ | refine jh ?_ | refine ji ?_ | refine jj ?_ | refine jk ?_ | refine jn ?_ | refine jo ?_ | refine jp ?_ | refine jq ?_ | refine jr ?_ | refine js ?_ | refine callK_intro (uU) ?_ | refine callK_intro (uS) ?_ | refine callK_intro (uK) ?_ | refine callK_intro (l4) ?_ | refine callK_intro (l5) ?_ | refine callK_intro (l3) ?_ | refine callK_intro (c1) ?_ | refine callK_intro (c2) ?_ | refine callK_intro (c3) ?_ | refine callK_intro (l9) ?_ | refine jt ?_ | refine jy ?_ | refine ju ?_ | refine sideK_intro (by first | (exact ⟨rfl, rfl, rfl⟩)) ?_ | refine jv ?_)) <;> (try (conv => whnf))
  · skip
    refine Fn_intro (G := g8) (goodA rfl) (fn := Tryz.f8) rfl rfl rfl rfl rfl ?_
    (repeat' ((conv => whnf) <;> first | refine natK_of (j := 2) (by omega) ?_ | exact rfl | with_reducible refine boolK_dec (fun _ => ?_) (fun _ => ?_) <;> try (exfalso; omega) | refine boolK_beq (fun _ => ?_) (fun _ => ?_) <;> try (exfalso; first | omega | with_reducible contradiction) | refine boolK_bne (fun _ => ?_) (fun _ => ?_) <;> try (exfalso; first | omega | with_reducible contradiction) | (with_reducible first | refine boolK_not ?_ | refine boolK_and ?_ | refine boolK_or ?_ | refine boolK_true ?_ | refine boolK_false ?_) | refine boolK_intro (fun _ => ?_) (fun _ => ?_) <;> try (exfalso; simp_all; done) | refine jA ?_ | refine jB ?_ | refine jC ?_ | refine jD ?_ | refine jE ?_ | refine jF ?_ | refine jG ?_ | refine jH ?_ | refine jI ?_ | refine jJ ?_ | refine jK ?_ | with_reducible refine natK_lit ?_ | refine natK_of rfl ?_ | refine natK_any ?_ | refine jO ?_ | refine jP ?_ | refine jQ ?_ | refine jR ?_ | refine jS ?_ | refine jT ?_ | refine jU (fun _ => ?_) | refine jV ?_ | refine jW ?_ | refine jX ?_ | refine jY ?_ | refine jZ ?_ | refine ja ?_ | refine jb ?_ | refine jc ?_ | refine jd ?_ | refine je ?_ | refine jf ?_ | refine jg ?_ | refine jh ?_ | refine ji ?_ | refine jj ?_ | refine jk ?_ | refine jn ?_ | refine jo ?_ | refine jp ?_ | refine jq ?_ | refine jr ?_ | refine js ?_ | refine callK_intro (uU) ?_ | refine callK_intro (uS) ?_ | refine callK_intro (uK) ?_ | refine callK_intro (l4) ?_ | refine callK_intro (l5) ?_ | refine callK_intro (l3) ?_ | refine callK_intro (c1) ?_ | refine callK_intro (c2) ?_ | refine callK_intro (c3) ?_ | refine callK_intro (l9) ?_ | refine jt ?_ | refine jy ?_ | refine ju ?_ | refine sideK_intro (by first | (exact ⟨rfl, rfl, rfl⟩)) ?_ | refine jv ?_)) <;> (try (conv => whnf))
theorem c_message_2 (cl sv nm ky wr : UInt8) (st ln hw : Int) (hst : 0 ≤ st ∧ st ≤ 65535) (hln : 0 ≤ ln ∧ ln ≤ 65535) (hhw : 0 ≤ hw ∧ hw ≤ 65535) (hw12 : (wr.toNat : Int) % 12 = 2) : ∃ B : List UInt8, B.length ≤ 1300 ∧ Fn Tryz.prog 8 [.a [.i .u8 (cl.toNat : Int), .i .u8 (sv.toNat : Int), .i .u8 (nm.toNat : Int), .i .u8 (ky.toNat : Int), .i .u16 st, .i .u16 ln, .i .u8 (wr.toNat : Int), .i .u16 hw]] [] (.one (.fr (B.map u8) B.length 1)) [] := by
  have h1 := byte_lt cl
  have h2 := byte_lt sv
  have h3 := byte_lt nm
  have h4 := byte_lt ky
  have uU := c_User (cl.toNat : Int) (by omega)
  have uS := c_Service ((sv.toNat : Int) % 3) (by omega)
  have uK := c_Session (ky.toNat : Int) (by omega)
  have l4 := c_Long 4 (by omega)
  have l5 := c_Long 5 (by omega)
  have l3 := c_Long 3 (by omega)
  have U : ∀ n : Int, (userN n).length ≤ 3 := fun n => by unfold userN; split <;> (try split) <;> decide
  have S : ∀ n : Int, (serviceN n).length ≤ 6 := fun n => by unfold serviceN; split <;> (try split) <;> decide
  have I : ∀ n : Int, (serviceI n).length ≤ 4 := fun n => by unfold serviceI; split <;> (try split) <;> decide
  have T : ∀ n : Int, (realmN n).length ≤ 3 := fun n => by unfold realmN; split <;> (try split) <;> decide
  have U1 := U (cl.toNat : Int)
  have T1 := T ((cl.toNat : Int) / 3)
  have S1 := S ((sv.toNat : Int) % 3)
  have I1 := I ((sv.toNat : Int) % 3)
  have T2 := T ((sv.toNat : Int) % 3 / 3)
  have k1 : 0 ≤ sessN (ky.toNat : Int) ∧ sessN (ky.toNat : Int) ≤ 18446744073709551615 := by unfold sessN; omega
  have k4 : 0 ≤ longK 4 ∧ longK 4 ≤ 18446744073709551615 := by decide
  have k5 : 0 ≤ longK 5 ∧ longK 5 ≤ 18446744073709551615 := by decide
  have k3 : 0 ≤ longK 3 ∧ longK 3 ≤ 18446744073709551615 := by decide
  have h5 := byte_lt wr
  have uN := c_Service (nm.toNat : Int) (by omega)
  have S3 := S (nm.toNat : Int)
  have I3 := I (nm.toNat : Int)
  have T3 := T ((nm.toNat : Int) / 3)
  clear U S I T
  obtain ⟨B0, x0, L0, c1⟩ := enc26 (userN (cl.toNat : Int)) [] (realmN ((cl.toNat : Int) / 3)) (serviceN ((sv.toNat : Int) % 3)) (serviceI ((sv.toNat : Int) % 3)) (realmN ((sv.toNat : Int) % 3 / 3)) (sessN (ky.toNat : Int)) (1000 + st % 5000) (1000 + st % 5000 + ln) 3 (by simp only [List.length_nil]; omega) k1
  obtain ⟨KX, hKX, hKr⟩ : ∃ KX : Int, KX = aK (sv.toNat : Int) ∧ (0 ≤ KX ∧ KX ≤ 18446744073709551615) := ⟨_, rfl, by unfold aK; split; exact k4; split; exact k5; exact k3⟩
  obtain ⟨B1, x1, L1, c2⟩ := mak26 KX hKr B0 (m := B0.length) rfl (by omega)
  obtain ⟨B2, x2, L2, c3⟩ := msg26 2 (serviceN (nm.toNat : Int)) (serviceI (nm.toNat : Int)) (realmN ((nm.toNat : Int) / 3)) B1 (m := B1.length) rfl (by omega)
  refine ⟨B2, by omega, ?_⟩
  have hs : (sv.toNat : Int) % 3 = 0 ∨ (sv.toNat : Int) % 3 = 1 ∨ (sv.toNat : Int) % 3 = 2 := by omega
  rcases hs with hs | hs | hs
  · have ek : aK (sv.toNat : Int) = longK 4 := by unfold aK; rw [hs]; rfl
    rw [ek] at hKX
    clear ek
    subst hKX
    generalize longK 4 = K4 at *
    generalize longK 5 = K5 at *
    generalize longK 3 = K3 at *
    generalize userN (cl.toNat : Int) = Uc at *
    generalize realmN ((cl.toNat : Int) / 3) = Rc at *
    generalize serviceN ((sv.toNat : Int) % 3) = Sv at *
    generalize serviceI ((sv.toNat : Int) % 3) = Iv at *
    generalize realmN ((sv.toNat : Int) % 3 / 3) = Rv at *
    generalize sessN (ky.toNat : Int) = Ks at *
    generalize serviceN (nm.toNat : Int) = Sn at *
    generalize serviceI (nm.toNat : Int) = In at *
    generalize realmN ((nm.toNat : Int) / 3) = Rn at *
    refine Fn_intro (G := g8) (goodA rfl) (fn := Tryz.f8) rfl rfl rfl rfl rfl ?_
    (repeat' ((conv => whnf) <;> first | refine natK_of (j := 0) (by omega) ?_ | exact rfl | with_reducible refine boolK_dec (fun _ => ?_) (fun _ => ?_) <;> try (exfalso; omega) | refine boolK_beq (fun _ => ?_) (fun _ => ?_) <;> try (exfalso; first | omega | with_reducible contradiction) | refine boolK_bne (fun _ => ?_) (fun _ => ?_) <;> try (exfalso; first | omega | with_reducible contradiction) | (with_reducible first | refine boolK_not ?_ | refine boolK_and ?_ | refine boolK_or ?_ | refine boolK_true ?_ | refine boolK_false ?_) | refine boolK_intro (fun _ => ?_) (fun _ => ?_) <;> try (exfalso; simp_all; done) | refine jA ?_ | refine jB ?_ | refine jC ?_ | refine jD ?_ | refine jE ?_ | refine jF ?_ | refine jG ?_ | refine jH ?_ | refine jI ?_ | refine jJ ?_ | refine jK ?_ | with_reducible refine natK_lit ?_ | refine natK_of rfl ?_ | refine natK_any ?_ | refine jO ?_ | refine jP ?_ | refine jQ ?_ | refine jR ?_ | refine jS ?_ | refine jT ?_ | refine jU (fun _ => ?_) | refine jV ?_ | refine jW ?_ | refine jX ?_ | refine jY ?_ | refine jZ ?_ | refine ja ?_ | refine jb ?_ | refine jc ?_ | refine jd ?_ | refine je ?_ | refine jf ?_ | refine jg ?_ | refine jh ?_ | refine ji ?_ | refine jj ?_ | refine jk ?_ | refine jn ?_ | refine jo ?_ | refine jp ?_ | refine jq ?_ | refine jr ?_ | refine js ?_ | refine callK_intro (uU) ?_ | refine callK_intro (uS) ?_ | refine callK_intro (uK) ?_ | refine callK_intro (l4) ?_ | refine callK_intro (l5) ?_ | refine callK_intro (l3) ?_ | refine callK_intro (c1) ?_ | refine callK_intro (c2) ?_ | refine callK_intro (c3) ?_ | refine callK_intro (uN) ?_ | refine jt ?_ | refine jy ?_ | refine ju ?_ | refine sideK_intro (by first | (exact ⟨rfl, rfl, rfl⟩)) ?_ | refine jv ?_)) <;> (try (conv => whnf))
  · have ek : aK (sv.toNat : Int) = longK 5 := by unfold aK; rw [hs]; rfl
    rw [ek] at hKX
    clear ek
    subst hKX
    generalize longK 4 = K4 at *
    generalize longK 5 = K5 at *
    generalize longK 3 = K3 at *
    generalize userN (cl.toNat : Int) = Uc at *
    generalize realmN ((cl.toNat : Int) / 3) = Rc at *
    generalize serviceN ((sv.toNat : Int) % 3) = Sv at *
    generalize serviceI ((sv.toNat : Int) % 3) = Iv at *
    generalize realmN ((sv.toNat : Int) % 3 / 3) = Rv at *
    generalize sessN (ky.toNat : Int) = Ks at *
    generalize serviceN (nm.toNat : Int) = Sn at *
    generalize serviceI (nm.toNat : Int) = In at *
    generalize realmN ((nm.toNat : Int) / 3) = Rn at *
    refine Fn_intro (G := g8) (goodA rfl) (fn := Tryz.f8) rfl rfl rfl rfl rfl ?_
    (repeat' ((conv => whnf) <;> first | refine natK_of (j := 1) (by omega) ?_ | exact rfl | with_reducible refine boolK_dec (fun _ => ?_) (fun _ => ?_) <;> try (exfalso; omega) | refine boolK_beq (fun _ => ?_) (fun _ => ?_) <;> try (exfalso; first | omega | with_reducible contradiction) | refine boolK_bne (fun _ => ?_) (fun _ => ?_) <;> try (exfalso; first | omega | with_reducible contradiction) | (with_reducible first | refine boolK_not ?_ | refine boolK_and ?_ | refine boolK_or ?_ | refine boolK_true ?_ | refine boolK_false ?_) | refine boolK_intro (fun _ => ?_) (fun _ => ?_) <;> try (exfalso; simp_all; done) | refine jA ?_ | refine jB ?_ | refine jC ?_ | refine jD ?_ | refine jE ?_ | refine jF ?_ | refine jG ?_ | refine jH ?_ | refine jI ?_ | refine jJ ?_ | refine jK ?_ | with_reducible refine natK_lit ?_ | refine natK_of rfl ?_ | refine natK_any ?_ | refine jO ?_ | refine jP ?_ | refine jQ ?_ | refine jR ?_ | refine jS ?_ | refine jT ?_ | refine jU (fun _ => ?_) | refine jV ?_ | refine jW ?_ | refine jX ?_ | refine jY ?_ | refine jZ ?_ | refine ja ?_ | refine jb ?_ | refine jc ?_ | refine jd ?_ | refine je ?_ | refine jf ?_ | refine jg ?_ | refine jh ?_ | refine ji ?_ | refine jj ?_ | refine jk ?_ | refine jn ?_ | refine jo ?_ | refine jp ?_ | refine jq ?_ | refine jr ?_ | refine js ?_ | refine callK_intro (uU) ?_ | refine callK_intro (uS) ?_ | refine callK_intro (uK) ?_ | refine callK_intro (l4) ?_ | refine callK_intro (l5) ?_ | refine callK_intro (l3) ?_ | refine callK_intro (c1) ?_ | refine callK_intro (c2) ?_ | refine callK_intro (c3) ?_ | refine callK_intro (uN) ?_ | refine jt ?_ | refine jy ?_ | refine ju ?_ | refine sideK_intro (by first | (exact ⟨rfl, rfl, rfl⟩)) ?_ | refine jv ?_)) <;> (try (conv => whnf))
  · have ek : aK (sv.toNat : Int) = longK 3 := by unfold aK; rw [hs]; rfl
    rw [ek] at hKX
    clear ek
    subst hKX
    generalize longK 4 = K4 at *
    generalize longK 5 = K5 at *
    generalize longK 3 = K3 at *
    generalize userN (cl.toNat : Int) = Uc at *
    generalize realmN ((cl.toNat : Int) / 3) = Rc at *
    generalize serviceN ((sv.toNat : Int) % 3) = Sv at *
    generalize serviceI ((sv.toNat : Int) % 3) = Iv at *
    generalize realmN ((sv.toNat : Int) % 3 / 3) = Rv at *
    generalize sessN (ky.toNat : Int) = Ks at *
    generalize serviceN (nm.toNat : Int) = Sn at *
    generalize serviceI (nm.toNat : Int) = In at *
    generalize realmN ((nm.toNat : Int) / 3) = Rn at *
    refine Fn_intro (G := g8) (goodA rfl) (fn := Tryz.f8) rfl rfl rfl rfl rfl ?_
    (repeat' ((conv => whnf) <;> first | refine natK_of (j := 2) (by omega) ?_ | exact rfl | with_reducible refine boolK_dec (fun _ => ?_) (fun _ => ?_) <;> try (exfalso; omega) | refine boolK_beq (fun _ => ?_) (fun _ => ?_) <;> try (exfalso; first | omega | with_reducible contradiction) | refine boolK_bne (fun _ => ?_) (fun _ => ?_) <;> try (exfalso; first | omega | with_reducible contradiction) | (with_reducible first | refine boolK_not ?_ | refine boolK_and ?_ | refine boolK_or ?_ | refine boolK_true ?_ | refine boolK_false ?_) | refine boolK_intro (fun _ => ?_) (fun _ => ?_) <;> try (exfalso; simp_all; done) | refine jA ?_ | refine jB ?_ | refine jC ?_ | refine jD ?_ | refine jE ?_ | refine jF ?_ | refine jG ?_ | refine jH ?_ | refine jI ?_ | refine jJ ?_ | refine jK ?_ | with_reducible refine natK_lit ?_ | refine natK_of rfl ?_ | refine natK_any ?_ | refine jO ?_ | refine jP ?_ | refine jQ ?_ | refine jR ?_ | refine jS ?_ | refine jT ?_ | refine jU (fun _ => ?_) | refine jV ?_ | refine jW ?_ | refine jX ?_ | refine jY ?_ | refine jZ ?_ | refine ja ?_ | refine jb ?_ | refine jc ?_ | refine jd ?_ | refine je ?_ | refine jf ?_ | refine jg ?_ | refine jh ?_ | refine ji ?_ | refine jj ?_ | refine jk ?_ | refine jn ?_ | refine jo ?_ | refine jp ?_ | refine jq ?_ | refine jr ?_ | refine js ?_ | refine callK_intro (uU) ?_ | refine callK_intro (uS) ?_ | refine callK_intro (uK) ?_ | refine callK_intro (l4) ?_ | refine callK_intro (l5) ?_ | refine callK_intro (l3) ?_ | refine callK_intro (c1) ?_ | refine callK_intro (c2) ?_ | refine callK_intro (c3) ?_ | refine callK_intro (uN) ?_ | refine jt ?_ | refine jy ?_ | refine ju ?_ | refine sideK_intro (by first | (exact ⟨rfl, rfl, rfl⟩)) ?_ | refine jv ?_)) <;> (try (conv => whnf))
theorem c_message_3 (cl sv nm ky wr : UInt8) (st ln hw : Int) (hst : 0 ≤ st ∧ st ≤ 65535) (hln : 0 ≤ ln ∧ ln ≤ 65535) (hhw : 0 ≤ hw ∧ hw ≤ 65535) (hw12 : (wr.toNat : Int) % 12 = 3) : ∃ B : List UInt8, B.length ≤ 1300 ∧ Fn Tryz.prog 8 [.a [.i .u8 (cl.toNat : Int), .i .u8 (sv.toNat : Int), .i .u8 (nm.toNat : Int), .i .u8 (ky.toNat : Int), .i .u16 st, .i .u16 ln, .i .u8 (wr.toNat : Int), .i .u16 hw]] [] (.one (.fr (B.map u8) B.length 1)) [] := by
  have h1 := byte_lt cl
  have h2 := byte_lt sv
  have h3 := byte_lt nm
  have h4 := byte_lt ky
  have uU := c_User (cl.toNat : Int) (by omega)
  have uS := c_Service ((sv.toNat : Int) % 3) (by omega)
  have uK := c_Session (ky.toNat : Int) (by omega)
  have l4 := c_Long 4 (by omega)
  have l5 := c_Long 5 (by omega)
  have l3 := c_Long 3 (by omega)
  have U : ∀ n : Int, (userN n).length ≤ 3 := fun n => by unfold userN; split <;> (try split) <;> decide
  have S : ∀ n : Int, (serviceN n).length ≤ 6 := fun n => by unfold serviceN; split <;> (try split) <;> decide
  have I : ∀ n : Int, (serviceI n).length ≤ 4 := fun n => by unfold serviceI; split <;> (try split) <;> decide
  have T : ∀ n : Int, (realmN n).length ≤ 3 := fun n => by unfold realmN; split <;> (try split) <;> decide
  have U1 := U (cl.toNat : Int)
  have T1 := T ((cl.toNat : Int) / 3)
  have S1 := S ((sv.toNat : Int) % 3)
  have I1 := I ((sv.toNat : Int) % 3)
  have T2 := T ((sv.toNat : Int) % 3 / 3)
  have k1 : 0 ≤ sessN (ky.toNat : Int) ∧ sessN (ky.toNat : Int) ≤ 18446744073709551615 := by unfold sessN; omega
  have k4 : 0 ≤ longK 4 ∧ longK 4 ≤ 18446744073709551615 := by decide
  have k5 : 0 ≤ longK 5 ∧ longK 5 ≤ 18446744073709551615 := by decide
  have k3 : 0 ≤ longK 3 ∧ longK 3 ≤ 18446744073709551615 := by decide
  have h5 := byte_lt wr
  have uN := c_Service (nm.toNat : Int) (by omega)
  have S3 := S (nm.toNat : Int)
  have I3 := I (nm.toNat : Int)
  have T3 := T ((nm.toNat : Int) / 3)
  clear U S I T
  obtain ⟨B0, x0, L0, c1⟩ := enc26 (userN (cl.toNat : Int)) [] (realmN ((cl.toNat : Int) / 3)) (serviceN (nm.toNat : Int)) (serviceI (nm.toNat : Int)) (realmN ((nm.toNat : Int) / 3)) (sessN (ky.toNat : Int)) (1000 + st % 5000) (1000 + st % 5000 + ln) 3 (by simp only [List.length_nil]; omega) k1
  obtain ⟨KX, hKX, hKr⟩ : ∃ KX : Int, KX = aK (sv.toNat : Int) ∧ (0 ≤ KX ∧ KX ≤ 18446744073709551615) := ⟨_, rfl, by unfold aK; split; exact k4; split; exact k5; exact k3⟩
  obtain ⟨B1, x1, L1, c2⟩ := mak26 KX hKr B0 (m := B0.length) rfl (by omega)
  obtain ⟨B2, x2, L2, c3⟩ := msg26 2 (serviceN ((sv.toNat : Int) % 3)) (serviceI ((sv.toNat : Int) % 3)) (realmN ((sv.toNat : Int) % 3 / 3)) B1 (m := B1.length) rfl (by omega)
  refine ⟨B2, by omega, ?_⟩
  have hs : (sv.toNat : Int) % 3 = 0 ∨ (sv.toNat : Int) % 3 = 1 ∨ (sv.toNat : Int) % 3 = 2 := by omega
  rcases hs with hs | hs | hs
  · have ek : aK (sv.toNat : Int) = longK 4 := by unfold aK; rw [hs]; rfl
    rw [ek] at hKX
    clear ek
    subst hKX
    generalize longK 4 = K4 at *
    generalize longK 5 = K5 at *
    generalize longK 3 = K3 at *
    generalize userN (cl.toNat : Int) = Uc at *
    generalize realmN ((cl.toNat : Int) / 3) = Rc at *
    generalize serviceN ((sv.toNat : Int) % 3) = Sv at *
    generalize serviceI ((sv.toNat : Int) % 3) = Iv at *
    generalize realmN ((sv.toNat : Int) % 3 / 3) = Rv at *
    generalize sessN (ky.toNat : Int) = Ks at *
    generalize serviceN (nm.toNat : Int) = Sn at *
    generalize serviceI (nm.toNat : Int) = In at *
    generalize realmN ((nm.toNat : Int) / 3) = Rn at *
    refine Fn_intro (G := g8) (goodA rfl) (fn := Tryz.f8) rfl rfl rfl rfl rfl ?_
    (repeat' ((conv => whnf) <;> first | refine natK_of (j := 0) (by omega) ?_ | exact rfl | with_reducible refine boolK_dec (fun _ => ?_) (fun _ => ?_) <;> try (exfalso; omega) | refine boolK_beq (fun _ => ?_) (fun _ => ?_) <;> try (exfalso; first | omega | with_reducible contradiction) | refine boolK_bne (fun _ => ?_) (fun _ => ?_) <;> try (exfalso; first | omega | with_reducible contradiction) | (with_reducible first | refine boolK_not ?_ | refine boolK_and ?_ | refine boolK_or ?_ | refine boolK_true ?_ | refine boolK_false ?_) | refine boolK_intro (fun _ => ?_) (fun _ => ?_) <;> try (exfalso; simp_all; done) | refine jA ?_ | refine jB ?_ | refine jC ?_ | refine jD ?_ | refine jE ?_ | refine jF ?_ | refine jG ?_ | refine jH ?_ | refine jI ?_ | refine jJ ?_ | refine jK ?_ | with_reducible refine natK_lit ?_ | refine natK_of rfl ?_ | refine natK_any ?_ | refine jO ?_ | refine jP ?_ | refine jQ ?_ | refine jR ?_ | refine jS ?_ | refine jT ?_ | refine jU (fun _ => ?_) | refine jV ?_ | refine jW ?_ | refine jX ?_ | refine jY ?_ | refine jZ ?_ | refine ja ?_ | refine jb ?_ | refine jc ?_ | refine jd ?_ | refine je ?_ | refine jf ?_ | refine jg ?_ | refine jh ?_ | refine ji ?_ | refine jj ?_ | refine jk ?_ | refine jn ?_ | refine jo ?_ | refine jp ?_ | refine jq ?_ | refine jr ?_ | refine js ?_ | refine callK_intro (uU) ?_ | refine callK_intro (uS) ?_ | refine callK_intro (uK) ?_ | refine callK_intro (l4) ?_ | refine callK_intro (l5) ?_ | refine callK_intro (l3) ?_ | refine callK_intro (c1) ?_ | refine callK_intro (c2) ?_ | refine callK_intro (c3) ?_ | refine callK_intro (uN) ?_ | refine jt ?_ | refine jy ?_ | refine ju ?_ | refine sideK_intro (by first | (exact ⟨rfl, rfl, rfl⟩)) ?_ | refine jv ?_)) <;> (try (conv => whnf))
  · have ek : aK (sv.toNat : Int) = longK 5 := by unfold aK; rw [hs]; rfl
    rw [ek] at hKX
    clear ek
    subst hKX
    generalize longK 4 = K4 at *
    generalize longK 5 = K5 at *
    generalize longK 3 = K3 at *
    generalize userN (cl.toNat : Int) = Uc at *
    generalize realmN ((cl.toNat : Int) / 3) = Rc at *
    generalize serviceN ((sv.toNat : Int) % 3) = Sv at *
    generalize serviceI ((sv.toNat : Int) % 3) = Iv at *
    generalize realmN ((sv.toNat : Int) % 3 / 3) = Rv at *
    generalize sessN (ky.toNat : Int) = Ks at *
    generalize serviceN (nm.toNat : Int) = Sn at *
    generalize serviceI (nm.toNat : Int) = In at *
    generalize realmN ((nm.toNat : Int) / 3) = Rn at *
    refine Fn_intro (G := g8) (goodA rfl) (fn := Tryz.f8) rfl rfl rfl rfl rfl ?_
    (repeat' ((conv => whnf) <;> first | refine natK_of (j := 1) (by omega) ?_ | exact rfl | with_reducible refine boolK_dec (fun _ => ?_) (fun _ => ?_) <;> try (exfalso; omega) | refine boolK_beq (fun _ => ?_) (fun _ => ?_) <;> try (exfalso; first | omega | with_reducible contradiction) | refine boolK_bne (fun _ => ?_) (fun _ => ?_) <;> try (exfalso; first | omega | with_reducible contradiction) | (with_reducible first | refine boolK_not ?_ | refine boolK_and ?_ | refine boolK_or ?_ | refine boolK_true ?_ | refine boolK_false ?_) | refine boolK_intro (fun _ => ?_) (fun _ => ?_) <;> try (exfalso; simp_all; done) | refine jA ?_ | refine jB ?_ | refine jC ?_ | refine jD ?_ | refine jE ?_ | refine jF ?_ | refine jG ?_ | refine jH ?_ | refine jI ?_ | refine jJ ?_ | refine jK ?_ | with_reducible refine natK_lit ?_ | refine natK_of rfl ?_ | refine natK_any ?_ | refine jO ?_ | refine jP ?_ | refine jQ ?_ | refine jR ?_ | refine jS ?_ | refine jT ?_ | refine jU (fun _ => ?_) | refine jV ?_ | refine jW ?_ | refine jX ?_ | refine jY ?_ | refine jZ ?_ | refine ja ?_ | refine jb ?_ | refine jc ?_ | refine jd ?_ | refine je ?_ | refine jf ?_ | refine jg ?_ | refine jh ?_ | refine ji ?_ | refine jj ?_ | refine jk ?_ | refine jn ?_ | refine jo ?_ | refine jp ?_ | refine jq ?_ | refine jr ?_ | refine js ?_ | refine callK_intro (uU) ?_ | refine callK_intro (uS) ?_ | refine callK_intro (uK) ?_ | refine callK_intro (l4) ?_ | refine callK_intro (l5) ?_ | refine callK_intro (l3) ?_ | refine callK_intro (c1) ?_ | refine callK_intro (c2) ?_ | refine callK_intro (c3) ?_ | refine callK_intro (uN) ?_ | refine jt ?_ | refine jy ?_ | refine ju ?_ | refine sideK_intro (by first | (exact ⟨rfl, rfl, rfl⟩)) ?_ | refine jv ?_)) <;> (try (conv => whnf))
  · have ek : aK (sv.toNat : Int) = longK 3 := by unfold aK; rw [hs]; rfl
    rw [ek] at hKX
    clear ek
    subst hKX
    generalize longK 4 = K4 at *
    generalize longK 5 = K5 at *
    generalize longK 3 = K3 at *
    generalize userN (cl.toNat : Int) = Uc at *
    generalize realmN ((cl.toNat : Int) / 3) = Rc at *
    generalize serviceN ((sv.toNat : Int) % 3) = Sv at *
    generalize serviceI ((sv.toNat : Int) % 3) = Iv at *
    generalize realmN ((sv.toNat : Int) % 3 / 3) = Rv at *
    generalize sessN (ky.toNat : Int) = Ks at *
    generalize serviceN (nm.toNat : Int) = Sn at *
    generalize serviceI (nm.toNat : Int) = In at *
    generalize realmN ((nm.toNat : Int) / 3) = Rn at *
    refine Fn_intro (G := g8) (goodA rfl) (fn := Tryz.f8) rfl rfl rfl rfl rfl ?_
    (repeat' ((conv => whnf) <;> first | refine natK_of (j := 2) (by omega) ?_ | exact rfl | with_reducible refine boolK_dec (fun _ => ?_) (fun _ => ?_) <;> try (exfalso; omega) | refine boolK_beq (fun _ => ?_) (fun _ => ?_) <;> try (exfalso; first | omega | with_reducible contradiction) | refine boolK_bne (fun _ => ?_) (fun _ => ?_) <;> try (exfalso; first | omega | with_reducible contradiction) | (with_reducible first | refine boolK_not ?_ | refine boolK_and ?_ | refine boolK_or ?_ | refine boolK_true ?_ | refine boolK_false ?_) | refine boolK_intro (fun _ => ?_) (fun _ => ?_) <;> try (exfalso; simp_all; done) | refine jA ?_ | refine jB ?_ | refine jC ?_ | refine jD ?_ | refine jE ?_ | refine jF ?_ | refine jG ?_ | refine jH ?_ | refine jI ?_ | refine jJ ?_ | refine jK ?_ | with_reducible refine natK_lit ?_ | refine natK_of rfl ?_ | refine natK_any ?_ | refine jO ?_ | refine jP ?_ | refine jQ ?_ | refine jR ?_ | refine jS ?_ | refine jT ?_ | refine jU (fun _ => ?_) | refine jV ?_ | refine jW ?_ | refine jX ?_ | refine jY ?_ | refine jZ ?_ | refine ja ?_ | refine jb ?_ | refine jc ?_ | refine jd ?_ | refine je ?_ | refine jf ?_ | refine jg ?_ | refine jh ?_ | refine ji ?_ | refine jj ?_ | refine jk ?_ | refine jn ?_ | refine jo ?_ | refine jp ?_ | refine jq ?_ | refine jr ?_ | refine js ?_ | refine callK_intro (uU) ?_ | refine callK_intro (uS) ?_ | refine callK_intro (uK) ?_ | refine callK_intro (l4) ?_ | refine callK_intro (l5) ?_ | refine callK_intro (l3) ?_ | refine callK_intro (c1) ?_ | refine callK_intro (c2) ?_ | refine callK_intro (c3) ?_ | refine callK_intro (uN) ?_ | refine jt ?_ | refine jy ?_ | refine ju ?_ | refine sideK_intro (by first | (exact ⟨rfl, rfl, rfl⟩)) ?_ | refine jv ?_)) <;> (try (conv => whnf))
theorem c_message_4 (cl sv nm ky wr : UInt8) (st ln hw : Int) (hst : 0 ≤ st ∧ st ≤ 65535) (hln : 0 ≤ ln ∧ ln ≤ 65535) (hhw : 0 ≤ hw ∧ hw ≤ 65535) (hw12 : (wr.toNat : Int) % 12 = 4) : ∃ B : List UInt8, B.length ≤ 1300 ∧ Fn Tryz.prog 8 [.a [.i .u8 (cl.toNat : Int), .i .u8 (sv.toNat : Int), .i .u8 (nm.toNat : Int), .i .u8 (ky.toNat : Int), .i .u16 st, .i .u16 ln, .i .u8 (wr.toNat : Int), .i .u16 hw]] [] (.one (.fr (B.map u8) B.length 1)) [] := by
  have h1 := byte_lt cl
  have h2 := byte_lt sv
  have h3 := byte_lt nm
  have h4 := byte_lt ky
  have uU := c_User (cl.toNat : Int) (by omega)
  have uS := c_Service ((sv.toNat : Int) % 3) (by omega)
  have uK := c_Session (ky.toNat : Int) (by omega)
  have l4 := c_Long 4 (by omega)
  have l5 := c_Long 5 (by omega)
  have l3 := c_Long 3 (by omega)
  have U : ∀ n : Int, (userN n).length ≤ 3 := fun n => by unfold userN; split <;> (try split) <;> decide
  have S : ∀ n : Int, (serviceN n).length ≤ 6 := fun n => by unfold serviceN; split <;> (try split) <;> decide
  have I : ∀ n : Int, (serviceI n).length ≤ 4 := fun n => by unfold serviceI; split <;> (try split) <;> decide
  have T : ∀ n : Int, (realmN n).length ≤ 3 := fun n => by unfold realmN; split <;> (try split) <;> decide
  have U1 := U (cl.toNat : Int)
  have T1 := T ((cl.toNat : Int) / 3)
  have S1 := S ((sv.toNat : Int) % 3)
  have I1 := I ((sv.toNat : Int) % 3)
  have T2 := T ((sv.toNat : Int) % 3 / 3)
  have k1 : 0 ≤ sessN (ky.toNat : Int) ∧ sessN (ky.toNat : Int) ≤ 18446744073709551615 := by unfold sessN; omega
  have k4 : 0 ≤ longK 4 ∧ longK 4 ≤ 18446744073709551615 := by decide
  have k5 : 0 ≤ longK 5 ∧ longK 5 ≤ 18446744073709551615 := by decide
  have k3 : 0 ≤ longK 3 ∧ longK 3 ≤ 18446744073709551615 := by decide
  have h5 := byte_lt wr
  clear U S I T
  obtain ⟨B0, x0, L0, c1⟩ := enc26 (userN (cl.toNat : Int)) [] (realmN ((cl.toNat : Int) / 3)) (serviceN ((sv.toNat : Int) % 3)) (serviceI ((sv.toNat : Int) % 3)) (realmN ((sv.toNat : Int) % 3 / 3)) (sessN (ky.toNat : Int)) (1000 + st % 5000) (1000 + st % 5000 + ln) 3 (by simp only [List.length_nil]; omega) k1
  obtain ⟨KX, hKX, hKr⟩ : ∃ KX : Int, KX = aK (sv.toNat : Int) ∧ (0 ≤ KX ∧ KX ≤ 18446744073709551615) := ⟨_, rfl, by unfold aK; split; exact k4; split; exact k5; exact k3⟩
  obtain ⟨B1, x1, L1, c2⟩ := mak26 KX hKr B0 (m := B0.length) rfl (by omega)
  obtain ⟨B2, x2, L2, c3⟩ := msg26 3 (serviceN ((sv.toNat : Int) % 3)) (serviceI ((sv.toNat : Int) % 3)) (realmN ((sv.toNat : Int) % 3 / 3)) B1 (m := B1.length) rfl (by omega)
  refine ⟨B2, by omega, ?_⟩
  have hs : (sv.toNat : Int) % 3 = 0 ∨ (sv.toNat : Int) % 3 = 1 ∨ (sv.toNat : Int) % 3 = 2 := by omega
  rcases hs with hs | hs | hs
  · have ek : aK (sv.toNat : Int) = longK 4 := by unfold aK; rw [hs]; rfl
    rw [ek] at hKX
    clear ek
    subst hKX
    generalize longK 4 = K4 at *
    generalize longK 5 = K5 at *
    generalize longK 3 = K3 at *
    generalize userN (cl.toNat : Int) = Uc at *
    generalize realmN ((cl.toNat : Int) / 3) = Rc at *
    generalize serviceN ((sv.toNat : Int) % 3) = Sv at *
    generalize serviceI ((sv.toNat : Int) % 3) = Iv at *
    generalize realmN ((sv.toNat : Int) % 3 / 3) = Rv at *
    generalize sessN (ky.toNat : Int) = Ks at *
    refine Fn_intro (G := g8) (goodA rfl) (fn := Tryz.f8) rfl rfl rfl rfl rfl ?_
    (repeat' ((conv => whnf) <;> first | refine natK_of (j := 0) (by omega) ?_ | exact rfl | with_reducible refine boolK_dec (fun _ => ?_) (fun _ => ?_) <;> try (exfalso; omega) | refine boolK_beq (fun _ => ?_) (fun _ => ?_) <;> try (exfalso; first | omega | with_reducible contradiction) | refine boolK_bne (fun _ => ?_) (fun _ => ?_) <;> try (exfalso; first | omega | with_reducible contradiction) | (with_reducible first | refine boolK_not ?_ | refine boolK_and ?_ | refine boolK_or ?_ | refine boolK_true ?_ | refine boolK_false ?_) | refine boolK_intro (fun _ => ?_) (fun _ => ?_) <;> try (exfalso; simp_all; done) | refine jA ?_ | refine jB ?_ | refine jC ?_ | refine jD ?_ | refine jE ?_ | refine jF ?_ | refine jG ?_ | refine jH ?_ | refine jI ?_ | refine jJ ?_ | refine jK ?_ | with_reducible refine natK_lit ?_ | refine natK_of rfl ?_ | refine natK_any ?_ | refine jO ?_ | refine jP ?_ | refine jQ ?_ | refine jR ?_ | refine jS ?_ | refine jT ?_ | refine jU (fun _ => ?_) | refine jV ?_ | refine jW ?_ | refine jX ?_ | refine jY ?_ | refine jZ ?_ | refine ja ?_ | refine jb ?_ | refine jc ?_ | refine jd ?_ | refine je ?_ | refine jf ?_ | refine jg ?_ | refine jh ?_ | refine ji ?_ | refine jj ?_ | refine jk ?_ | refine jn ?_ | refine jo ?_ | refine jp ?_ | refine jq ?_ | refine jr ?_ | refine js ?_ | refine callK_intro (uU) ?_ | refine callK_intro (uS) ?_ | refine callK_intro (uK) ?_ | refine callK_intro (l4) ?_ | refine callK_intro (l5) ?_ | refine callK_intro (l3) ?_ | refine callK_intro (c1) ?_ | refine callK_intro (c2) ?_ | refine callK_intro (c3) ?_ | refine jt ?_ | refine jy ?_ | refine ju ?_ | refine sideK_intro (by first | (exact ⟨rfl, rfl, rfl⟩)) ?_ | refine jv ?_)) <;> (try (conv => whnf))
  · have ek : aK (sv.toNat : Int) = longK 5 := by unfold aK; rw [hs]; rfl
    rw [ek] at hKX
    clear ek
    subst hKX
    generalize longK 4 = K4 at *
    generalize longK 5 = K5 at *
    generalize longK 3 = K3 at *
    generalize userN (cl.toNat : Int) = Uc at *
    generalize realmN ((cl.toNat : Int) / 3) = Rc at *
    generalize serviceN ((sv.toNat : Int) % 3) = Sv at *
    generalize serviceI ((sv.toNat : Int) % 3) = Iv at *
    generalize realmN ((sv.toNat : Int) % 3 / 3) = Rv at *
    generalize sessN (ky.toNat : Int) = Ks at *
    refine Fn_intro (G := g8) (goodA rfl) (fn := Tryz.f8) rfl rfl rfl rfl rfl ?_
    (repeat' ((conv => whnf) <;> first | refine natK_of (j := 1) (by omega) ?_ | exact rfl | with_reducible refine boolK_dec (fun _ => ?_) (fun _ => ?_) <;> try (exfalso; omega) | refine boolK_beq (fun _ => ?_) (fun _ => ?_) <;> try (exfalso; first | omega | with_reducible contradiction) | refine boolK_bne (fun _ => ?_) (fun _ => ?_) <;> try (exfalso; first | omega | with_reducible contradiction) | (with_reducible first | refine boolK_not ?_ | refine boolK_and ?_ | refine boolK_or ?_ | refine boolK_true ?_ | refine boolK_false ?_) | refine boolK_intro (fun _ => ?_) (fun _ => ?_) <;> try (exfalso; simp_all; done) | refine jA ?_ | refine jB ?_ | refine jC ?_ | refine jD ?_ | refine jE ?_ | refine jF ?_ | refine jG ?_ | refine jH ?_ | refine jI ?_ | refine jJ ?_ | refine jK ?_ | with_reducible refine natK_lit ?_ | refine natK_of rfl ?_ | refine natK_any ?_ | refine jO ?_ | refine jP ?_ | refine jQ ?_ | refine jR ?_ | refine jS ?_ | refine jT ?_ | refine jU (fun _ => ?_) | refine jV ?_ | refine jW ?_ | refine jX ?_ | refine jY ?_ | refine jZ ?_ | refine ja ?_ | refine jb ?_ | refine jc ?_ | refine jd ?_ | refine je ?_ | refine jf ?_ | refine jg ?_ | refine jh ?_ | refine ji ?_ | refine jj ?_ | refine jk ?_ | refine jn ?_ | refine jo ?_ | refine jp ?_ | refine jq ?_ | refine jr ?_ | refine js ?_ | refine callK_intro (uU) ?_ | refine callK_intro (uS) ?_ | refine callK_intro (uK) ?_ | refine callK_intro (l4) ?_ | refine callK_intro (l5) ?_ | refine callK_intro (l3) ?_ | refine callK_intro (c1) ?_ | refine callK_intro (c2) ?_ | refine callK_intro (c3) ?_ | refine jt ?_ | refine jy ?_ | refine ju ?_ | refine sideK_intro (by first | (exact ⟨rfl, rfl, rfl⟩)) ?_ | refine jv ?_)) <;> (try (conv => whnf))
  · have ek : aK (sv.toNat : Int) = longK 3 := by unfold aK; rw [hs]; rfl
    rw [ek] at hKX
    clear ek
    subst hKX
    generalize longK 4 = K4 at *
    generalize longK 5 = K5 at *
    generalize longK 3 = K3 at *
    generalize userN (cl.toNat : Int) = Uc at *
    generalize realmN ((cl.toNat : Int) / 3) = Rc at *
    generalize serviceN ((sv.toNat : Int) % 3) = Sv at *
    generalize serviceI ((sv.toNat : Int) % 3) = Iv at *
    generalize realmN ((sv.toNat : Int) % 3 / 3) = Rv at *
    generalize sessN (ky.toNat : Int) = Ks at *
    refine Fn_intro (G := g8) (goodA rfl) (fn := Tryz.f8) rfl rfl rfl rfl rfl ?_
    (repeat' ((conv => whnf) <;> first | refine natK_of (j := 2) (by omega) ?_ | exact rfl | with_reducible refine boolK_dec (fun _ => ?_) (fun _ => ?_) <;> try (exfalso; omega) | refine boolK_beq (fun _ => ?_) (fun _ => ?_) <;> try (exfalso; first | omega | with_reducible contradiction) | refine boolK_bne (fun _ => ?_) (fun _ => ?_) <;> try (exfalso; first | omega | with_reducible contradiction) | (with_reducible first | refine boolK_not ?_ | refine boolK_and ?_ | refine boolK_or ?_ | refine boolK_true ?_ | refine boolK_false ?_) | refine boolK_intro (fun _ => ?_) (fun _ => ?_) <;> try (exfalso; simp_all; done) | refine jA ?_ | refine jB ?_ | refine jC ?_ | refine jD ?_ | refine jE ?_ | refine jF ?_ | refine jG ?_ | refine jH ?_ | refine jI ?_ | refine jJ ?_ | refine jK ?_ | with_reducible refine natK_lit ?_ | refine natK_of rfl ?_ | refine natK_any ?_ | refine jO ?_ | refine jP ?_ | refine jQ ?_ | refine jR ?_ | refine jS ?_ | refine jT ?_ | refine jU (fun _ => ?_) | refine jV ?_ | refine jW ?_ | refine jX ?_ | refine jY ?_ | refine jZ ?_ | refine ja ?_ | refine jb ?_ | refine jc ?_ | refine jd ?_ | refine je ?_ | refine jf ?_ | refine jg ?_ | refine jh ?_ | refine ji ?_ | refine jj ?_ | refine jk ?_ | refine jn ?_ | refine jo ?_ | refine jp ?_ | refine jq ?_ | refine jr ?_ | refine js ?_ | refine callK_intro (uU) ?_ | refine callK_intro (uS) ?_ | refine callK_intro (uK) ?_ | refine callK_intro (l4) ?_ | refine callK_intro (l5) ?_ | refine callK_intro (l3) ?_ | refine callK_intro (c1) ?_ | refine callK_intro (c2) ?_ | refine callK_intro (c3) ?_ | refine jt ?_ | refine jy ?_ | refine ju ?_ | refine sideK_intro (by first | (exact ⟨rfl, rfl, rfl⟩)) ?_ | refine jv ?_)) <;> (try (conv => whnf))
theorem c_message_5 (cl sv nm ky wr : UInt8) (st ln hw : Int) (hst : 0 ≤ st ∧ st ≤ 65535) (hln : 0 ≤ ln ∧ ln ≤ 65535) (hhw : 0 ≤ hw ∧ hw ≤ 65535) (hw12 : (wr.toNat : Int) % 12 = 5) : ∃ B : List UInt8, B.length ≤ 1300 ∧ Fn Tryz.prog 8 [.a [.i .u8 (cl.toNat : Int), .i .u8 (sv.toNat : Int), .i .u8 (nm.toNat : Int), .i .u8 (ky.toNat : Int), .i .u16 st, .i .u16 ln, .i .u8 (wr.toNat : Int), .i .u16 hw]] [] (.one (.fr (B.map u8) B.length 1)) [] := by
  have h1 := byte_lt cl
  have h2 := byte_lt sv
  have h3 := byte_lt nm
  have h4 := byte_lt ky
  have uU := c_User (cl.toNat : Int) (by omega)
  have uS := c_Service ((sv.toNat : Int) % 3) (by omega)
  have uK := c_Session (ky.toNat : Int) (by omega)
  have l4 := c_Long 4 (by omega)
  have l5 := c_Long 5 (by omega)
  have l3 := c_Long 3 (by omega)
  have U : ∀ n : Int, (userN n).length ≤ 3 := fun n => by unfold userN; split <;> (try split) <;> decide
  have S : ∀ n : Int, (serviceN n).length ≤ 6 := fun n => by unfold serviceN; split <;> (try split) <;> decide
  have I : ∀ n : Int, (serviceI n).length ≤ 4 := fun n => by unfold serviceI; split <;> (try split) <;> decide
  have T : ∀ n : Int, (realmN n).length ≤ 3 := fun n => by unfold realmN; split <;> (try split) <;> decide
  have U1 := U (cl.toNat : Int)
  have T1 := T ((cl.toNat : Int) / 3)
  have S1 := S ((sv.toNat : Int) % 3)
  have I1 := I ((sv.toNat : Int) % 3)
  have T2 := T ((sv.toNat : Int) % 3 / 3)
  have k1 : 0 ≤ sessN (ky.toNat : Int) ∧ sessN (ky.toNat : Int) ≤ 18446744073709551615 := by unfold sessN; omega
  have k4 : 0 ≤ longK 4 ∧ longK 4 ≤ 18446744073709551615 := by decide
  have k5 : 0 ≤ longK 5 ∧ longK 5 ≤ 18446744073709551615 := by decide
  have k3 : 0 ≤ longK 3 ∧ longK 3 ≤ 18446744073709551615 := by decide
  have h5 := byte_lt wr
  clear U S I T
  obtain ⟨B0, x0, L0, c1⟩ := enc26 (userN (cl.toNat : Int)) [] (realmN ((cl.toNat : Int) / 3)) (serviceN ((sv.toNat : Int) % 3)) (serviceI ((sv.toNat : Int) % 3)) (realmN ((sv.toNat : Int) % 3 / 3)) (sessN (ky.toNat : Int)) (1000 + st % 5000) (1000 + st % 5000 + ln) 3 (by simp only [List.length_nil]; omega) k1
  obtain ⟨KX, hKX, hKr⟩ : ∃ KX : Int, KX = aK (sv.toNat : Int) ∧ (0 ≤ KX ∧ KX ≤ 18446744073709551615) := ⟨_, rfl, by unfold aK; split; exact k4; split; exact k5; exact k3⟩
  obtain ⟨B1, x1, L1, c2⟩ := mak26 KX hKr (B0 ++ [0]) (m := B0.length + 1) (by simp) (by simp; omega)
  obtain ⟨B2, x2, L2, c3⟩ := msg26 2 (serviceN ((sv.toNat : Int) % 3)) (serviceI ((sv.toNat : Int) % 3)) (realmN ((sv.toNat : Int) % 3 / 3)) B1 (m := B1.length) rfl (by omega)
  refine ⟨B2, by omega, ?_⟩
  have hs : (sv.toNat : Int) % 3 = 0 ∨ (sv.toNat : Int) % 3 = 1 ∨ (sv.toNat : Int) % 3 = 2 := by omega
  rcases hs with hs | hs | hs
  · have ek : aK (sv.toNat : Int) = longK 4 := by unfold aK; rw [hs]; rfl
    rw [ek] at hKX
    clear ek
    subst hKX
    generalize longK 4 = K4 at *
    generalize longK 5 = K5 at *
    generalize longK 3 = K3 at *
    generalize userN (cl.toNat : Int) = Uc at *
    generalize realmN ((cl.toNat : Int) / 3) = Rc at *
    generalize serviceN ((sv.toNat : Int) % 3) = Sv at *
    generalize serviceI ((sv.toNat : Int) % 3) = Iv at *
    generalize realmN ((sv.toNat : Int) % 3 / 3) = Rv at *
    generalize sessN (ky.toNat : Int) = Ks at *
    refine Fn_intro (G := g8) (goodA rfl) (fn := Tryz.f8) rfl rfl rfl rfl rfl ?_
    (repeat' ((conv => whnf) <;> first | refine natK_of (j := 0) (by omega) ?_ | exact rfl | with_reducible refine boolK_dec (fun _ => ?_) (fun _ => ?_) <;> try (exfalso; omega) | refine boolK_beq (fun _ => ?_) (fun _ => ?_) <;> try (exfalso; first | omega | with_reducible contradiction) | refine boolK_bne (fun _ => ?_) (fun _ => ?_) <;> try (exfalso; first | omega | with_reducible contradiction) | (with_reducible first | refine boolK_not ?_ | refine boolK_and ?_ | refine boolK_or ?_ | refine boolK_true ?_ | refine boolK_false ?_) | refine boolK_intro (fun _ => ?_) (fun _ => ?_) <;> try (exfalso; simp_all; done) | refine jA ?_ | refine jB ?_ | refine jC ?_ | refine jD ?_ | refine jE ?_ | refine jF ?_ | refine jG ?_ | refine jH ?_ | refine jI ?_ | refine jJ ?_ | refine jK ?_ | with_reducible refine natK_lit ?_ | refine natK_of rfl ?_ | refine natK_any ?_ | refine jO ?_ | refine jP ?_ | refine jQ ?_ | refine jR ?_ | refine jS ?_ | refine jT ?_ | refine jU (fun _ => ?_) | refine jV ?_ | refine jW ?_ | refine jX ?_ | refine jY ?_ | refine jZ ?_ | refine ja ?_ | refine jb ?_ | refine jc ?_ | refine jd ?_ | refine je ?_ | refine jf ?_ | refine jg ?_ | refine jh ?_ | refine ji ?_ | refine jj ?_ | refine jk ?_ | refine jn ?_ | refine jo ?_ | refine jp ?_ | refine jq ?_ | refine jr ?_ | refine js ?_ | refine callK_intro (uU) ?_ | refine callK_intro (uS) ?_ | refine callK_intro (uK) ?_ | refine callK_intro (l4) ?_ | refine callK_intro (l5) ?_ | refine callK_intro (l3) ?_ | refine callK_intro (c1) ?_ | refine callK_intro (c2) ?_ | refine callK_intro (c3) ?_ | refine jt ?_ | refine jy ?_ | refine ju ?_ | refine sideK_intro (by first | (exact ⟨rfl, rfl, rfl⟩)) ?_ | refine jv ?_)) <;> (try (conv => whnf))
  · have ek : aK (sv.toNat : Int) = longK 5 := by unfold aK; rw [hs]; rfl
    rw [ek] at hKX
    clear ek
    subst hKX
    generalize longK 4 = K4 at *
    generalize longK 5 = K5 at *
    generalize longK 3 = K3 at *
    generalize userN (cl.toNat : Int) = Uc at *
    generalize realmN ((cl.toNat : Int) / 3) = Rc at *
    generalize serviceN ((sv.toNat : Int) % 3) = Sv at *
    generalize serviceI ((sv.toNat : Int) % 3) = Iv at *
    generalize realmN ((sv.toNat : Int) % 3 / 3) = Rv at *
    generalize sessN (ky.toNat : Int) = Ks at *
    refine Fn_intro (G := g8) (goodA rfl) (fn := Tryz.f8) rfl rfl rfl rfl rfl ?_
    (repeat' ((conv => whnf) <;> first | refine natK_of (j := 1) (by omega) ?_ | exact rfl | with_reducible refine boolK_dec (fun _ => ?_) (fun _ => ?_) <;> try (exfalso; omega) | refine boolK_beq (fun _ => ?_) (fun _ => ?_) <;> try (exfalso; first | omega | with_reducible contradiction) | refine boolK_bne (fun _ => ?_) (fun _ => ?_) <;> try (exfalso; first | omega | with_reducible contradiction) | (with_reducible first | refine boolK_not ?_ | refine boolK_and ?_ | refine boolK_or ?_ | refine boolK_true ?_ | refine boolK_false ?_) | refine boolK_intro (fun _ => ?_) (fun _ => ?_) <;> try (exfalso; simp_all; done) | refine jA ?_ | refine jB ?_ | refine jC ?_ | refine jD ?_ | refine jE ?_ | refine jF ?_ | refine jG ?_ | refine jH ?_ | refine jI ?_ | refine jJ ?_ | refine jK ?_ | with_reducible refine natK_lit ?_ | refine natK_of rfl ?_ | refine natK_any ?_ | refine jO ?_ | refine jP ?_ | refine jQ ?_ | refine jR ?_ | refine jS ?_ | refine jT ?_ | refine jU (fun _ => ?_) | refine jV ?_ | refine jW ?_ | refine jX ?_ | refine jY ?_ | refine jZ ?_ | refine ja ?_ | refine jb ?_ | refine jc ?_ | refine jd ?_ | refine je ?_ | refine jf ?_ | refine jg ?_ | refine jh ?_ | refine ji ?_ | refine jj ?_ | refine jk ?_ | refine jn ?_ | refine jo ?_ | refine jp ?_ | refine jq ?_ | refine jr ?_ | refine js ?_ | refine callK_intro (uU) ?_ | refine callK_intro (uS) ?_ | refine callK_intro (uK) ?_ | refine callK_intro (l4) ?_ | refine callK_intro (l5) ?_ | refine callK_intro (l3) ?_ | refine callK_intro (c1) ?_ | refine callK_intro (c2) ?_ | refine callK_intro (c3) ?_ | refine jt ?_ | refine jy ?_ | refine ju ?_ | refine sideK_intro (by first | (exact ⟨rfl, rfl, rfl⟩)) ?_ | refine jv ?_)) <;> (try (conv => whnf))
  · have ek : aK (sv.toNat : Int) = longK 3 := by unfold aK; rw [hs]; rfl
    rw [ek] at hKX
    clear ek
    subst hKX
    generalize longK 4 = K4 at *
    generalize longK 5 = K5 at *
    generalize longK 3 = K3 at *
    generalize userN (cl.toNat : Int) = Uc at *
    generalize realmN ((cl.toNat : Int) / 3) = Rc at *
    generalize serviceN ((sv.toNat : Int) % 3) = Sv at *
    generalize serviceI ((sv.toNat : Int) % 3) = Iv at *
    generalize realmN ((sv.toNat : Int) % 3 / 3) = Rv at *
    generalize sessN (ky.toNat : Int) = Ks at *
    refine Fn_intro (G := g8) (goodA rfl) (fn := Tryz.f8) rfl rfl rfl rfl rfl ?_
    (repeat' ((conv => whnf) <;> first | refine natK_of (j := 2) (by omega) ?_ | exact rfl | with_reducible refine boolK_dec (fun _ => ?_) (fun _ => ?_) <;> try (exfalso; omega) | refine boolK_beq (fun _ => ?_) (fun _ => ?_) <;> try (exfalso; first | omega | with_reducible contradiction) | refine boolK_bne (fun _ => ?_) (fun _ => ?_) <;> try (exfalso; first | omega | with_reducible contradiction) | (with_reducible first | refine boolK_not ?_ | refine boolK_and ?_ | refine boolK_or ?_ | refine boolK_true ?_ | refine boolK_false ?_) | refine boolK_intro (fun _ => ?_) (fun _ => ?_) <;> try (exfalso; simp_all; done) | refine jA ?_ | refine jB ?_ | refine jC ?_ | refine jD ?_ | refine jE ?_ | refine jF ?_ | refine jG ?_ | refine jH ?_ | refine jI ?_ | refine jJ ?_ | refine jK ?_ | with_reducible refine natK_lit ?_ | refine natK_of rfl ?_ | refine natK_any ?_ | refine jO ?_ | refine jP ?_ | refine jQ ?_ | refine jR ?_ | refine jS ?_ | refine jT ?_ | refine jU (fun _ => ?_) | refine jV ?_ | refine jW ?_ | refine jX ?_ | refine jY ?_ | refine jZ ?_ | refine ja ?_ | refine jb ?_ | refine jc ?_ | refine jd ?_ | refine je ?_ | refine jf ?_ | refine jg ?_ | refine jh ?_ | refine ji ?_ | refine jj ?_ | refine jk ?_ | refine jn ?_ | refine jo ?_ | refine jp ?_ | refine jq ?_ | refine jr ?_ | refine js ?_ | refine callK_intro (uU) ?_ | refine callK_intro (uS) ?_ | refine callK_intro (uK) ?_ | refine callK_intro (l4) ?_ | refine callK_intro (l5) ?_ | refine callK_intro (l3) ?_ | refine callK_intro (c1) ?_ | refine callK_intro (c2) ?_ | refine callK_intro (c3) ?_ | refine jt ?_ | refine jy ?_ | refine ju ?_ | refine sideK_intro (by first | (exact ⟨rfl, rfl, rfl⟩)) ?_ | refine jv ?_)) <;> (try (conv => whnf))
theorem c_message_6 (cl sv nm ky wr : UInt8) (st ln hw : Int) (hst : 0 ≤ st ∧ st ≤ 65535) (hln : 0 ≤ ln ∧ ln ≤ 65535) (hhw : 0 ≤ hw ∧ hw ≤ 65535) (hw12 : (wr.toNat : Int) % 12 = 6) : ∃ B : List UInt8, B.length ≤ 1300 ∧ Fn Tryz.prog 8 [.a [.i .u8 (cl.toNat : Int), .i .u8 (sv.toNat : Int), .i .u8 (nm.toNat : Int), .i .u8 (ky.toNat : Int), .i .u16 st, .i .u16 ln, .i .u8 (wr.toNat : Int), .i .u16 hw]] [] (.one (.fr (B.map u8) B.length 1)) [] := by
  have h1 := byte_lt cl
  have h2 := byte_lt sv
  have h3 := byte_lt nm
  have h4 := byte_lt ky
  have uU := c_User (cl.toNat : Int) (by omega)
  have uS := c_Service ((sv.toNat : Int) % 3) (by omega)
  have uK := c_Session (ky.toNat : Int) (by omega)
  have l4 := c_Long 4 (by omega)
  have l5 := c_Long 5 (by omega)
  have l3 := c_Long 3 (by omega)
  have U : ∀ n : Int, (userN n).length ≤ 3 := fun n => by unfold userN; split <;> (try split) <;> decide
  have S : ∀ n : Int, (serviceN n).length ≤ 6 := fun n => by unfold serviceN; split <;> (try split) <;> decide
  have I : ∀ n : Int, (serviceI n).length ≤ 4 := fun n => by unfold serviceI; split <;> (try split) <;> decide
  have T : ∀ n : Int, (realmN n).length ≤ 3 := fun n => by unfold realmN; split <;> (try split) <;> decide
  have U1 := U (cl.toNat : Int)
  have T1 := T ((cl.toNat : Int) / 3)
  have S1 := S ((sv.toNat : Int) % 3)
  have I1 := I ((sv.toNat : Int) % 3)
  have T2 := T ((sv.toNat : Int) % 3 / 3)
  have k1 : 0 ≤ sessN (ky.toNat : Int) ∧ sessN (ky.toNat : Int) ≤ 18446744073709551615 := by unfold sessN; omega
  have k4 : 0 ≤ longK 4 ∧ longK 4 ≤ 18446744073709551615 := by decide
  have k5 : 0 ≤ longK 5 ∧ longK 5 ≤ 18446744073709551615 := by decide
  have k3 : 0 ≤ longK 3 ∧ longK 3 ≤ 18446744073709551615 := by decide
  have h5 := byte_lt wr
  clear U S I T
  obtain ⟨B0, x0, L0, c1⟩ := enc26 (userN (cl.toNat : Int)) [] (realmN ((cl.toNat : Int) / 3)) (serviceN ((sv.toNat : Int) % 3)) (serviceI ((sv.toNat : Int) % 3)) (realmN ((sv.toNat : Int) % 3 / 3)) (sessN (ky.toNat : Int)) (1000 + st % 5000) (1000 + st % 5000 + ln) 3 (by simp only [List.length_nil]; omega) k1
  obtain ⟨KX, hKX, hKr⟩ : ∃ KX : Int, KX = aK (sv.toNat : Int) ∧ (0 ≤ KX ∧ KX ≤ 18446744073709551615) := ⟨_, rfl, by unfold aK; split; exact k4; split; exact k5; exact k3⟩
  obtain ⟨B1, x1, L1, c2⟩ := mak26 KX hKr B0 (m := B0.length) rfl (by omega)
  obtain ⟨B2, x2, L2, c3⟩ := msg26 2 (serviceN ((sv.toNat : Int) % 3)) (serviceI ((sv.toNat : Int) % 3)) (realmN ((sv.toNat : Int) % 3 / 3)) B1 (m := B1.length) rfl (by omega)
  obtain ⟨B3, L3, c4⟩ := c_Spoil B2 (m := B2.length) rfl (by omega) hw hhw
  refine ⟨B3, by omega, ?_⟩
  have hs : (sv.toNat : Int) % 3 = 0 ∨ (sv.toNat : Int) % 3 = 1 ∨ (sv.toNat : Int) % 3 = 2 := by omega
  rcases hs with hs | hs | hs
  · have ek : aK (sv.toNat : Int) = longK 4 := by unfold aK; rw [hs]; rfl
    rw [ek] at hKX
    clear ek
    subst hKX
    generalize longK 4 = K4 at *
    generalize longK 5 = K5 at *
    generalize longK 3 = K3 at *
    generalize userN (cl.toNat : Int) = Uc at *
    generalize realmN ((cl.toNat : Int) / 3) = Rc at *
    generalize serviceN ((sv.toNat : Int) % 3) = Sv at *
    generalize serviceI ((sv.toNat : Int) % 3) = Iv at *
    generalize realmN ((sv.toNat : Int) % 3 / 3) = Rv at *
    generalize sessN (ky.toNat : Int) = Ks at *
    refine Fn_intro (G := g8) (goodA rfl) (fn := Tryz.f8) rfl rfl rfl rfl rfl ?_
    (repeat' ((conv => whnf) <;> first | refine natK_of (j := 0) (by omega) ?_ | exact rfl | with_reducible refine boolK_dec (fun _ => ?_) (fun _ => ?_) <;> try (exfalso; omega) | refine boolK_beq (fun _ => ?_) (fun _ => ?_) <;> try (exfalso; first | omega | with_reducible contradiction) | refine boolK_bne (fun _ => ?_) (fun _ => ?_) <;> try (exfalso; first | omega | with_reducible contradiction) | (with_reducible first | refine boolK_not ?_ | refine boolK_and ?_ | refine boolK_or ?_ | refine boolK_true ?_ | refine boolK_false ?_) | refine boolK_intro (fun _ => ?_) (fun _ => ?_) <;> try (exfalso; simp_all; done) | refine jA ?_ | refine jB ?_ | refine jC ?_ | refine jD ?_ | refine jE ?_ | refine jF ?_ | refine jG ?_ | refine jH ?_ | refine jI ?_ | refine jJ ?_ | refine jK ?_ | with_reducible refine natK_lit ?_ | refine natK_of rfl ?_ | refine natK_any ?_ | refine jO ?_ | refine jP ?_ | refine jQ ?_ | refine jR ?_ | refine jS ?_ | refine jT ?_ | refine jU (fun _ => ?_) | refine jV ?_ | refine jW ?_ | refine jX ?_ | refine jY ?_ | refine jZ ?_ | refine ja ?_ | refine jb ?_ | refine jc ?_ | refine jd ?_ | refine je ?_ | refine jf ?_ | refine jg ?_ | refine jh ?_ | refine ji ?_ | refine jj ?_ | refine jk ?_ | refine jn ?_ | refine jo ?_ | refine jp ?_ | refine jq ?_ | refine jr ?_ | refine js ?_ | refine callK_intro (uU) ?_ | refine callK_intro (uS) ?_ | refine callK_intro (uK) ?_ | refine callK_intro (l4) ?_ | refine callK_intro (l5) ?_ | refine callK_intro (l3) ?_ | refine callK_intro (c1) ?_ | refine callK_intro (c2) ?_ | refine callK_intro (c3) ?_ | refine callK_intro (c4) ?_ | refine jt ?_ | refine jy ?_ | refine ju ?_ | refine sideK_intro (by first | (exact ⟨rfl, rfl, rfl⟩)) ?_ | refine jv ?_)) <;> (try (conv => whnf))
  · have ek : aK (sv.toNat : Int) = longK 5 := by unfold aK; rw [hs]; rfl
    rw [ek] at hKX
    clear ek
    subst hKX
    generalize longK 4 = K4 at *
    generalize longK 5 = K5 at *
    generalize longK 3 = K3 at *
    generalize userN (cl.toNat : Int) = Uc at *
    generalize realmN ((cl.toNat : Int) / 3) = Rc at *
    generalize serviceN ((sv.toNat : Int) % 3) = Sv at *
    generalize serviceI ((sv.toNat : Int) % 3) = Iv at *
    generalize realmN ((sv.toNat : Int) % 3 / 3) = Rv at *
    generalize sessN (ky.toNat : Int) = Ks at *
    refine Fn_intro (G := g8) (goodA rfl) (fn := Tryz.f8) rfl rfl rfl rfl rfl ?_
    (repeat' ((conv => whnf) <;> first | refine natK_of (j := 1) (by omega) ?_ | exact rfl | with_reducible refine boolK_dec (fun _ => ?_) (fun _ => ?_) <;> try (exfalso; omega) | refine boolK_beq (fun _ => ?_) (fun _ => ?_) <;> try (exfalso; first | omega | with_reducible contradiction) | refine boolK_bne (fun _ => ?_) (fun _ => ?_) <;> try (exfalso; first | omega | with_reducible contradiction) | (with_reducible first | refine boolK_not ?_ | refine boolK_and ?_ | refine boolK_or ?_ | refine boolK_true ?_ | refine boolK_false ?_) | refine boolK_intro (fun _ => ?_) (fun _ => ?_) <;> try (exfalso; simp_all; done) | refine jA ?_ | refine jB ?_ | refine jC ?_ | refine jD ?_ | refine jE ?_ | refine jF ?_ | refine jG ?_ | refine jH ?_ | refine jI ?_ | refine jJ ?_ | refine jK ?_ | with_reducible refine natK_lit ?_ | refine natK_of rfl ?_ | refine natK_any ?_ | refine jO ?_ | refine jP ?_ | refine jQ ?_ | refine jR ?_ | refine jS ?_ | refine jT ?_ | refine jU (fun _ => ?_) | refine jV ?_ | refine jW ?_ | refine jX ?_ | refine jY ?_ | refine jZ ?_ | refine ja ?_ | refine jb ?_ | refine jc ?_ | refine jd ?_ | refine je ?_ | refine jf ?_ | refine jg ?_ | refine jh ?_ | refine ji ?_ | refine jj ?_ | refine jk ?_ | refine jn ?_ | refine jo ?_ | refine jp ?_ | refine jq ?_ | refine jr ?_ | refine js ?_ | refine callK_intro (uU) ?_ | refine callK_intro (uS) ?_ | refine callK_intro (uK) ?_ | refine callK_intro (l4) ?_ | refine callK_intro (l5) ?_ | refine callK_intro (l3) ?_ | refine callK_intro (c1) ?_ | refine callK_intro (c2) ?_ | refine callK_intro (c3) ?_ | refine callK_intro (c4) ?_ | refine jt ?_ | refine jy ?_ | refine ju ?_ | refine sideK_intro (by first | (exact ⟨rfl, rfl, rfl⟩)) ?_ | refine jv ?_)) <;> (try (conv => whnf))
  · have ek : aK (sv.toNat : Int) = longK 3 := by unfold aK; rw [hs]; rfl
    rw [ek] at hKX
    clear ek
    subst hKX
    generalize longK 4 = K4 at *
    generalize longK 5 = K5 at *
    generalize longK 3 = K3 at *
    generalize userN (cl.toNat : Int) = Uc at *
    generalize realmN ((cl.toNat : Int) / 3) = Rc at *
    generalize serviceN ((sv.toNat : Int) % 3) = Sv at *
    generalize serviceI ((sv.toNat : Int) % 3) = Iv at *
    generalize realmN ((sv.toNat : Int) % 3 / 3) = Rv at *
    generalize sessN (ky.toNat : Int) = Ks at *
    refine Fn_intro (G := g8) (goodA rfl) (fn := Tryz.f8) rfl rfl rfl rfl rfl ?_
    (repeat' ((conv => whnf) <;> first | refine natK_of (j := 2) (by omega) ?_ | exact rfl | with_reducible refine boolK_dec (fun _ => ?_) (fun _ => ?_) <;> try (exfalso; omega) | refine boolK_beq (fun _ => ?_) (fun _ => ?_) <;> try (exfalso; first | omega | with_reducible contradiction) | refine boolK_bne (fun _ => ?_) (fun _ => ?_) <;> try (exfalso; first | omega | with_reducible contradiction) | (with_reducible first | refine boolK_not ?_ | refine boolK_and ?_ | refine boolK_or ?_ | refine boolK_true ?_ | refine boolK_false ?_) | refine boolK_intro (fun _ => ?_) (fun _ => ?_) <;> try (exfalso; simp_all; done) | refine jA ?_ | refine jB ?_ | refine jC ?_ | refine jD ?_ | refine jE ?_ | refine jF ?_ | refine jG ?_ | refine jH ?_ | refine jI ?_ | refine jJ ?_ | refine jK ?_ | with_reducible refine natK_lit ?_ | refine natK_of rfl ?_ | refine natK_any ?_ | refine jO ?_ | refine jP ?_ | refine jQ ?_ | refine jR ?_ | refine jS ?_ | refine jT ?_ | refine jU (fun _ => ?_) | refine jV ?_ | refine jW ?_ | refine jX ?_ | refine jY ?_ | refine jZ ?_ | refine ja ?_ | refine jb ?_ | refine jc ?_ | refine jd ?_ | refine je ?_ | refine jf ?_ | refine jg ?_ | refine jh ?_ | refine ji ?_ | refine jj ?_ | refine jk ?_ | refine jn ?_ | refine jo ?_ | refine jp ?_ | refine jq ?_ | refine jr ?_ | refine js ?_ | refine callK_intro (uU) ?_ | refine callK_intro (uS) ?_ | refine callK_intro (uK) ?_ | refine callK_intro (l4) ?_ | refine callK_intro (l5) ?_ | refine callK_intro (l3) ?_ | refine callK_intro (c1) ?_ | refine callK_intro (c2) ?_ | refine callK_intro (c3) ?_ | refine callK_intro (c4) ?_ | refine jt ?_ | refine jy ?_ | refine ju ?_ | refine sideK_intro (by first | (exact ⟨rfl, rfl, rfl⟩)) ?_ | refine jv ?_)) <;> (try (conv => whnf))
theorem c_message_7 (cl sv nm ky wr : UInt8) (st ln hw : Int) (hst : 0 ≤ st ∧ st ≤ 65535) (hln : 0 ≤ ln ∧ ln ≤ 65535) (hhw : 0 ≤ hw ∧ hw ≤ 65535) (hw12 : 7 ≤ (wr.toNat : Int) % 12) : ∃ B : List UInt8, B.length ≤ 1300 ∧ Fn Tryz.prog 8 [.a [.i .u8 (cl.toNat : Int), .i .u8 (sv.toNat : Int), .i .u8 (nm.toNat : Int), .i .u8 (ky.toNat : Int), .i .u16 st, .i .u16 ln, .i .u8 (wr.toNat : Int), .i .u16 hw]] [] (.one (.fr (B.map u8) B.length 1)) [] := by
  have h1 := byte_lt cl
  have h2 := byte_lt sv
  have h3 := byte_lt nm
  have h4 := byte_lt ky
  have uU := c_User (cl.toNat : Int) (by omega)
  have uS := c_Service ((sv.toNat : Int) % 3) (by omega)
  have uK := c_Session (ky.toNat : Int) (by omega)
  have l4 := c_Long 4 (by omega)
  have l5 := c_Long 5 (by omega)
  have l3 := c_Long 3 (by omega)
  have U : ∀ n : Int, (userN n).length ≤ 3 := fun n => by unfold userN; split <;> (try split) <;> decide
  have S : ∀ n : Int, (serviceN n).length ≤ 6 := fun n => by unfold serviceN; split <;> (try split) <;> decide
  have I : ∀ n : Int, (serviceI n).length ≤ 4 := fun n => by unfold serviceI; split <;> (try split) <;> decide
  have T : ∀ n : Int, (realmN n).length ≤ 3 := fun n => by unfold realmN; split <;> (try split) <;> decide
  have U1 := U (cl.toNat : Int)
  have T1 := T ((cl.toNat : Int) / 3)
  have S1 := S ((sv.toNat : Int) % 3)
  have I1 := I ((sv.toNat : Int) % 3)
  have T2 := T ((sv.toNat : Int) % 3 / 3)
  have k1 : 0 ≤ sessN (ky.toNat : Int) ∧ sessN (ky.toNat : Int) ≤ 18446744073709551615 := by unfold sessN; omega
  have k4 : 0 ≤ longK 4 ∧ longK 4 ≤ 18446744073709551615 := by decide
  have k5 : 0 ≤ longK 5 ∧ longK 5 ≤ 18446744073709551615 := by decide
  have k3 : 0 ≤ longK 3 ∧ longK 3 ≤ 18446744073709551615 := by decide
  have h5 := byte_lt wr
  clear U S I T
  obtain ⟨B0, x0, L0, c1⟩ := enc26 (userN (cl.toNat : Int)) [] (realmN ((cl.toNat : Int) / 3)) (serviceN ((sv.toNat : Int) % 3)) (serviceI ((sv.toNat : Int) % 3)) (realmN ((sv.toNat : Int) % 3 / 3)) (sessN (ky.toNat : Int)) (1000 + st % 5000) (1000 + st % 5000 + ln) 3 (by simp only [List.length_nil]; omega) k1
  obtain ⟨KX, hKX, hKr⟩ : ∃ KX : Int, KX = aK (sv.toNat : Int) ∧ (0 ≤ KX ∧ KX ≤ 18446744073709551615) := ⟨_, rfl, by unfold aK; split; exact k4; split; exact k5; exact k3⟩
  obtain ⟨B1, x1, L1, c2⟩ := mak26 KX hKr B0 (m := B0.length) rfl (by omega)
  obtain ⟨B2, x2, L2, c3⟩ := msg26 2 (serviceN ((sv.toNat : Int) % 3)) (serviceI ((sv.toNat : Int) % 3)) (realmN ((sv.toNat : Int) % 3 / 3)) B1 (m := B1.length) rfl (by omega)
  refine ⟨B2, by omega, ?_⟩
  have hs : (sv.toNat : Int) % 3 = 0 ∨ (sv.toNat : Int) % 3 = 1 ∨ (sv.toNat : Int) % 3 = 2 := by omega
  rcases hs with hs | hs | hs
  · have ek : aK (sv.toNat : Int) = longK 4 := by unfold aK; rw [hs]; rfl
    rw [ek] at hKX
    clear ek
    subst hKX
    generalize longK 4 = K4 at *
    generalize longK 5 = K5 at *
    generalize longK 3 = K3 at *
    generalize userN (cl.toNat : Int) = Uc at *
    generalize realmN ((cl.toNat : Int) / 3) = Rc at *
    generalize serviceN ((sv.toNat : Int) % 3) = Sv at *
    generalize serviceI ((sv.toNat : Int) % 3) = Iv at *
    generalize realmN ((sv.toNat : Int) % 3 / 3) = Rv at *
    generalize sessN (ky.toNat : Int) = Ks at *
    refine Fn_intro (G := g8) (goodA rfl) (fn := Tryz.f8) rfl rfl rfl rfl rfl ?_
    (repeat' ((conv => whnf) <;> first | refine natK_of (j := 0) (by omega) ?_ | exact rfl | with_reducible refine boolK_dec (fun _ => ?_) (fun _ => ?_) <;> try (exfalso; omega) | refine boolK_beq (fun _ => ?_) (fun _ => ?_) <;> try (exfalso; first | omega | with_reducible contradiction) | refine boolK_bne (fun _ => ?_) (fun _ => ?_) <;> try (exfalso; first | omega | with_reducible contradiction) | (with_reducible first | refine boolK_not ?_ | refine boolK_and ?_ | refine boolK_or ?_ | refine boolK_true ?_ | refine boolK_false ?_) | refine boolK_intro (fun _ => ?_) (fun _ => ?_) <;> try (exfalso; simp_all; done) | refine jA ?_ | refine jB ?_ | refine jC ?_ | refine jD ?_ | refine jE ?_ | refine jF ?_ | refine jG ?_ | refine jH ?_ | refine jI ?_ | refine jJ ?_ | refine jK ?_ | with_reducible refine natK_lit ?_ | refine natK_of rfl ?_ | refine natK_any ?_ | refine jO ?_ | refine jP ?_ | refine jQ ?_ | refine jR ?_ | refine jS ?_ | refine jT ?_ | refine jU (fun _ => ?_) | refine jV ?_ | refine jW ?_ | refine jX ?_ | refine jY ?_ | refine jZ ?_ | refine ja ?_ | refine jb ?_ | refine jc ?_ | refine jd ?_ | refine je ?_ | refine jf ?_ | refine jg ?_ | refine jh ?_ | refine ji ?_ | refine jj ?_ | refine jk ?_ | refine jn ?_ | refine jo ?_ | refine jp ?_ | refine jq ?_ | refine jr ?_ | refine js ?_ | refine callK_intro (uU) ?_ | refine callK_intro (uS) ?_ | refine callK_intro (uK) ?_ | refine callK_intro (l4) ?_ | refine callK_intro (l5) ?_ | refine callK_intro (l3) ?_ | refine callK_intro (c1) ?_ | refine callK_intro (c2) ?_ | refine callK_intro (c3) ?_ | refine jt ?_ | refine jy ?_ | refine ju ?_ | refine sideK_intro (by first | (exact ⟨rfl, rfl, rfl⟩)) ?_ | refine jv ?_)) <;> (try (conv => whnf))
  · have ek : aK (sv.toNat : Int) = longK 5 := by unfold aK; rw [hs]; rfl
    rw [ek] at hKX
    clear ek
    subst hKX
    generalize longK 4 = K4 at *
    generalize longK 5 = K5 at *
    generalize longK 3 = K3 at *
    generalize userN (cl.toNat : Int) = Uc at *
    generalize realmN ((cl.toNat : Int) / 3) = Rc at *
    generalize serviceN ((sv.toNat : Int) % 3) = Sv at *
    generalize serviceI ((sv.toNat : Int) % 3) = Iv at *
    generalize realmN ((sv.toNat : Int) % 3 / 3) = Rv at *
    generalize sessN (ky.toNat : Int) = Ks at *
    refine Fn_intro (G := g8) (goodA rfl) (fn := Tryz.f8) rfl rfl rfl rfl rfl ?_
    (repeat' ((conv => whnf) <;> first | refine natK_of (j := 1) (by omega) ?_ | exact rfl | with_reducible refine boolK_dec (fun _ => ?_) (fun _ => ?_) <;> try (exfalso; omega) | refine boolK_beq (fun _ => ?_) (fun _ => ?_) <;> try (exfalso; first | omega | with_reducible contradiction) | refine boolK_bne (fun _ => ?_) (fun _ => ?_) <;> try (exfalso; first | omega | with_reducible contradiction) | (with_reducible first | refine boolK_not ?_ | refine boolK_and ?_ | refine boolK_or ?_ | refine boolK_true ?_ | refine boolK_false ?_) | refine boolK_intro (fun _ => ?_) (fun _ => ?_) <;> try (exfalso; simp_all; done) | refine jA ?_ | refine jB ?_ | refine jC ?_ | refine jD ?_ | refine jE ?_ | refine jF ?_ | refine jG ?_ | refine jH ?_ | refine jI ?_ | refine jJ ?_ | refine jK ?_ | with_reducible refine natK_lit ?_ | refine natK_of rfl ?_ | refine natK_any ?_ | refine jO ?_ | refine jP ?_ | refine jQ ?_ | refine jR ?_ | refine jS ?_ | refine jT ?_ | refine jU (fun _ => ?_) | refine jV ?_ | refine jW ?_ | refine jX ?_ | refine jY ?_ | refine jZ ?_ | refine ja ?_ | refine jb ?_ | refine jc ?_ | refine jd ?_ | refine je ?_ | refine jf ?_ | refine jg ?_ | refine jh ?_ | refine ji ?_ | refine jj ?_ | refine jk ?_ | refine jn ?_ | refine jo ?_ | refine jp ?_ | refine jq ?_ | refine jr ?_ | refine js ?_ | refine callK_intro (uU) ?_ | refine callK_intro (uS) ?_ | refine callK_intro (uK) ?_ | refine callK_intro (l4) ?_ | refine callK_intro (l5) ?_ | refine callK_intro (l3) ?_ | refine callK_intro (c1) ?_ | refine callK_intro (c2) ?_ | refine callK_intro (c3) ?_ | refine jt ?_ | refine jy ?_ | refine ju ?_ | refine sideK_intro (by first | (exact ⟨rfl, rfl, rfl⟩)) ?_ | refine jv ?_)) <;> (try (conv => whnf))
  · have ek : aK (sv.toNat : Int) = longK 3 := by unfold aK; rw [hs]; rfl
    rw [ek] at hKX
    clear ek
    subst hKX
    generalize longK 4 = K4 at *
    generalize longK 5 = K5 at *
    generalize longK 3 = K3 at *
    generalize userN (cl.toNat : Int) = Uc at *
    generalize realmN ((cl.toNat : Int) / 3) = Rc at *
    generalize serviceN ((sv.toNat : Int) % 3) = Sv at *
    generalize serviceI ((sv.toNat : Int) % 3) = Iv at *
    generalize realmN ((sv.toNat : Int) % 3 / 3) = Rv at *
    generalize sessN (ky.toNat : Int) = Ks at *
    refine Fn_intro (G := g8) (goodA rfl) (fn := Tryz.f8) rfl rfl rfl rfl rfl ?_
    (repeat' ((conv => whnf) <;> first | refine natK_of (j := 2) (by omega) ?_ | exact rfl | with_reducible refine boolK_dec (fun _ => ?_) (fun _ => ?_) <;> try (exfalso; omega) | refine boolK_beq (fun _ => ?_) (fun _ => ?_) <;> try (exfalso; first | omega | with_reducible contradiction) | refine boolK_bne (fun _ => ?_) (fun _ => ?_) <;> try (exfalso; first | omega | with_reducible contradiction) | (with_reducible first | refine boolK_not ?_ | refine boolK_and ?_ | refine boolK_or ?_ | refine boolK_true ?_ | refine boolK_false ?_) | refine boolK_intro (fun _ => ?_) (fun _ => ?_) <;> try (exfalso; simp_all; done) | refine jA ?_ | refine jB ?_ | refine jC ?_ | refine jD ?_ | refine jE ?_ | refine jF ?_ | refine jG ?_ | refine jH ?_ | refine jI ?_ | refine jJ ?_ | refine jK ?_ | with_reducible refine natK_lit ?_ | refine natK_of rfl ?_ | refine natK_any ?_ | refine jO ?_ | refine jP ?_ | refine jQ ?_ | refine jR ?_ | refine jS ?_ | refine jT ?_ | refine jU (fun _ => ?_) | refine jV ?_ | refine jW ?_ | refine jX ?_ | refine jY ?_ | refine jZ ?_ | refine ja ?_ | refine jb ?_ | refine jc ?_ | refine jd ?_ | refine je ?_ | refine jf ?_ | refine jg ?_ | refine jh ?_ | refine ji ?_ | refine jj ?_ | refine jk ?_ | refine jn ?_ | refine jo ?_ | refine jp ?_ | refine jq ?_ | refine jr ?_ | refine js ?_ | refine callK_intro (uU) ?_ | refine callK_intro (uS) ?_ | refine callK_intro (uK) ?_ | refine callK_intro (l4) ?_ | refine callK_intro (l5) ?_ | refine callK_intro (l3) ?_ | refine callK_intro (c1) ?_ | refine callK_intro (c2) ?_ | refine callK_intro (c3) ?_ | refine jt ?_ | refine jy ?_ | refine ju ?_ | refine sideK_intro (by first | (exact ⟨rfl, rfl, rfl⟩)) ?_ | refine jv ?_)) <;> (try (conv => whnf))
theorem c_message (cl sv nm ky wr : UInt8) (st ln hw : Int) (hst : 0 ≤ st ∧ st ≤ 65535) (hln : 0 ≤ ln ∧ ln ≤ 65535) (hhw : 0 ≤ hw ∧ hw ≤ 65535) : ∃ B : List UInt8, B.length ≤ 1300 ∧ Fn Tryz.prog 8 [.a [.i .u8 (cl.toNat : Int), .i .u8 (sv.toNat : Int), .i .u8 (nm.toNat : Int), .i .u8 (ky.toNat : Int), .i .u16 st, .i .u16 ln, .i .u8 (wr.toNat : Int), .i .u16 hw]] [] (.one (.fr (B.map u8) B.length 1)) [] := by
  have h5 := byte_lt wr
  have hw12 : (wr.toNat : Int) % 12 = 0 ∨ (wr.toNat : Int) % 12 = 1 ∨ (wr.toNat : Int) % 12 = 2 ∨ (wr.toNat : Int) % 12 = 3 ∨ (wr.toNat : Int) % 12 = 4 ∨ (wr.toNat : Int) % 12 = 5 ∨ (wr.toNat : Int) % 12 = 6 ∨ 7 ≤ (wr.toNat : Int) % 12 := by omega
  rcases hw12 with h | h | h | h | h | h | h | h
  · exact c_message_0 cl sv nm ky wr st ln hw hst hln hhw h
  · exact c_message_1 cl sv nm ky wr st ln hw hst hln hhw h
  · exact c_message_2 cl sv nm ky wr st ln hw hst hln hhw h
  · exact c_message_3 cl sv nm ky wr st ln hw hst hln hhw h
  · exact c_message_4 cl sv nm ky wr st ln hw hst hln hhw h
  · exact c_message_5 cl sv nm ky wr st ln hw hst hln hhw h
  · exact c_message_6 cl sv nm ky wr st ln hw hst hln hhw h
  · exact c_message_7 cl sv nm ky wr st ln hw hst hln hhw h
end Go.Sx

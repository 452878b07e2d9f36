/-
  Contracts of the small functions of the laws about package five.
-/
import Derived.Test.YtcnemhfgpldplabCFiveI
import Derived.Test.YtcnemhfgpldplabCFiveIP
import Derived.Test.YtcnemhfgpldplabCFiveA
import Derived.Test.YtcnemhfgpldplabPFiveT
import Derived.Test.YtcnemhfgpldplabCSimple
set_option linter.all false
namespace Go.Sx
open Go.Proofs Go.RowKit
def awA : FArg := ⟨[65, 84, 72], simO ((100 : UInt8).toNat : Int) ((0 : UInt8).toNat : Int) ((255 : UInt8).toNat : Int), userN 0, [], realmN (0 / 3), serviceN 0, serviceI 0, realmN (0 / 3), 1000, 900, 1, sessN 2⟩
theorem awA_0 : (fiO awA).2 = 0 := by decide +kernel
theorem awA_1 : fiE awA = 1900 := by decide +kernel
theorem awA_2 : (fiCu awA).k = longK 0 := by decide +kernel
theorem awA_3 : (frN ⟨[97], [98], [99], [97], [98], [99], sessN 1, 0, 0, 0⟩).2 = 0 ∧ (frN ⟨[97], [98], [99], [97], [98], [99], sessN 1, 0, 0, 0⟩).1.length = 32 := by decide +kernel
theorem awA_4 : (fiO awA).1 = (fiMsg awA, fiIss awA) := by
  obtain ⟨h0, h1, h2, h3, h4, h5, h6⟩ := fiO_is awA_0
  rw [fiO_ok h0 h1 h2 h3 h4 h5 h6]
theorem awA_5 : faA (userN 0) [] (realmN (0 / 3)) (longK 0) (fiMsg awA) = (fiPart awA, 0) := by
  obtain ⟨h0, h1, h2, h3, h4, h5, h6⟩ := fiO_is awA_0
  have h := fa_own h0 h1 h2 h3 h4 h5 h6
  rw [awA_2] at h
  exact h
theorem awA_6 : (fiMsg awA).length ≤ 800 := by
  obtain ⟨h0, h1, h2, h3, h4, h5, h6⟩ := fiO_is awA_0
  exact (fi_steps h0 h1 h2 h3 h4 h5 h6).2.2.2.2.2.2.2.2.2
noncomputable def g4 : Par := par 62 (nthLL [[], [1], [2, 3], [2, 3, 4], [2, 3, 5, 6, 7], [2, 3, 6, 7, 8, 9], [0]]) [0] (nthLL [[], [], [0, 0, 0, 7, 15, 31, 63, 63, 127, 511], [], [0, 0, 2, 6, 15, 31, 63, 63, 63, 0, 639, 1791, 4095], [], [0, 1, 3, 7, 15, 31, 63, 127, 255, 511, 1023, 2047, 4095, 8191, 16383, 32767, 65535, 131071, 262143, 524287, 1048575, 2097151, 4194303, 2097151, 16777215, 33554431, 67108863]])
set_option maxRecDepth 10000
set_option maxHeartbeats 8000000
theorem c_aw25a : ∃ (B : List UInt8), B.length = 32 ∧ Fn Try.prog 15 [.a [.s [97], .s [98], .s [99], .s [97], .s [98], .s [99], .i .u64 (sessN 1), .i .i64 0, .i .i64 0, .i .i64 0]] [] (.tup [.fr (B.map u8) B.length 1, .c (.o (.i .i64 0))]) [] := by
  have c := c_EncR [97] [98] [99] [97] [98] [99] (sessN 1) 0 0 0 (by decide) (by decide)
  obtain ⟨h1, h2⟩ := awA_3
  rw [h1] at c
  exact ⟨_, h2, c⟩
theorem c_aw25s : Fn Try.prog 5 [.o (.i .u8 100), .o (.i .u8 0), .o (.i .u8 255)] [] (.one (.sa [.s [65, 84, 72]] (flat deR awA.l) 6 9 [])) [] := c_Simple 100 0 255
theorem simO_len (a b c : Int) : (simO a b c).length = 6 := rfl
theorem simO_sm (life ex bad : UInt8) : ∀ s ∈ simO (life.toNat : Int) (ex.toNat : Int) (bad.toNat : Int), deSm 90000 s := by
  have u : ∀ n : Int, (userN n).length ≤ 3 := fun n => by unfold userN; split <;> (try split) <;> decide
  have v : ∀ n : Int, (serviceN n).length ≤ 6 := fun n => by unfold serviceN; split <;> (try split) <;> decide
  have w : ∀ n : Int, (serviceI n).length ≤ 4 := fun n => by unfold serviceI; split <;> (try split) <;> decide
  have k : ∀ n : Nat, n ≤ 6 → 0 ≤ longK (n : Int) ∧ longK (n : Int) ≤ 18446744073709551615 := fun n hn => by unfold longK; omega
  intro s hs
  simp only [simO, List.mem_cons, List.not_mem_nil, or_false] at hs
  rcases hs with rfl | rfl | rfl | rfl | rfl | rfl
  · exact ⟨Nat.le_trans (u 0) (by decide), Nat.zero_le _, k 0 (by decide)⟩
  · exact ⟨Nat.le_trans (u 1) (by decide), Nat.zero_le _, k 1 (by decide)⟩
  · exact ⟨Nat.le_trans (u 2) (by decide), Nat.zero_le _, k 2 (by decide)⟩
  · exact ⟨Nat.le_trans (v 2) (by decide), Nat.le_trans (w 2) (by decide), k 3 (by decide)⟩
  · exact ⟨Nat.le_trans (v 0) (by decide), Nat.le_trans (w 0) (by decide), k 4 (by decide)⟩
  · exact ⟨Nat.le_trans (v 1) (by decide), Nat.le_trans (w 1) (by decide), k 5 (by decide)⟩
theorem c_aw25i : ∃ (G S v1 v2 v3 : List UInt8) (kd se is : Int) , G.length ≤ 800 ∧ Fn Try.prog 8 [.a [.s [65, 84, 72], .sl (flat deR awA.l) 6], .a [.s (userN 0), .s [], .s (realmN (0 / 3))], .a [.s (serviceN 0), .s (serviceI 0), .s (realmN (0 / 3))], .o (.i .i64 1000), .o (.i .i64 900), .o (.i .i64 1), .o (.i .u64 (sessN 2))] [] (.tup [.fr (G.map u8) G.length 1, .c (.a [.i .i64 kd, .s v1, .s v2, .s v3, .s (userN 0), .s [], .s (realmN (0 / 3)), .s (serviceN 0), .s (serviceI 0), .s (realmN (0 / 3)), .i .u64 (sessN 2), .i .u64 se, .i .u64 0, .sl (S.map u8) S.length, .i .i64 is, .i .i64 1900]), .c (.o (.i .i64 0))]) [] ∧
    Fn Try.prog 11 [.a [.s (userN 0), .s [], .s (realmN (0 / 3))], .o (.i .u64 (longK 0)), .o (.sl (G.map u8) G.length)] [] (.tup [.c (.a [.s (serviceN 0), .s (serviceI 0), .s (realmN (0 / 3)), .i .u64 (sessN 2), .i .i64 1000, .i .i64 1900, .sl (S.map u8) S.length]), .c (.o (.i .i64 0))]) [] := by
  have c := c_Issue [65, 84, 72] awA.l (m := 6) rfl (by decide) (by decide) (simO_sm 100 0 255) (userN 0) [] (realmN (0 / 3)) (serviceN 0) (serviceI 0) (realmN (0 / 3)) 1000 900 1 (sessN 2) (by decide) (by decide)
  rw [show (⟨[65, 84, 72], awA.l, userN 0, [], realmN (0 / 3), serviceN 0, serviceI 0, realmN (0 / 3), 1000, 900, 1, sessN 2⟩ : FArg) = awA from rfl, awA_0, awA_4] at c
  dsimp only [fiIss] at c
  rw [awA_1] at c
  have a := c_Accept (userN 0) [] (realmN (0 / 3)) (longK 0) (fiMsg awA) (m := (fiMsg awA).length) rfl (Nat.le_trans awA_6 (by decide))
  rw [awA_5] at a
  dsimp only [fiPart] at a
  rw [awA_1] at a
  exact ⟨fiMsg awA, fiSl awA, _, _, _, _, _, _, awA_6, c, a⟩
theorem c_awake25 : Fn Try.prog 4 [] [] (.one (.c (.o (.b true)))) [] := by
  obtain ⟨B, hB, c1⟩ := c_aw25a
  have c2 := c_aw25s
  obtain ⟨G, S, v1, v2, v3, kd, se, is, hG, c3, c4⟩ := c_aw25i
  have s1 := c_Session 1 (by omega)
  have s2 := c_Session 2 (by omega)
  have u0 := c_User 0 (by omega)
  have t0 := c_Service 0 (by omega)
  have l0 := c_Long 0 (by omega)
  have hf := flat_len deR_len awA.l
  have h6 : awA.l.length = 6 := rfl
  generalize awA.l = O at *
  generalize sessN 1 = K1 at *
  generalize sessN 2 = K2 at *
  generalize longK 0 = K0 at *
  generalize userN 0 = U0 at *
  generalize serviceN 0 = S0 at *
  generalize serviceI 0 = I0 at *
  generalize realmN (0 / 3) = R0 at *
  refine Fn_intro (G := g4) (goodA rfl) (fn := Try.f4) rfl rfl rfl rfl rfl ?_
  (repeat' ((conv => whnf) <;> first | exact rfl | with_reducible refine boolK_dec (fun _ => ?_) (fun _ => ?_) <;> try (exfalso; omega) | refine boolK_beq (fun _ => ?_) (fun _ => ?_) <;> try (exfalso; first | omega | with_reducible contradiction) | refine boolK_bne (fun _ => ?_) (fun _ => ?_) <;> try (exfalso; first | omega | with_reducible contradiction) | (with_reducible first | refine boolK_not ?_ | refine boolK_and ?_ | refine boolK_or ?_ | refine boolK_true ?_ | refine boolK_false ?_) | refine boolK_intro (fun _ => ?_) (fun _ => ?_) <;> try (exfalso; simp_all; done) | with_reducible refine natK_lit ?_ | refine natK_of rfl ?_ | refine natK_any ?_ | refine jP ?_ | refine jQ ?_ | refine jR ?_ | refine jS ?_ | refine jT ?_ | refine jU (fun _ => ?_) | refine jV ?_ | refine jW ?_ | refine jX ?_ | refine jY ?_ | refine jZ ?_ | refine ja ?_ | refine jb ?_ | refine jc ?_ | refine jd ?_ | refine je ?_ | refine jf ?_ | refine jg ?_ | refine jh ?_ | refine ji ?_ | refine jj ?_ | refine jk ?_ | refine jn ?_ | refine jo ?_ | refine jp ?_ | refine jq ?_ | refine jr ?_ | refine js ?_ | refine callK_intro (c1) ?_ | refine callK_intro (c2) ?_ | refine callK_intro (c3) ?_ | refine callK_intro (c4) ?_ | refine callK_intro (s1) ?_ | refine callK_intro (s2) ?_ | refine callK_intro (u0) ?_ | refine callK_intro (t0) ?_ | refine callK_intro (l0) ?_ | refine jt ?_ | refine jx ?_ | refine jy ?_ | refine ju ?_ | refine jv ?_)) <;> (try (conv => whnf))
end Go.Sx

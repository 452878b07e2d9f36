/-
  Contracts of the small functions of the laws about the converter.
-/
import Derived.Test.YtmacgikbcednmabGreatPX2
import Derived.Test.YtmacgikbcednmabGreatCConvA
import Derived.Test.YtmacgikbcednmabGreatCConvL
import Derived.Test.YtmacgikbcednmabGreatCSimple
set_option linter.all false
namespace Go.Sx
open Go.Proofs Go.RowKit
def aR (cl sv ky st ln : Int) : FRec := ⟨userN cl, [], realmN (cl / 3), serviceN (sv % 3), serviceI (sv % 3), realmN (sv % 3 / 3), sessN ky, 1000 + st % 5000, 1000 + st % 5000 + ln, 3⟩
def aK (sv : Int) : Int := if sv % 3 = 0 then longK 4 else if sv % 3 = 1 then longK 5 else longK 3
theorem user_v (n m : Int) : validS (userN n) [] (realmN m) = true := by
  unfold userN realmN
  repeat' split
  all_goals decide +kernel
theorem serv_v (n m : Int) : validS (serviceN n) (serviceI n) (realmN m) = true := by
  unfold serviceN serviceI realmN
  repeat' split
  all_goals decide +kernel
theorem aR_ok {cl sv ky st ln : Int} (hk : 0 ≤ ky ∧ ky ≤ 255) (hs : 0 ≤ st ∧ st ≤ 65535) (hl : 0 ≤ ln ∧ ln ≤ 65535) : (frN (aR cl sv ky st ln)).2 = 0 := by
  rw [frN_ok ⟨user_v _ _, serv_v _ _⟩ (sess_ok (n := ky) (by omega)).2.2 ⟨⟨?_, ?_, ?_⟩, ?_⟩]
  · show 0 ≤ 1000 + st % 5000 ∧ 1000 + st % 5000 ≤ 4294967295; omega
  · show 0 ≤ 1000 + st % 5000 + ln ∧ 1000 + st % 5000 + ln ≤ 4294967295; omega
  · show 1000 + st % 5000 ≤ 1000 + st % 5000 + ln; omega
  · show (0 : Int) ≤ 3 ∧ (3 : Int) ≤ 4294967295; omega
theorem aK_ok (sv : Int) : keyOk (aK sv) = true := by unfold aK; split <;> (try split) <;> decide +kernel
theorem simO_len (a b c : Int) : (simO a b c).length = 6 := rfl
theorem simO_sm (life ex bad : UInt8) : ∀ s ∈ simO (life.toNat : Int) (ex.toNat : Int) (bad.toNat : Int), deSm 90000 s := by
  have u : ∀ n : Int, (userN n).length ≤ 3 := fun n => by unfold userN; split <;> (try split) <;> decide
  have v : ∀ n : Int, (serviceN n).length ≤ 6 := fun n => by unfold serviceN; split <;> (try split) <;> decide
  have w : ∀ n : Int, (serviceI n).length ≤ 4 := fun n => by unfold serviceI; split <;> (try split) <;> decide
  have k : ∀ n : Nat, n ≤ 6 → 0 ≤ longK (n : Int) ∧ longK (n : Int) ≤ 18446744073709551615 := fun n hn => by unfold longK; omega
  intro s hs
  simp only [simO, List.mem_cons, List.not_mem_nil, or_false] at hs
  rcases hs with rfl | rfl | rfl | rfl | rfl | rfl
  · exact ⟨Nat.le_trans (u 0) (by decide), Nat.zero_le _, k 0 (by decide)⟩
  · exact ⟨Nat.le_trans (u 1) (by decide), Nat.zero_le _, k 1 (by decide)⟩
  · exact ⟨Nat.le_trans (u 2) (by decide), Nat.zero_le _, k 2 (by decide)⟩
  · exact ⟨Nat.le_trans (v 2) (by decide), Nat.le_trans (w 2) (by decide), k 3 (by decide)⟩
  · exact ⟨Nat.le_trans (v 0) (by decide), Nat.le_trans (w 0) (by decide), k 4 (by decide)⟩
  · exact ⟨Nat.le_trans (v 1) (by decide), Nat.le_trans (w 1) (by decide), k 5 (by decide)⟩
theorem simO_kv (a b c : Int) : ∀ e ∈ simO a b c, 0 ≤ e.kv ∧ e.kv ≤ 255 := by
  intro s hs
  simp only [simO, List.mem_cons, List.not_mem_nil, or_false] at hs
  rcases hs with rfl | rfl | rfl | rfl | rfl | rfl <;> exact ⟨by dsimp only; omega, by dsimp only; omega⟩
noncomputable def g7 : Par := par 108 (nthLL [[1], [1, 3], [1, 3, 4], [1, 3, 4], [1, 3, 4, 5], [1, 4, 5, 6, 7], [1, 4, 5, 6, 7, 54], [1, 4, 5, 6, 7, 54, 55], [1, 4, 5, 6, 7], [1, 4, 5, 6, 7, 54, 58], [1, 4, 5, 6, 7], [1, 4, 5, 6, 7, 54, 64], [1, 4, 5, 6, 7], [1, 4, 5, 6, 7, 71], [1, 4, 5, 6, 7], [1, 5, 6, 7, 8], [1, 5, 6, 7, 8, 81], [1, 5, 6, 7, 8], [1, 6, 7, 10], [1, 12], [1, 12, 102], [12], [2]]) [2, 8, 12] (nthLL [[], [], [0, 1, 3, 7, 0, 0, 32, 96, 239, 0, 512, 1536, 3584, 7680, 16383, 0, 65535], [], [0, 1, 3, 7, 0, 16, 48, 112, 255, 511, 1023], [0, 0, 2, 7]])
set_option maxRecDepth 10000
set_option maxHeartbeats 16000000
theorem c_message0 (cl sv nm ky : UInt8) (st ln hw : Int) (hst : 0 ≤ st ∧ st ≤ 65535) (hln : 0 ≤ ln ∧ ln ≤ 65535) : Fn Tryz.prog 7 [.a [.i .u8 (cl.toNat : Int), .i .u8 (sv.toNat : Int), .i .u8 (nm.toNat : Int), .i .u8 (ky.toNat : Int), .i .u16 st, .i .u16 ln, .i .u8 0, .i .u16 hw]] [] (.one (.fr ((qMsg (aR (cl.toNat : Int) (sv.toNat : Int) (ky.toNat : Int) st ln) (aK (sv.toNat : Int))).map u8) (qMsg (aR (cl.toNat : Int) (sv.toNat : Int) (ky.toNat : Int) st ln) (aK (sv.toNat : Int))).length 1)) [] := by
  have h1 := byte_lt cl
  have h2 := byte_lt sv
  have h3 := byte_lt nm
  have h4 := byte_lt ky
  have uU := c_User (cl.toNat : Int) (by omega)
  have uS := c_Service ((sv.toNat : Int) % 3) (by omega)
  have uK := c_Session (ky.toNat : Int) (by omega)
  have l4 := c_Long 4 (by omega)
  have l5 := c_Long 5 (by omega)
  have l3 := c_Long 3 (by omega)
  have U : ∀ n : Int, (userN n).length ≤ 3 := fun n => by unfold userN; split <;> (try split) <;> decide
  have S : ∀ n : Int, (serviceN n).length ≤ 6 := fun n => by unfold serviceN; split <;> (try split) <;> decide
  have I : ∀ n : Int, (serviceI n).length ≤ 4 := fun n => by unfold serviceI; split <;> (try split) <;> decide
  have T : ∀ n : Int, (realmN n).length ≤ 3 := fun n => by unfold realmN; split <;> (try split) <;> decide
  have U1 := U (cl.toNat : Int)
  have T1 := T ((cl.toNat : Int) / 3)
  have S1 := S ((sv.toNat : Int) % 3)
  have I1 := I ((sv.toNat : Int) % 3)
  have T2 := T ((sv.toNat : Int) % 3 / 3)
  have k1 : 0 ≤ sessN (ky.toNat : Int) ∧ sessN (ky.toNat : Int) ≤ 18446744073709551615 := by unfold sessN; omega
  have k4 : 0 ≤ longK 4 ∧ longK 4 ≤ 18446744073709551615 := by decide
  have k5 : 0 ≤ longK 5 ∧ longK 5 ≤ 18446744073709551615 := by decide
  have k3 : 0 ≤ longK 3 ∧ longK 3 ≤ 18446744073709551615 := by decide
  have hR := aR_ok (cl := (cl.toNat : Int)) (sv := (sv.toNat : Int)) (ky := (ky.toNat : Int)) (st := st) (ln := ln) (by omega) hst hln
  obtain ⟨e1, e2, e3, q1, q2, q3, kk⟩ := q_steps hR (aK_ok (sv.toNat : Int))
  have c1 := c_rEncR (userN (cl.toNat : Int)) [] (realmN ((cl.toNat : Int) / 3)) (serviceN ((sv.toNat : Int) % 3)) (serviceI ((sv.toNat : Int) % 3)) (realmN ((sv.toNat : Int) % 3 / 3)) (sessN (ky.toNat : Int)) (1000 + st % 5000) (1000 + st % 5000 + ln) 3 (by simp only [List.length_nil]; omega) k1
  rw [show (⟨userN (cl.toNat : Int), [], realmN ((cl.toNat : Int) / 3), serviceN ((sv.toNat : Int) % 3), serviceI ((sv.toNat : Int) % 3), realmN ((sv.toNat : Int) % 3 / 3), sessN (ky.toNat : Int), 1000 + st % 5000, 1000 + st % 5000 + ln, 3⟩ : FRec) = aR (cl.toNat : Int) (sv.toNat : Int) (ky.toNat : Int) st ln from rfl, e1] at c1
  have c2 := c_rboxMake 9 (aK (sv.toNat : Int)) kk (padS (frB (aR (cl.toNat : Int) (sv.toNat : Int) (ky.toNat : Int) st ln))) (m := (padS (frB (aR (cl.toNat : Int) (sv.toNat : Int) (ky.toNat : Int) st ln))).length) rfl (by omega)
  rw [e2] at c2
  have c3 := c_rEncM 2 (serviceN ((sv.toNat : Int) % 3)) (serviceI ((sv.toNat : Int) % 3)) (realmN ((sv.toNat : Int) % 3 / 3)) (boxB 9 (aK (sv.toNat : Int)) (padS (frB (aR (cl.toNat : Int) (sv.toNat : Int) (ky.toNat : Int) st ln)))) (m := (boxB 9 (aK (sv.toNat : Int)) (padS (frB (aR (cl.toNat : Int) (sv.toNat : Int) (ky.toNat : Int) st ln)))).length) rfl (by omega)
  rw [show (⟨2, serviceN ((sv.toNat : Int) % 3), serviceI ((sv.toNat : Int) % 3), realmN ((sv.toNat : Int) % 3 / 3), boxB 9 (aK (sv.toNat : Int)) (padS (frB (aR (cl.toNat : Int) (sv.toNat : Int) (ky.toNat : Int) st ln)))⟩ : FMsg) = qMs (aR (cl.toNat : Int) (sv.toNat : Int) (ky.toNat : Int) st ln) (aK (sv.toNat : Int)) from rfl, e3] at c3
  dsimp only at c1 c2 c3
  generalize qMsg (aR (cl.toNat : Int) (sv.toNat : Int) (ky.toNat : Int) st ln) (aK (sv.toNat : Int)) = MG at *
  generalize boxB 9 (aK (sv.toNat : Int)) (padS (frB (aR (cl.toNat : Int) (sv.toNat : Int) (ky.toNat : Int) st ln))) = BX at *
  generalize padS (frB (aR (cl.toNat : Int) (sv.toNat : Int) (ky.toNat : Int) st ln)) = PD at *
  clear e1 e2 e3 hR U S I T
  have hs : (sv.toNat : Int) % 3 = 0 ∨ (sv.toNat : Int) % 3 = 1 ∨ (sv.toNat : Int) % 3 = 2 := by omega
  rcases hs with hs | hs | hs
  · have ek : aK (sv.toNat : Int) = longK 4 := by unfold aK; rw [hs]; rfl
    rw [ek] at c2
    clear ek
    generalize longK 4 = K4 at *
    generalize longK 5 = K5 at *
    generalize longK 3 = K3 at *
    generalize userN (cl.toNat : Int) = Uc at *
    generalize realmN ((cl.toNat : Int) / 3) = Rc at *
    generalize serviceN ((sv.toNat : Int) % 3) = Sv at *
    generalize serviceI ((sv.toNat : Int) % 3) = Iv at *
    generalize realmN ((sv.toNat : Int) % 3 / 3) = Rv at *
    generalize sessN (ky.toNat : Int) = Ks at *
    refine Fn_intro (G := g7) (goodA rfl) (fn := Tryz.f7) rfl rfl rfl rfl rfl ?_
    (repeat' ((conv => whnf) <;> first | refine natK_of (j := 0) (by omega) ?_ | exact rfl | with_reducible refine boolK_dec (fun _ => ?_) (fun _ => ?_) <;> try (exfalso; omega) | refine boolK_beq (fun _ => ?_) (fun _ => ?_) <;> try (exfalso; first | omega | with_reducible contradiction) | refine boolK_bne (fun _ => ?_) (fun _ => ?_) <;> try (exfalso; first | omega | with_reducible contradiction) | (with_reducible first | refine boolK_not ?_ | refine boolK_and ?_ | refine boolK_or ?_ | refine boolK_true ?_ | refine boolK_false ?_) | refine boolK_intro (fun _ => ?_) (fun _ => ?_) <;> try (exfalso; simp_all; done) | refine jA ?_ | refine jB ?_ | refine jC ?_ | refine jD ?_ | refine jE ?_ | refine jF ?_ | refine jG ?_ | refine jH ?_ | refine jI ?_ | refine jJ ?_ | refine jK ?_ | with_reducible refine natK_lit ?_ | refine natK_of rfl ?_ | refine natK_any ?_ | refine jO ?_ | refine jP ?_ | refine jQ ?_ | refine jR ?_ | refine jS ?_ | refine jT ?_ | refine jU (fun _ => ?_) | refine jV ?_ | refine jW ?_ | refine jX ?_ | refine jY ?_ | refine jZ ?_ | refine ja ?_ | refine jb ?_ | refine jc ?_ | refine jd ?_ | refine je ?_ | refine jf ?_ | refine jg ?_ | refine jh ?_ | refine ji ?_ | refine jj ?_ | refine jk ?_ | refine jn ?_ | refine jo ?_ | refine jp ?_ | refine jq ?_ | refine jr ?_ | refine js ?_ | refine callK_intro (uU) ?_ | refine callK_intro (uS) ?_ | refine callK_intro (uK) ?_ | refine callK_intro (l4) ?_ | refine callK_intro (l5) ?_ | refine callK_intro (l3) ?_ | refine callK_intro (c1) ?_ | refine callK_intro (c2) ?_ | refine callK_intro (c3) ?_ | refine jt ?_ | refine jy ?_ | refine ju ?_ | refine sideK_intro (by first | (exact ⟨rfl, rfl, rfl⟩)) ?_ | refine jv ?_)) <;> (try (conv => whnf))
  · have ek : aK (sv.toNat : Int) = longK 5 := by unfold aK; rw [hs]; rfl
    rw [ek] at c2
    clear ek
    generalize longK 4 = K4 at *
    generalize longK 5 = K5 at *
    generalize longK 3 = K3 at *
    generalize userN (cl.toNat : Int) = Uc at *
    generalize realmN ((cl.toNat : Int) / 3) = Rc at *
    generalize serviceN ((sv.toNat : Int) % 3) = Sv at *
    generalize serviceI ((sv.toNat : Int) % 3) = Iv at *
    generalize realmN ((sv.toNat : Int) % 3 / 3) = Rv at *
    generalize sessN (ky.toNat : Int) = Ks at *
    refine Fn_intro (G := g7) (goodA rfl) (fn := Tryz.f7) rfl rfl rfl rfl rfl ?_
    (repeat' ((conv => whnf) <;> first | refine natK_of (j := 1) (by omega) ?_ | exact rfl | with_reducible refine boolK_dec (fun _ => ?_) (fun _ => ?_) <;> try (exfalso; omega) | refine boolK_beq (fun _ => ?_) (fun _ => ?_) <;> try (exfalso; first | omega | with_reducible contradiction) | refine boolK_bne (fun _ => ?_) (fun _ => ?_) <;> try (exfalso; first | omega | with_reducible contradiction) | (with_reducible first | refine boolK_not ?_ | refine boolK_and ?_ | refine boolK_or ?_ | refine boolK_true ?_ | refine boolK_false ?_) | refine boolK_intro (fun _ => ?_) (fun _ => ?_) <;> try (exfalso; simp_all; done) | refine jA ?_ | refine jB ?_ | refine jC ?_ | refine jD ?_ | refine jE ?_ | refine jF ?_ | refine jG ?_ | refine jH ?_ | refine jI ?_ | refine jJ ?_ | refine jK ?_ | with_reducible refine natK_lit ?_ | refine natK_of rfl ?_ | refine natK_any ?_ | refine jO ?_ | refine jP ?_ | refine jQ ?_ | refine jR ?_ | refine jS ?_ | refine jT ?_ | refine jU (fun _ => ?_) | refine jV ?_ | refine jW ?_ | refine jX ?_ | refine jY ?_ | refine jZ ?_ | refine ja ?_ | refine jb ?_ | refine jc ?_ | refine jd ?_ | refine je ?_ | refine jf ?_ | refine jg ?_ | refine jh ?_ | refine ji ?_ | refine jj ?_ | refine jk ?_ | refine jn ?_ | refine jo ?_ | refine jp ?_ | refine jq ?_ | refine jr ?_ | refine js ?_ | refine callK_intro (uU) ?_ | refine callK_intro (uS) ?_ | refine callK_intro (uK) ?_ | refine callK_intro (l4) ?_ | refine callK_intro (l5) ?_ | refine callK_intro (l3) ?_ | refine callK_intro (c1) ?_ | refine callK_intro (c2) ?_ | refine callK_intro (c3) ?_ | refine jt ?_ | refine jy ?_ | refine ju ?_ | refine sideK_intro (by first | (exact ⟨rfl, rfl, rfl⟩)) ?_ | refine jv ?_)) <;> (try (conv => whnf))
  · have ek : aK (sv.toNat : Int) = longK 3 := by unfold aK; rw [hs]; rfl
    rw [ek] at c2
    clear ek
    generalize longK 4 = K4 at *
    generalize longK 5 = K5 at *
    generalize longK 3 = K3 at *
    generalize userN (cl.toNat : Int) = Uc at *
    generalize realmN ((cl.toNat : Int) / 3) = Rc at *
    generalize serviceN ((sv.toNat : Int) % 3) = Sv at *
    generalize serviceI ((sv.toNat : Int) % 3) = Iv at *
    generalize realmN ((sv.toNat : Int) % 3 / 3) = Rv at *
    generalize sessN (ky.toNat : Int) = Ks at *
    refine Fn_intro (G := g7) (goodA rfl) (fn := Tryz.f7) rfl rfl rfl rfl rfl ?_
    (repeat' ((conv => whnf) <;> first | refine natK_of (j := 2) (by omega) ?_ | exact rfl | with_reducible refine boolK_dec (fun _ => ?_) (fun _ => ?_) <;> try (exfalso; omega) | refine boolK_beq (fun _ => ?_) (fun _ => ?_) <;> try (exfalso; first | omega | with_reducible contradiction) | refine boolK_bne (fun _ => ?_) (fun _ => ?_) <;> try (exfalso; first | omega | with_reducible contradiction) | (with_reducible first | refine boolK_not ?_ | refine boolK_and ?_ | refine boolK_or ?_ | refine boolK_true ?_ | refine boolK_false ?_) | refine boolK_intro (fun _ => ?_) (fun _ => ?_) <;> try (exfalso; simp_all; done) | refine jA ?_ | refine jB ?_ | refine jC ?_ | refine jD ?_ | refine jE ?_ | refine jF ?_ | refine jG ?_ | refine jH ?_ | refine jI ?_ | refine jJ ?_ | refine jK ?_ | with_reducible refine natK_lit ?_ | refine natK_of rfl ?_ | refine natK_any ?_ | refine jO ?_ | refine jP ?_ | refine jQ ?_ | refine jR ?_ | refine jS ?_ | refine jT ?_ | refine jU (fun _ => ?_) | refine jV ?_ | refine jW ?_ | refine jX ?_ | refine jY ?_ | refine jZ ?_ | refine ja ?_ | refine jb ?_ | refine jc ?_ | refine jd ?_ | refine je ?_ | refine jf ?_ | refine jg ?_ | refine jh ?_ | refine ji ?_ | refine jj ?_ | refine jk ?_ | refine jn ?_ | refine jo ?_ | refine jp ?_ | refine jq ?_ | refine jr ?_ | refine js ?_ | refine callK_intro (uU) ?_ | refine callK_intro (uS) ?_ | refine callK_intro (uK) ?_ | refine callK_intro (l4) ?_ | refine callK_intro (l5) ?_ | refine callK_intro (l3) ?_ | refine callK_intro (c1) ?_ | refine callK_intro (c2) ?_ | refine callK_intro (c3) ?_ | refine jt ?_ | refine jy ?_ | refine ju ?_ | refine sideK_intro (by first | (exact ⟨rfl, rfl, rfl⟩)) ?_ | refine jv ?_)) <;> (try (conv => whnf))
end Go.Sx

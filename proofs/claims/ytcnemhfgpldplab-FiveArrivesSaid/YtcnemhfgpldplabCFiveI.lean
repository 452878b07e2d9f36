/-
  Contracts of the issues of package five and of what a client accepts, and of the reference.
-/
import Derived.Test.YtcnemhfgpldplabPFiveI
import Derived.Test.YtcnemhfgpldplabPDeH
import Derived.Test.YtcnemhfgpldplabCFiveDR
import Derived.Test.YtcnemhfgpldplabCFiveDP
import Derived.Test.YtcnemhfgpldplabCFiveDM
import Derived.Test.YtcnemhfgpldplabCDbB
import Derived.Test.YtcnemhfgpldplabCBox
set_option linter.all false
namespace Go.Sx
open Go.Proofs Go.RowKit
def fiF (a : FArg) : (DE × DE) × Int :=
  if ¬ (a.c3 = a.r ∧ a.s3 = a.r) then ((de0, de0), 8) else
  if ¬ ((fiU a).2 = 0) then ((de0, de0), (fiU a).2) else
  if ¬ ((fiS a).2 = 0) then ((de0, de0), (fiS a).2) else ((fiCu a, fiSu a), 0)
section
variable {a : FArg}
theorem fiF_0 (h : ¬ (a.c3 = a.r ∧ a.s3 = a.r)) : fiF a = ((de0, de0), 8) := by rw [fiF, if_pos h]
theorem fiF_1 (h0 : a.c3 = a.r ∧ a.s3 = a.r) (h : ¬ ((fiU a).2 = 0)) : fiF a = ((de0, de0), (fiU a).2) := by rw [fiF, if_neg (fun h => h h0), if_pos h]
theorem fiF_2 (h0 : a.c3 = a.r ∧ a.s3 = a.r) (h1 : (fiU a).2 = 0) (h : ¬ ((fiS a).2 = 0)) : fiF a = ((de0, de0), (fiS a).2) := by rw [fiF, if_neg (fun h => h h0), if_neg (fun h => h h1), if_pos h]
theorem fiF_ok (h0 : a.c3 = a.r ∧ a.s3 = a.r) (h1 : (fiU a).2 = 0) (h2 : (fiS a).2 = 0) : fiF a = ((fiCu a, fiSu a), 0) := by rw [fiF, if_neg (fun h => h h0), if_neg (fun h => h h1), if_neg (fun h => h h2)]
end
noncomputable def g20 : Par := par 14 (nthLL [[0, 1], [0, 1, 11], [4], [4]]) [0, 1, 4] (nthLL [])
noncomputable def g18 : Par := par 67 (nthLL [[3, 4, 5, 6, 8, 9], [3, 4, 5, 6, 8, 9, 24], [8, 9, 10], [3, 4, 6, 8, 9, 10, 11], [3, 4, 6, 8, 9, 10, 11, 38], [8, 9, 10], [4, 8, 9, 10, 11, 12], [4, 8, 9, 10, 11, 12, 53], [8, 9, 10], [8, 9, 10]]) [8, 9, 10] (nthLL [[], [], [0, 0, 1, 7, 15], [], [], [0, 0, 0, 1, 11, 31], [], [], [0, 0, 0, 1, 11, 31], [0, 1, 0, 7, 15, 0, 32, 0, 224, 480, 31, 2047, 4095]])
noncomputable def g22 : Par := par 68 (nthLL [[1, 2, 3], [1, 2, 3, 8, 9], [1, 2, 3, 8, 9, 18], [6, 7, 8], [2, 3, 6, 8], [2, 3, 6, 8, 27], [6, 7, 8], [2, 3, 6, 8, 10], [2, 3, 6, 8, 10, 44], [6, 7, 8], [3, 6, 8, 11], [3, 6, 8, 11, 53], [6, 7, 8], [6, 7, 8], [6, 7, 8, 64], [6, 7, 8], [6, 7, 8]]) [6, 7, 8] (nthLL [])
set_option maxRecDepth 10000
set_option maxHeartbeats 8000000
theorem leS_eq1 {e x : Int} (h : x ≠ 0) (h2 : x < e) : leS e x = x := by rw [leS, if_pos ⟨h, h2⟩]
theorem leS_eq2 {e x : Int} (h : ¬ (x ≠ 0 ∧ x < e)) : leS e x = e := by rw [leS, if_neg h]
theorem c_earliest (e x : Int) : Fn Try.prog 20 [.o (.i .i64 e), .o (.i .i64 x)] [] (.one (.c (.o (.i .i64 (leS e x))))) [] := by
  refine Fn_intro (G := g20) (goodA rfl) (fn := Try.f20) rfl rfl rfl rfl rfl ?_
  by_cases h : x ≠ 0 ∧ x < e
  · rw [leS, if_pos h]
    (repeat' ((conv => whnf) <;> first | exact rfl | with_reducible refine boolK_dec (fun _ => ?_) (fun _ => ?_) <;> try (exfalso; omega) | refine boolK_beq (fun _ => ?_) (fun _ => ?_) <;> try (exfalso; first | omega | with_reducible contradiction) | refine boolK_bne (fun _ => ?_) (fun _ => ?_) <;> try (exfalso; first | omega | with_reducible contradiction) | (with_reducible first | refine boolK_not ?_ | refine boolK_and ?_ | refine boolK_or ?_ | refine boolK_true ?_ | refine boolK_false ?_) | refine boolK_intro (fun _ => ?_) (fun _ => ?_) <;> try (exfalso; simp_all; done) | with_reducible refine natK_lit ?_ | refine natK_of rfl ?_ | refine natK_any ?_ | refine jP ?_ | refine jQ ?_ | refine jR ?_ | refine jS ?_ | refine jT ?_ | refine jU (fun _ => ?_) | refine jV ?_ | refine jW ?_ | refine jX ?_ | refine jY ?_ | refine jZ ?_ | refine ja ?_ | refine jb ?_ | refine jc ?_ | refine jd ?_ | refine je ?_ | refine jf ?_ | refine jg ?_ | refine jh ?_ | refine ji ?_ | refine jj ?_ | refine jk ?_ | refine jn ?_ | refine jo ?_ | refine jp ?_ | refine jq ?_ | refine jr ?_ | refine js ?_ | refine jt ?_ | refine jx ?_ | refine jy ?_ | refine ju ?_ | refine jv ?_)) <;> (try (conv => whnf))
  · rw [leS, if_neg h]
    (repeat' ((conv => whnf) <;> first | exact rfl | with_reducible refine boolK_dec (fun _ => ?_) (fun _ => ?_) <;> try (exfalso; omega) | refine boolK_beq (fun _ => ?_) (fun _ => ?_) <;> try (exfalso; first | omega | with_reducible contradiction) | refine boolK_bne (fun _ => ?_) (fun _ => ?_) <;> try (exfalso; first | omega | with_reducible contradiction) | (with_reducible first | refine boolK_not ?_ | refine boolK_and ?_ | refine boolK_or ?_ | refine boolK_true ?_ | refine boolK_false ?_) | refine boolK_intro (fun _ => ?_) (fun _ => ?_) <;> try (exfalso; simp_all; done) | with_reducible refine natK_lit ?_ | refine natK_of rfl ?_ | refine natK_any ?_ | refine jP ?_ | refine jQ ?_ | refine jR ?_ | refine jS ?_ | refine jT ?_ | refine jU (fun _ => ?_) | refine jV ?_ | refine jW ?_ | refine jX ?_ | refine jY ?_ | refine jZ ?_ | refine ja ?_ | refine jb ?_ | refine jc ?_ | refine jd ?_ | refine je ?_ | refine jf ?_ | refine jg ?_ | refine jh ?_ | refine ji ?_ | refine jj ?_ | refine jk ?_ | refine jn ?_ | refine jo ?_ | refine jp ?_ | refine jq ?_ | refine jr ?_ | refine js ?_ | refine jt ?_ | refine jx ?_ | refine jy ?_ | refine ju ?_ | refine jv ?_)) <;> (try (conv => whnf))
theorem c_fiFind (r : List UInt8) (l : List DE) {m : Nat} (hm : m = l.length) (hl : l.length ≤ 1000000) (hs : ∀ s ∈ l, deSm 90000 s) (c1 c2 c3 s1 s2 s3 : List UInt8) (now sec ad k : Int) : Fn Try.prog 18 [.a [.s r, .sl (flat deR l) m], .a [.s c1, .s c2, .s c3], .a [.s s1, .s s2, .s s3], .o (.i .i64 now)] [] (.tup [.c (.a [.s (fiF ⟨r, l, c1, c2, c3, s1, s2, s3, now, sec, ad, k⟩).1.1.x, .s (fiF ⟨r, l, c1, c2, c3, s1, s2, s3, now, sec, ad, k⟩).1.1.y, .i .u64 (fiF ⟨r, l, c1, c2, c3, s1, s2, s3, now, sec, ad, k⟩).1.1.k, .i .i64 (fiF ⟨r, l, c1, c2, c3, s1, s2, s3, now, sec, ad, k⟩).1.1.kv, .i .i64 (fiF ⟨r, l, c1, c2, c3, s1, s2, s3, now, sec, ad, k⟩).1.1.ex, .i .i64 (fiF ⟨r, l, c1, c2, c3, s1, s2, s3, now, sec, ad, k⟩).1.1.ml, .i .i64 (fiF ⟨r, l, c1, c2, c3, s1, s2, s3, now, sec, ad, k⟩).1.1.atr, .i .i64 (fiF ⟨r, l, c1, c2, c3, s1, s2, s3, now, sec, ad, k⟩).1.1.fl, .i .i64 (fiF ⟨r, l, c1, c2, c3, s1, s2, s3, now, sec, ad, k⟩).1.1.un]), .c (.a [.s (fiF ⟨r, l, c1, c2, c3, s1, s2, s3, now, sec, ad, k⟩).1.2.x, .s (fiF ⟨r, l, c1, c2, c3, s1, s2, s3, now, sec, ad, k⟩).1.2.y, .i .u64 (fiF ⟨r, l, c1, c2, c3, s1, s2, s3, now, sec, ad, k⟩).1.2.k, .i .i64 (fiF ⟨r, l, c1, c2, c3, s1, s2, s3, now, sec, ad, k⟩).1.2.kv, .i .i64 (fiF ⟨r, l, c1, c2, c3, s1, s2, s3, now, sec, ad, k⟩).1.2.ex, .i .i64 (fiF ⟨r, l, c1, c2, c3, s1, s2, s3, now, sec, ad, k⟩).1.2.ml, .i .i64 (fiF ⟨r, l, c1, c2, c3, s1, s2, s3, now, sec, ad, k⟩).1.2.atr, .i .i64 (fiF ⟨r, l, c1, c2, c3, s1, s2, s3, now, sec, ad, k⟩).1.2.fl, .i .i64 (fiF ⟨r, l, c1, c2, c3, s1, s2, s3, now, sec, ad, k⟩).1.2.un]), .c (.o (.i .i64 (fiF ⟨r, l, c1, c2, c3, s1, s2, s3, now, sec, ad, k⟩).2))]) [] := by
  subst hm
  have hU := c_dbClient r l rfl hl c1 c2 hs now
  have hS := c_dbService r l rfl hl s1 s2 hs now
  have f0 := @fiF_0 ⟨r, l, c1, c2, c3, s1, s2, s3, now, sec, ad, k⟩
  have f1 := @fiF_1 ⟨r, l, c1, c2, c3, s1, s2, s3, now, sec, ad, k⟩
  have f2 := @fiF_2 ⟨r, l, c1, c2, c3, s1, s2, s3, now, sec, ad, k⟩
  have f3 := @fiF_ok ⟨r, l, c1, c2, c3, s1, s2, s3, now, sec, ad, k⟩
  dsimp only [de0] at f0 f1 f2 f3
  have eU : fiU ⟨r, l, c1, c2, c3, s1, s2, s3, now, sec, ad, k⟩ = dbU c1 c2 l now (bitOn 1) 1 5 := rfl
  have eS : fiS ⟨r, l, c1, c2, c3, s1, s2, s3, now, sec, ad, k⟩ = dbU s1 s2 l now (bitOn 2) 2 6 := rfl
  refine Fn_intro (G := g18) (goodA rfl) (fn := Try.f18) rfl rfl rfl rfl rfl ?_
  by_cases h1 : c3 = r ∧ s3 = r
  · by_cases h2 : (dbU c1 c2 l now (bitOn 1) 1 5).2 = 0
    · by_cases h3 : (dbU s1 s2 l now (bitOn 2) 2 6).2 = 0
      · obtain ⟨i, i1, i2, _⟩ := dbU_at (by decide) (by decide) h2
        obtain ⟨j, j1, j2, _⟩ := dbU_at (by decide) (by decide) h3
        rw [f3 h1 h2 h3]
        have e1 : fiCu ⟨r, l, c1, c2, c3, s1, s2, s3, now, sec, ad, k⟩ = l.getD i de0 := by rw [fiCu, eU, i2, Int.toNat_natCast]
        have e2 : fiSu ⟨r, l, c1, c2, c3, s1, s2, s3, now, sec, ad, k⟩ = l.getD j de0 := by rw [fiSu, eS, j2, Int.toNat_natCast]
        rw [e1, e2]
        clear f0 f1 f2 f3 eU eS e1 e2
        obtain ⟨q1, q2⟩ := h1
        subst q1
        subst q2
        generalize dbU c1 c2 l now (bitOn 1) 1 5 = U at *
        generalize dbU s1 s2 l now (bitOn 2) 2 6 = S at *
        (repeat' ((conv => whnf) <;> first | refine natK_of (j := i) (by omega) ?_ | refine natK_of (j := j) (by omega) ?_ | exact rfl | with_reducible refine boolK_dec (fun _ => ?_) (fun _ => ?_) <;> try (exfalso; omega) | refine boolK_beq (fun _ => ?_) (fun _ => ?_) <;> try (exfalso; first | omega | with_reducible contradiction) | refine boolK_bne (fun _ => ?_) (fun _ => ?_) <;> try (exfalso; first | omega | with_reducible contradiction) | (with_reducible first | refine boolK_not ?_ | refine boolK_and ?_ | refine boolK_or ?_ | refine boolK_true ?_ | refine boolK_false ?_) | refine boolK_intro (fun _ => ?_) (fun _ => ?_) <;> try (exfalso; simp_all; done) | with_reducible refine natK_lit ?_ | refine natK_of rfl ?_ | refine natK_any ?_ | refine jP ?_ | refine jQ ?_ | refine jR ?_ | refine jS ?_ | refine jT ?_ | refine jU (fun _ => ?_) | refine jV ?_ | refine jW ?_ | refine jX ?_ | refine jY ?_ | refine jZ ?_ | refine ja ?_ | refine jb ?_ | refine jc ?_ | refine jd ?_ | refine je ?_ | refine jf ?_ | refine jg ?_ | refine jh ?_ | refine ji ?_ | refine jj ?_ | refine jk ?_ | refine jn ?_ | refine jo ?_ | refine jp ?_ | refine jq ?_ | refine jr ?_ | refine js ?_ | refine callK_intro (hU) ?_ | refine callK_intro (hS) ?_ | refine headS_deJ (j := i) (by first | omega | rfl) i1 ?_ | refine headS_deJ (j := j) (by first | omega | rfl) j1 ?_ | refine jt ?_ | refine jx ?_ | refine jy ?_ | refine ju ?_ | refine jv ?_)) <;> (try (conv => whnf))
      · rw [f2 h1 h2 h3, eS]
        clear f0 f1 f2 f3 eU eS
        obtain ⟨q1, q2⟩ := h1
        subst q1
        subst q2
        generalize dbU c1 c2 l now (bitOn 1) 1 5 = U at *
        generalize dbU s1 s2 l now (bitOn 2) 2 6 = S at *
        (repeat' ((conv => whnf) <;> first | exact rfl | with_reducible refine boolK_dec (fun _ => ?_) (fun _ => ?_) <;> try (exfalso; omega) | refine boolK_beq (fun _ => ?_) (fun _ => ?_) <;> try (exfalso; first | omega | with_reducible contradiction) | refine boolK_bne (fun _ => ?_) (fun _ => ?_) <;> try (exfalso; first | omega | with_reducible contradiction) | (with_reducible first | refine boolK_not ?_ | refine boolK_and ?_ | refine boolK_or ?_ | refine boolK_true ?_ | refine boolK_false ?_) | refine boolK_intro (fun _ => ?_) (fun _ => ?_) <;> try (exfalso; simp_all; done) | with_reducible refine natK_lit ?_ | refine natK_of rfl ?_ | refine natK_any ?_ | refine jP ?_ | refine jQ ?_ | refine jR ?_ | refine jS ?_ | refine jT ?_ | refine jU (fun _ => ?_) | refine jV ?_ | refine jW ?_ | refine jX ?_ | refine jY ?_ | refine jZ ?_ | refine ja ?_ | refine jb ?_ | refine jc ?_ | refine jd ?_ | refine je ?_ | refine jf ?_ | refine jg ?_ | refine jh ?_ | refine ji ?_ | refine jj ?_ | refine jk ?_ | refine jn ?_ | refine jo ?_ | refine jp ?_ | refine jq ?_ | refine jr ?_ | refine js ?_ | refine callK_intro (hU) ?_ | refine callK_intro (hS) ?_ | refine jt ?_ | refine jx ?_ | refine jy ?_ | refine ju ?_ | refine jv ?_)) <;> (try (conv => whnf))
    · rw [f1 h1 h2, eU]
      clear f0 f1 f2 f3 eU eS
      obtain ⟨q1, q2⟩ := h1
      subst q1
      subst q2
      generalize dbU c1 c2 l now (bitOn 1) 1 5 = U at *
      generalize dbU s1 s2 l now (bitOn 2) 2 6 = S at *
      (repeat' ((conv => whnf) <;> first | exact rfl | with_reducible refine boolK_dec (fun _ => ?_) (fun _ => ?_) <;> try (exfalso; omega) | refine boolK_beq (fun _ => ?_) (fun _ => ?_) <;> try (exfalso; first | omega | with_reducible contradiction) | refine boolK_bne (fun _ => ?_) (fun _ => ?_) <;> try (exfalso; first | omega | with_reducible contradiction) | (with_reducible first | refine boolK_not ?_ | refine boolK_and ?_ | refine boolK_or ?_ | refine boolK_true ?_ | refine boolK_false ?_) | refine boolK_intro (fun _ => ?_) (fun _ => ?_) <;> try (exfalso; simp_all; done) | with_reducible refine natK_lit ?_ | refine natK_of rfl ?_ | refine natK_any ?_ | refine jP ?_ | refine jQ ?_ | refine jR ?_ | refine jS ?_ | refine jT ?_ | refine jU (fun _ => ?_) | refine jV ?_ | refine jW ?_ | refine jX ?_ | refine jY ?_ | refine jZ ?_ | refine ja ?_ | refine jb ?_ | refine jc ?_ | refine jd ?_ | refine je ?_ | refine jf ?_ | refine jg ?_ | refine jh ?_ | refine ji ?_ | refine jj ?_ | refine jk ?_ | refine jn ?_ | refine jo ?_ | refine jp ?_ | refine jq ?_ | refine jr ?_ | refine js ?_ | refine callK_intro (hU) ?_ | refine callK_intro (hS) ?_ | refine jt ?_ | refine jx ?_ | refine jy ?_ | refine ju ?_ | refine jv ?_)) <;> (try (conv => whnf))
  · rw [f0 h1]
    clear f0 f1 f2 f3 eU eS
    (repeat' ((conv => whnf) <;> first | exact rfl | with_reducible refine boolK_dec (fun _ => ?_) (fun _ => ?_) <;> try (exfalso; omega) | refine boolK_beq (fun _ => ?_) (fun _ => ?_) <;> try (exfalso; first | omega | with_reducible contradiction) | refine boolK_bne (fun _ => ?_) (fun _ => ?_) <;> try (exfalso; first | omega | with_reducible contradiction) | (with_reducible first | refine boolK_not ?_ | refine boolK_and ?_ | refine boolK_or ?_ | refine boolK_true ?_ | refine boolK_false ?_) | refine boolK_intro (fun _ => ?_) (fun _ => ?_) <;> try (exfalso; simp_all; done) | with_reducible refine natK_lit ?_ | refine natK_of rfl ?_ | refine natK_any ?_ | refine jP ?_ | refine jQ ?_ | refine jR ?_ | refine jS ?_ | refine jT ?_ | refine jU (fun _ => ?_) | refine jV ?_ | refine jW ?_ | refine jX ?_ | refine jY ?_ | refine jZ ?_ | refine ja ?_ | refine jb ?_ | refine jc ?_ | refine jd ?_ | refine je ?_ | refine jf ?_ | refine jg ?_ | refine jh ?_ | refine ji ?_ | refine jj ?_ | refine jk ?_ | refine jn ?_ | refine jo ?_ | refine jp ?_ | refine jq ?_ | refine jr ?_ | refine js ?_ | exact absurd ⟨by assumption, by assumption⟩ h1 | refine jt ?_ | refine jx ?_ | refine jy ?_ | refine ju ?_ | refine jv ?_)) <;> (try (conv => whnf))
theorem c_seal5 (c1 c2 c3 s1 s2 s3 : List UInt8) (k st en ad t w : Int) (hl : c1.length ≤ 1000 ∧ c2.length ≤ 1000 ∧ c3.length ≤ 1000 ∧ s1.length ≤ 1000 ∧ s2.length ≤ 1000 ∧ s3.length ≤ 1000) (hk : 0 ≤ k ∧ k ≤ 18446744073709551615) (ht : 0 ≤ t ∧ t ≤ 18446744073709551615) (hw : 0 ≤ w ∧ w ≤ 18446744073709551615) {A S P X G : List UInt8} (e1 : frN ⟨c1, c2, c3, s1, s2, s3, k, st, en, ad⟩ = (A, 0)) (e2 : makeS 9 t A = (S, 0)) (e3 : fpN ⟨k, s1, s2, s3, st, en, S⟩ = (P, 0)) (e4 : makeS 10 w P = (X, 0)) (e5 : fmN ⟨1, c1, c2, c3, X⟩ = (G, 0)) (hL : A.length ≤ 1000 ∧ S.length ≤ 1000 ∧ P.length ≤ 1000 ∧ X.length ≤ 2000) : Fn Try.prog 22 [.a [.s c1, .s c2, .s c3, .s s1, .s s2, .s s3, .i .u64 k, .i .i64 st, .i .i64 en, .i .i64 ad], .o (.i .u64 t), .o (.i .u64 w)] [] (.tup [.c (.o (.sl (S.map u8) S.length)), .fr (G.map u8) G.length 1, .c (.o (.i .i64 0))]) [] := by
  have q1 := c_EncR c1 c2 c3 s1 s2 s3 k st en ad (by omega) hk
  rw [e1] at q1
  dsimp only at q1
  have q2 := c_boxMake 9 t ht A (m := A.length) rfl (by omega)
  rw [e2] at q2
  dsimp only at q2
  have q3 := c_EncP k s1 s2 s3 st en S (m := S.length) rfl (by omega) hk
  rw [e3] at q3
  dsimp only at q3
  have q4 := c_boxMake 10 w hw P (m := P.length) rfl (by omega)
  rw [e4] at q4
  dsimp only at q4
  have q5 := c_EncM 1 c1 c2 c3 X (m := X.length) rfl (by omega)
  rw [e5] at q5
  dsimp only at q5
  clear e1 e2 e3 e4 e5
  refine Fn_intro (G := g22) (goodA rfl) (fn := Try.f22) rfl rfl rfl rfl rfl ?_
  (repeat' ((conv => whnf) <;> first | exact rfl | with_reducible refine boolK_dec (fun _ => ?_) (fun _ => ?_) <;> try (exfalso; omega) | refine boolK_beq (fun _ => ?_) (fun _ => ?_) <;> try (exfalso; first | omega | with_reducible contradiction) | refine boolK_bne (fun _ => ?_) (fun _ => ?_) <;> try (exfalso; first | omega | with_reducible contradiction) | (with_reducible first | refine boolK_not ?_ | refine boolK_and ?_ | refine boolK_or ?_ | refine boolK_true ?_ | refine boolK_false ?_) | refine boolK_intro (fun _ => ?_) (fun _ => ?_) <;> try (exfalso; simp_all; done) | with_reducible refine natK_lit ?_ | refine natK_of rfl ?_ | refine natK_any ?_ | refine jP ?_ | refine jQ ?_ | refine jR ?_ | refine jS ?_ | refine jT ?_ | refine jU (fun _ => ?_) | refine jV ?_ | refine jW ?_ | refine jX ?_ | refine jY ?_ | refine jZ ?_ | refine ja ?_ | refine jb ?_ | refine jc ?_ | refine jd ?_ | refine je ?_ | refine jf ?_ | refine jg ?_ | refine jh ?_ | refine ji ?_ | refine jj ?_ | refine jk ?_ | refine jn ?_ | refine jo ?_ | refine jp ?_ | refine jq ?_ | refine jr ?_ | refine js ?_ | refine callK_intro (q1) ?_ | refine callK_intro (q2) ?_ | refine callK_intro (q3) ?_ | refine callK_intro (q4) ?_ | refine callK_intro (q5) ?_ | refine jt ?_ | refine jx ?_ | refine jy ?_ | refine ju ?_ | refine sideK_intro (by first | (exact ⟨rfl, rfl, rfl⟩)) ?_ | refine jv ?_)) <;> (try (conv => whnf))
end Go.Sx

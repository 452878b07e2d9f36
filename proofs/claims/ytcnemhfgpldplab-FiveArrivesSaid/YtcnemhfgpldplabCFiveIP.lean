/-
  Contracts of Issue of package five.
-/
import Derived.Test.YtcnemhfgpldplabCFiveI
set_option linter.all false
namespace Go.Sx
open Go.Proofs Go.RowKit
noncomputable def g8 : Par := par 115 (nthLL [[3, 4, 5, 6, 7, 8, 9, 15], [3, 4, 5, 6, 7, 8, 9, 15, 17], [3, 4, 5, 6, 7, 8, 9, 15, 17, 28], [14, 15, 16], [3, 4, 5, 6, 7, 8, 9, 15, 18, 19, 20], [3, 4, 5, 6, 7, 8, 9, 15, 18, 19, 20, 41], [14, 15, 16], [3, 4, 5, 6, 7, 8, 9, 15, 18, 19, 59], [14, 15, 16], [3, 5, 6, 7, 8, 9, 15, 18, 19, 21], [3, 5, 6, 7, 8, 9, 15, 18, 19, 21, 73], [14, 15, 16], [3, 5, 6, 7, 8, 9, 15, 18, 19, 21, 77], [14, 15, 16], [3, 6, 7, 8, 9, 15, 18, 19, 21, 22], [3, 6, 7, 8, 9, 15, 18, 20, 21, 23, 24], [3, 6, 7, 8, 9, 15, 18, 20, 21, 23, 24, 97], [14, 15, 16], [14, 15, 16]]) [14, 15, 16, 17, 20, 24] (nthLL [[], [], [], [], [], [], [], [], [], [0, 0, 3, 7, 0, 16, 63, 0, 128, 511, 1023], [], [], [], [], [], [], [], [], [0, 0, 2, 0, 8, 30, 0, 0, 0, 0, 512, 0, 0, 0, 16382, 63, 65535, 131071]])
set_option maxRecDepth 10000
set_option maxHeartbeats 16000000
theorem c_Issue (r : List UInt8) (l : List DE) {m : Nat} (hm : m = l.length) (hl : l.length ≤ 1000) (hr : r.length ≤ 1000) (hs : ∀ s ∈ l, deSm 90000 s) (c1 c2 c3 s1 s2 s3 : List UInt8) (now sec ad k : Int) (hlen : c1.length ≤ 1000 ∧ c2.length ≤ 1000 ∧ c3.length ≤ 1000 ∧ s1.length ≤ 1000 ∧ s2.length ≤ 1000 ∧ s3.length ≤ 1000) (hk : 0 ≤ k ∧ k ≤ 18446744073709551615) : Fn Try.prog 8 [.a [.s r, .sl (flat deR l) m], .a [.s c1, .s c2, .s c3], .a [.s s1, .s s2, .s s3], .o (.i .i64 now), .o (.i .i64 sec), .o (.i .i64 ad), .o (.i .u64 k)] [] (.tup [.fr ((fiO ⟨r, l, c1, c2, c3, s1, s2, s3, now, sec, ad, k⟩).1.1.map u8) (fiO ⟨r, l, c1, c2, c3, s1, s2, s3, now, sec, ad, k⟩).1.1.length 1, .c (.a [.i .i64 (fiO ⟨r, l, c1, c2, c3, s1, s2, s3, now, sec, ad, k⟩).1.2.kd, .s (fiO ⟨r, l, c1, c2, c3, s1, s2, s3, now, sec, ad, k⟩).1.2.v1, .s (fiO ⟨r, l, c1, c2, c3, s1, s2, s3, now, sec, ad, k⟩).1.2.v2, .s (fiO ⟨r, l, c1, c2, c3, s1, s2, s3, now, sec, ad, k⟩).1.2.v3, .s (fiO ⟨r, l, c1, c2, c3, s1, s2, s3, now, sec, ad, k⟩).1.2.c1, .s (fiO ⟨r, l, c1, c2, c3, s1, s2, s3, now, sec, ad, k⟩).1.2.c2, .s (fiO ⟨r, l, c1, c2, c3, s1, s2, s3, now, sec, ad, k⟩).1.2.c3, .s (fiO ⟨r, l, c1, c2, c3, s1, s2, s3, now, sec, ad, k⟩).1.2.s1, .s (fiO ⟨r, l, c1, c2, c3, s1, s2, s3, now, sec, ad, k⟩).1.2.s2, .s (fiO ⟨r, l, c1, c2, c3, s1, s2, s3, now, sec, ad, k⟩).1.2.s3, .i .u64 (fiO ⟨r, l, c1, c2, c3, s1, s2, s3, now, sec, ad, k⟩).1.2.k, .i .u64 (fiO ⟨r, l, c1, c2, c3, s1, s2, s3, now, sec, ad, k⟩).1.2.se, .i .u64 0, .sl ((fiO ⟨r, l, c1, c2, c3, s1, s2, s3, now, sec, ad, k⟩).1.2.bx.map u8) (fiO ⟨r, l, c1, c2, c3, s1, s2, s3, now, sec, ad, k⟩).1.2.bx.length, .i .i64 (fiO ⟨r, l, c1, c2, c3, s1, s2, s3, now, sec, ad, k⟩).1.2.is, .i .i64 (fiO ⟨r, l, c1, c2, c3, s1, s2, s3, now, sec, ad, k⟩).1.2.en]), .c (.o (.i .i64 (fiO ⟨r, l, c1, c2, c3, s1, s2, s3, now, sec, ad, k⟩).2))]) [] := by
  subst hm
  have cC := c_dbCheck r l rfl (by omega) (by omega) hs
  have cK := c_Class k hk
  have cF := c_fiFind r l rfl (by omega) hs c1 c2 c3 s1 s2 s3 now sec ad k
  have f0 := @fiF_0 ⟨r, l, c1, c2, c3, s1, s2, s3, now, sec, ad, k⟩
  have f1 := @fiF_1 ⟨r, l, c1, c2, c3, s1, s2, s3, now, sec, ad, k⟩
  have f2 := @fiF_2 ⟨r, l, c1, c2, c3, s1, s2, s3, now, sec, ad, k⟩
  have f3 := @fiF_ok ⟨r, l, c1, c2, c3, s1, s2, s3, now, sec, ad, k⟩
  dsimp only [de0] at f0 f1 f2 f3
  have o0 := @fiO_0 ⟨r, l, c1, c2, c3, s1, s2, s3, now, sec, ad, k⟩
  have o1 := @fiO_1 ⟨r, l, c1, c2, c3, s1, s2, s3, now, sec, ad, k⟩
  have o2 := @fiO_2 ⟨r, l, c1, c2, c3, s1, s2, s3, now, sec, ad, k⟩
  have o3 := @fiO_3 ⟨r, l, c1, c2, c3, s1, s2, s3, now, sec, ad, k⟩
  have o4 := @fiO_4 ⟨r, l, c1, c2, c3, s1, s2, s3, now, sec, ad, k⟩
  have o5 := @fiO_5 ⟨r, l, c1, c2, c3, s1, s2, s3, now, sec, ad, k⟩
  have o6 := @fiO_6 ⟨r, l, c1, c2, c3, s1, s2, s3, now, sec, ad, k⟩
  have ok := @fiO_ok ⟨r, l, c1, c2, c3, s1, s2, s3, now, sec, ad, k⟩
  have st := @fi_steps ⟨r, l, c1, c2, c3, s1, s2, s3, now, sec, ad, k⟩
  have at' := @fi_at ⟨r, l, c1, c2, c3, s1, s2, s3, now, sec, ad, k⟩
  dsimp only [fi0] at o0 o1 o2 o3 o4 o5 o6
  dsimp only [fiIss] at ok
  dsimp only [fiRec, fiPart, fiM] at st
  have eU : fiU ⟨r, l, c1, c2, c3, s1, s2, s3, now, sec, ad, k⟩ = dbU c1 c2 l now (bitOn 1) 1 5 := rfl
  have eS : fiS ⟨r, l, c1, c2, c3, s1, s2, s3, now, sec, ad, k⟩ = dbU s1 s2 l now (bitOn 2) 2 6 := rfl
  have hE : fiE ⟨r, l, c1, c2, c3, s1, s2, s3, now, sec, ad, k⟩ = leS (leS (if 4294967295 < now + sec then 4294967295 else now + sec) (fiCu ⟨r, l, c1, c2, c3, s1, s2, s3, now, sec, ad, k⟩).ex) (fiSu ⟨r, l, c1, c2, c3, s1, s2, s3, now, sec, ad, k⟩).ex := rfl
  refine Fn_intro (G := g8) (goodA rfl) (fn := Try.f8) rfl rfl rfl rfl rfl ?_
  by_cases h0 : dbC r l = 0
  case neg =>
    rw [o0  h0]
    clear o0 o1 o2 o3 o4 o5 o6 ok st at' eU eS hE f0 f1 f2 f3
    generalize fiE ⟨r, l, c1, c2, c3, s1, s2, s3, now, sec, ad, k⟩ = E at *
    generalize fiCu ⟨r, l, c1, c2, c3, s1, s2, s3, now, sec, ad, k⟩ = CU at *
    generalize fiSu ⟨r, l, c1, c2, c3, s1, s2, s3, now, sec, ad, k⟩ = SU at *
    generalize dbU c1 c2 l now (bitOn 1) 1 5 = U at *
    generalize dbU s1 s2 l now (bitOn 2) 2 6 = S at *
    generalize dbC r l = DC at *
    generalize classS k = CK at *
    (repeat' ((conv => whnf) <;> first | exact rfl | with_reducible refine boolK_dec (fun _ => ?_) (fun _ => ?_) <;> try (exfalso; omega) | refine boolK_beq (fun _ => ?_) (fun _ => ?_) <;> try (exfalso; first | omega | with_reducible contradiction) | refine boolK_bne (fun _ => ?_) (fun _ => ?_) <;> try (exfalso; first | omega | with_reducible contradiction) | (with_reducible first | refine boolK_not ?_ | refine boolK_and ?_ | refine boolK_or ?_ | refine boolK_true ?_ | refine boolK_false ?_) | refine boolK_intro (fun _ => ?_) (fun _ => ?_) <;> try (exfalso; simp_all; done) | refine jA ?_ | refine jB ?_ | refine jH ?_ | refine jI ?_ | refine jJ ?_ | refine jK ?_ | with_reducible refine natK_lit ?_ | refine natK_of rfl ?_ | refine natK_any ?_ | refine jP ?_ | refine jQ ?_ | refine jR ?_ | refine jS ?_ | refine jT ?_ | refine jU (fun _ => ?_) | refine jV ?_ | refine jW ?_ | refine jX ?_ | refine jY ?_ | refine jZ ?_ | refine ja ?_ | refine jb ?_ | refine jc ?_ | refine jd ?_ | refine je ?_ | refine jf ?_ | refine jg ?_ | refine jh ?_ | refine ji ?_ | refine jj ?_ | refine jk ?_ | refine jn ?_ | refine jo ?_ | refine jp ?_ | refine jq ?_ | refine jr ?_ | refine js ?_ | refine callK_intro (cC) ?_ | assumption | refine jt ?_ | refine jx ?_ | refine jy ?_ | refine ju ?_ | refine jv ?_)) <;> (try (conv => whnf))
  by_cases h1 : c3 = r ∧ s3 = r
  case neg =>
    rw [o1 h0 h1]
    rw [f0 h1] at cF
    dsimp only at cF
    clear o0 o1 o2 o3 o4 o5 o6 ok st at' eU eS hE f0 f1 f2 f3
    generalize fiE ⟨r, l, c1, c2, c3, s1, s2, s3, now, sec, ad, k⟩ = E at *
    generalize fiCu ⟨r, l, c1, c2, c3, s1, s2, s3, now, sec, ad, k⟩ = CU at *
    generalize fiSu ⟨r, l, c1, c2, c3, s1, s2, s3, now, sec, ad, k⟩ = SU at *
    generalize dbU c1 c2 l now (bitOn 1) 1 5 = U at *
    generalize dbU s1 s2 l now (bitOn 2) 2 6 = S at *
    generalize dbC r l = DC at *
    generalize classS k = CK at *
    (repeat' ((conv => whnf) <;> first | exact rfl | with_reducible refine boolK_dec (fun _ => ?_) (fun _ => ?_) <;> try (exfalso; omega) | refine boolK_beq (fun _ => ?_) (fun _ => ?_) <;> try (exfalso; first | omega | with_reducible contradiction) | refine boolK_bne (fun _ => ?_) (fun _ => ?_) <;> try (exfalso; first | omega | with_reducible contradiction) | (with_reducible first | refine boolK_not ?_ | refine boolK_and ?_ | refine boolK_or ?_ | refine boolK_true ?_ | refine boolK_false ?_) | refine boolK_intro (fun _ => ?_) (fun _ => ?_) <;> try (exfalso; simp_all; done) | refine jA ?_ | refine jB ?_ | refine jH ?_ | refine jI ?_ | refine jJ ?_ | refine jK ?_ | with_reducible refine natK_lit ?_ | refine natK_of rfl ?_ | refine natK_any ?_ | refine jP ?_ | refine jQ ?_ | refine jR ?_ | refine jS ?_ | refine jT ?_ | refine jU (fun _ => ?_) | refine jV ?_ | refine jW ?_ | refine jX ?_ | refine jY ?_ | refine jZ ?_ | refine ja ?_ | refine jb ?_ | refine jc ?_ | refine jd ?_ | refine je ?_ | refine jf ?_ | refine jg ?_ | refine jh ?_ | refine ji ?_ | refine jj ?_ | refine jk ?_ | refine jn ?_ | refine jo ?_ | refine jp ?_ | refine jq ?_ | refine jr ?_ | refine js ?_ | refine callK_intro (cC) ?_ | refine callK_intro (cF) ?_ | exact absurd ⟨by assumption, by assumption⟩ h1 | refine jt ?_ | refine jx ?_ | refine jy ?_ | refine ju ?_ | refine jv ?_)) <;> (try (conv => whnf))
  by_cases h2 : (dbU c1 c2 l now (bitOn 1) 1 5).2 = 0
  case neg =>
    rw [o2 h0 h1 h2]
    rw [eU]
    rw [f1 h1 h2] at cF
    dsimp only at cF
    rw [eU] at cF
    clear o0 o1 o2 o3 o4 o5 o6 ok st at' eU eS hE f0 f1 f2 f3
    generalize fiE ⟨r, l, c1, c2, c3, s1, s2, s3, now, sec, ad, k⟩ = E at *
    generalize fiCu ⟨r, l, c1, c2, c3, s1, s2, s3, now, sec, ad, k⟩ = CU at *
    generalize fiSu ⟨r, l, c1, c2, c3, s1, s2, s3, now, sec, ad, k⟩ = SU at *
    generalize dbU c1 c2 l now (bitOn 1) 1 5 = U at *
    generalize dbU s1 s2 l now (bitOn 2) 2 6 = S at *
    generalize dbC r l = DC at *
    generalize classS k = CK at *
    (repeat' ((conv => whnf) <;> first | exact rfl | with_reducible refine boolK_dec (fun _ => ?_) (fun _ => ?_) <;> try (exfalso; omega) | refine boolK_beq (fun _ => ?_) (fun _ => ?_) <;> try (exfalso; first | omega | with_reducible contradiction) | refine boolK_bne (fun _ => ?_) (fun _ => ?_) <;> try (exfalso; first | omega | with_reducible contradiction) | (with_reducible first | refine boolK_not ?_ | refine boolK_and ?_ | refine boolK_or ?_ | refine boolK_true ?_ | refine boolK_false ?_) | refine boolK_intro (fun _ => ?_) (fun _ => ?_) <;> try (exfalso; simp_all; done) | refine jA ?_ | refine jB ?_ | refine jH ?_ | refine jI ?_ | refine jJ ?_ | refine jK ?_ | with_reducible refine natK_lit ?_ | refine natK_of rfl ?_ | refine natK_any ?_ | refine jP ?_ | refine jQ ?_ | refine jR ?_ | refine jS ?_ | refine jT ?_ | refine jU (fun _ => ?_) | refine jV ?_ | refine jW ?_ | refine jX ?_ | refine jY ?_ | refine jZ ?_ | refine ja ?_ | refine jb ?_ | refine jc ?_ | refine jd ?_ | refine je ?_ | refine jf ?_ | refine jg ?_ | refine jh ?_ | refine ji ?_ | refine jj ?_ | refine jk ?_ | refine jn ?_ | refine jo ?_ | refine jp ?_ | refine jq ?_ | refine jr ?_ | refine js ?_ | refine callK_intro (cC) ?_ | refine callK_intro (cF) ?_ | assumption | refine jt ?_ | refine jx ?_ | refine jy ?_ | refine ju ?_ | refine jv ?_)) <;> (try (conv => whnf))
  by_cases h3 : (dbU s1 s2 l now (bitOn 2) 2 6).2 = 0
  case neg =>
    rw [o3 h0 h1 h2 h3]
    rw [eS]
    rw [f2 h1 h2 h3] at cF
    dsimp only at cF
    rw [eS] at cF
    clear o0 o1 o2 o3 o4 o5 o6 ok st at' eU eS hE f0 f1 f2 f3
    generalize fiE ⟨r, l, c1, c2, c3, s1, s2, s3, now, sec, ad, k⟩ = E at *
    generalize fiCu ⟨r, l, c1, c2, c3, s1, s2, s3, now, sec, ad, k⟩ = CU at *
    generalize fiSu ⟨r, l, c1, c2, c3, s1, s2, s3, now, sec, ad, k⟩ = SU at *
    generalize dbU c1 c2 l now (bitOn 1) 1 5 = U at *
    generalize dbU s1 s2 l now (bitOn 2) 2 6 = S at *
    generalize dbC r l = DC at *
    generalize classS k = CK at *
    (repeat' ((conv => whnf) <;> first | exact rfl | with_reducible refine boolK_dec (fun _ => ?_) (fun _ => ?_) <;> try (exfalso; omega) | refine boolK_beq (fun _ => ?_) (fun _ => ?_) <;> try (exfalso; first | omega | with_reducible contradiction) | refine boolK_bne (fun _ => ?_) (fun _ => ?_) <;> try (exfalso; first | omega | with_reducible contradiction) | (with_reducible first | refine boolK_not ?_ | refine boolK_and ?_ | refine boolK_or ?_ | refine boolK_true ?_ | refine boolK_false ?_) | refine boolK_intro (fun _ => ?_) (fun _ => ?_) <;> try (exfalso; simp_all; done) | refine jA ?_ | refine jB ?_ | refine jH ?_ | refine jI ?_ | refine jJ ?_ | refine jK ?_ | with_reducible refine natK_lit ?_ | refine natK_of rfl ?_ | refine natK_any ?_ | refine jP ?_ | refine jQ ?_ | refine jR ?_ | refine jS ?_ | refine jT ?_ | refine jU (fun _ => ?_) | refine jV ?_ | refine jW ?_ | refine jX ?_ | refine jY ?_ | refine jZ ?_ | refine ja ?_ | refine jb ?_ | refine jc ?_ | refine jd ?_ | refine je ?_ | refine jf ?_ | refine jg ?_ | refine jh ?_ | refine ji ?_ | refine jj ?_ | refine jk ?_ | refine jn ?_ | refine jo ?_ | refine jp ?_ | refine jq ?_ | refine jr ?_ | refine js ?_ | refine callK_intro (cC) ?_ | refine callK_intro (cF) ?_ | assumption | refine jt ?_ | refine jx ?_ | refine jy ?_ | refine ju ?_ | refine jv ?_)) <;> (try (conv => whnf))
  by_cases h4 : (0 ≤ now ∧ now ≤ 4294967295) ∧ (1 ≤ sec ∧ sec ≤ 4294967295) ∧ (0 ≤ ad ∧ ad ≤ 4294967295)
  case neg =>
    rw [o4 h0 h1 h2 h3 h4]
    rw [f3 h1 h2 h3] at cF
    dsimp only at cF
    clear o0 o1 o2 o3 o4 o5 o6 ok st at' eU eS hE f0 f1 f2 f3
    generalize fiE ⟨r, l, c1, c2, c3, s1, s2, s3, now, sec, ad, k⟩ = E at *
    generalize fiCu ⟨r, l, c1, c2, c3, s1, s2, s3, now, sec, ad, k⟩ = CU at *
    generalize fiSu ⟨r, l, c1, c2, c3, s1, s2, s3, now, sec, ad, k⟩ = SU at *
    generalize dbU c1 c2 l now (bitOn 1) 1 5 = U at *
    generalize dbU s1 s2 l now (bitOn 2) 2 6 = S at *
    generalize dbC r l = DC at *
    generalize classS k = CK at *
    (repeat' ((conv => whnf) <;> first | exact rfl | with_reducible refine boolK_dec (fun _ => ?_) (fun _ => ?_) <;> try (exfalso; omega) | refine boolK_beq (fun _ => ?_) (fun _ => ?_) <;> try (exfalso; first | omega | with_reducible contradiction) | refine boolK_bne (fun _ => ?_) (fun _ => ?_) <;> try (exfalso; first | omega | with_reducible contradiction) | (with_reducible first | refine boolK_not ?_ | refine boolK_and ?_ | refine boolK_or ?_ | refine boolK_true ?_ | refine boolK_false ?_) | refine boolK_intro (fun _ => ?_) (fun _ => ?_) <;> try (exfalso; simp_all; done) | refine jA ?_ | refine jB ?_ | refine jH ?_ | refine jI ?_ | refine jJ ?_ | refine jK ?_ | with_reducible refine natK_lit ?_ | refine natK_of rfl ?_ | refine natK_any ?_ | refine jP ?_ | refine jQ ?_ | refine jR ?_ | refine jS ?_ | refine jT ?_ | refine jU (fun _ => ?_) | refine jV ?_ | refine jW ?_ | refine jX ?_ | refine jY ?_ | refine jZ ?_ | refine ja ?_ | refine jb ?_ | refine jc ?_ | refine jd ?_ | refine je ?_ | refine jf ?_ | refine jg ?_ | refine jh ?_ | refine ji ?_ | refine jj ?_ | refine jk ?_ | refine jn ?_ | refine jo ?_ | refine jp ?_ | refine jq ?_ | refine jr ?_ | refine js ?_ | refine callK_intro (cC) ?_ | refine callK_intro (cF) ?_ | refine callK_intro (c_upTo _ _) ?_ | assumption | refine jt ?_ | refine jx ?_ | refine jy ?_ | refine ju ?_ | refine jv ?_)) <;> (try (conv => whnf))
  by_cases h5 : now < fiE ⟨r, l, c1, c2, c3, s1, s2, s3, now, sec, ad, k⟩
  case neg =>
    rw [o5 h0 h1 h2 h3 h4 h5]
    rw [f3 h1 h2 h3] at cF
    dsimp only at cF
    have ce1 := c_earliest (if 4294967295 < now + sec then 4294967295 else now + sec) (fiCu ⟨r, l, c1, c2, c3, s1, s2, s3, now, sec, ad, k⟩).ex
    have ce2 := c_earliest (leS (if 4294967295 < now + sec then 4294967295 else now + sec) (fiCu ⟨r, l, c1, c2, c3, s1, s2, s3, now, sec, ad, k⟩).ex) (fiSu ⟨r, l, c1, c2, c3, s1, s2, s3, now, sec, ad, k⟩).ex
    rw [← hE] at ce2
    clear o0 o1 o2 o3 o4 o5 o6 ok st at' eU eS hE f0 f1 f2 f3
    generalize fiE ⟨r, l, c1, c2, c3, s1, s2, s3, now, sec, ad, k⟩ = E at *
    generalize fiCu ⟨r, l, c1, c2, c3, s1, s2, s3, now, sec, ad, k⟩ = CU at *
    generalize fiSu ⟨r, l, c1, c2, c3, s1, s2, s3, now, sec, ad, k⟩ = SU at *
    generalize dbU c1 c2 l now (bitOn 1) 1 5 = U at *
    generalize dbU s1 s2 l now (bitOn 2) 2 6 = S at *
    generalize dbC r l = DC at *
    generalize classS k = CK at *
    (repeat' ((conv => whnf) <;> first | exact rfl | with_reducible refine boolK_dec (fun _ => ?_) (fun _ => ?_) <;> try (exfalso; omega) | refine boolK_beq (fun _ => ?_) (fun _ => ?_) <;> try (exfalso; first | omega | with_reducible contradiction) | refine boolK_bne (fun _ => ?_) (fun _ => ?_) <;> try (exfalso; first | omega | with_reducible contradiction) | (with_reducible first | refine boolK_not ?_ | refine boolK_and ?_ | refine boolK_or ?_ | refine boolK_true ?_ | refine boolK_false ?_) | refine boolK_intro (fun _ => ?_) (fun _ => ?_) <;> try (exfalso; simp_all; done) | refine jA ?_ | refine jB ?_ | refine jH ?_ | refine jI ?_ | refine jJ ?_ | refine jK ?_ | with_reducible refine natK_lit ?_ | refine natK_of rfl ?_ | refine natK_any ?_ | refine jP ?_ | refine jQ ?_ | refine jR ?_ | refine jS ?_ | refine jT ?_ | refine jU (fun _ => ?_) | refine jV ?_ | refine jW ?_ | refine jX ?_ | refine jY ?_ | refine jZ ?_ | refine ja ?_ | refine jb ?_ | refine jc ?_ | refine jd ?_ | refine je ?_ | refine jf ?_ | refine jg ?_ | refine jh ?_ | refine ji ?_ | refine jj ?_ | refine jk ?_ | refine jn ?_ | refine jo ?_ | refine jp ?_ | refine jq ?_ | refine jr ?_ | refine js ?_ | refine callK_intro (cC) ?_ | refine callK_intro (cF) ?_ | refine callK_intro (c_upTo _ _) ?_ | refine callK_intro (ce1) ?_ | refine callK_intro (ce2) ?_ | assumption | refine jt ?_ | refine jx ?_ | refine jy ?_ | refine ju ?_ | refine jv ?_)) <;> (try (conv => whnf))
  by_cases h6 : classS k = 2
  case neg =>
    rw [o6 h0 h1 h2 h3 h4 h5 h6]
    rw [f3 h1 h2 h3] at cF
    dsimp only at cF
    have ce1 := c_earliest (if 4294967295 < now + sec then 4294967295 else now + sec) (fiCu ⟨r, l, c1, c2, c3, s1, s2, s3, now, sec, ad, k⟩).ex
    have ce2 := c_earliest (leS (if 4294967295 < now + sec then 4294967295 else now + sec) (fiCu ⟨r, l, c1, c2, c3, s1, s2, s3, now, sec, ad, k⟩).ex) (fiSu ⟨r, l, c1, c2, c3, s1, s2, s3, now, sec, ad, k⟩).ex
    rw [← hE] at ce2
    clear o0 o1 o2 o3 o4 o5 o6 ok st at' eU eS hE f0 f1 f2 f3
    generalize fiE ⟨r, l, c1, c2, c3, s1, s2, s3, now, sec, ad, k⟩ = E at *
    generalize fiCu ⟨r, l, c1, c2, c3, s1, s2, s3, now, sec, ad, k⟩ = CU at *
    generalize fiSu ⟨r, l, c1, c2, c3, s1, s2, s3, now, sec, ad, k⟩ = SU at *
    generalize dbU c1 c2 l now (bitOn 1) 1 5 = U at *
    generalize dbU s1 s2 l now (bitOn 2) 2 6 = S at *
    generalize dbC r l = DC at *
    generalize classS k = CK at *
    (repeat' ((conv => whnf) <;> first | exact rfl | with_reducible refine boolK_dec (fun _ => ?_) (fun _ => ?_) <;> try (exfalso; omega) | refine boolK_beq (fun _ => ?_) (fun _ => ?_) <;> try (exfalso; first | omega | with_reducible contradiction) | refine boolK_bne (fun _ => ?_) (fun _ => ?_) <;> try (exfalso; first | omega | with_reducible contradiction) | (with_reducible first | refine boolK_not ?_ | refine boolK_and ?_ | refine boolK_or ?_ | refine boolK_true ?_ | refine boolK_false ?_) | refine boolK_intro (fun _ => ?_) (fun _ => ?_) <;> try (exfalso; simp_all; done) | refine jA ?_ | refine jB ?_ | refine jH ?_ | refine jI ?_ | refine jJ ?_ | refine jK ?_ | with_reducible refine natK_lit ?_ | refine natK_of rfl ?_ | refine natK_any ?_ | refine jP ?_ | refine jQ ?_ | refine jR ?_ | refine jS ?_ | refine jT ?_ | refine jU (fun _ => ?_) | refine jV ?_ | refine jW ?_ | refine jX ?_ | refine jY ?_ | refine jZ ?_ | refine ja ?_ | refine jb ?_ | refine jc ?_ | refine jd ?_ | refine je ?_ | refine jf ?_ | refine jg ?_ | refine jh ?_ | refine ji ?_ | refine jj ?_ | refine jk ?_ | refine jn ?_ | refine jo ?_ | refine jp ?_ | refine jq ?_ | refine jr ?_ | refine js ?_ | refine callK_intro (cC) ?_ | refine callK_intro (cF) ?_ | refine callK_intro (c_upTo _ _) ?_ | refine callK_intro (ce1) ?_ | refine callK_intro (ce2) ?_ | refine callK_intro (cK) ?_ | assumption | refine jt ?_ | refine jx ?_ | refine jy ?_ | refine ju ?_ | refine jv ?_)) <;> (try (conv => whnf))
  obtain ⟨v1, v2, k1, k2, ⟨i, i1, i2⟩, ⟨j, j1, j2⟩⟩ := at' h0 h1 h2 h3
  obtain ⟨e1, e2, e3, e4, e5, n1, n2, n3, n4, n5⟩ := st h0 h1 h2 h3 h4 h5 h6
  rw [ok h0 h1 h2 h3 h4 h5 h6]
  have ce1 := c_earliest (if 4294967295 < now + sec then 4294967295 else now + sec) (fiCu ⟨r, l, c1, c2, c3, s1, s2, s3, now, sec, ad, k⟩).ex
  have ce2 := c_earliest (leS (if 4294967295 < now + sec then 4294967295 else now + sec) (fiCu ⟨r, l, c1, c2, c3, s1, s2, s3, now, sec, ad, k⟩).ex) (fiSu ⟨r, l, c1, c2, c3, s1, s2, s3, now, sec, ad, k⟩).ex
  rw [← hE] at ce2
  have kc := keyOk_range k1
  have ks := keyOk_range k2
  rw [f3 h1 h2 h3] at cF
  dsimp only at cF
  have cS := c_seal5 c1 c2 c3 s1 s2 s3 k now (fiE ⟨r, l, c1, c2, c3, s1, s2, s3, now, sec, ad, k⟩) ad (fiSu ⟨r, l, c1, c2, c3, s1, s2, s3, now, sec, ad, k⟩).k (fiCu ⟨r, l, c1, c2, c3, s1, s2, s3, now, sec, ad, k⟩).k hlen hk ks kc e1 e2 e3 e4 e5 ⟨by omega, by omega, by omega, by omega⟩
  have cT := c_Tgs r r
  clear o0 o1 o2 o3 o4 o5 o6 ok st at' eU eS hE f0 f1 f2 f3 e1 e2 e3 e4 e5 n1 n2 n3 n4 n5 i1 i2 j1 j2
  generalize fiE ⟨r, l, c1, c2, c3, s1, s2, s3, now, sec, ad, k⟩ = E at *
  generalize fiSl ⟨r, l, c1, c2, c3, s1, s2, s3, now, sec, ad, k⟩ = SL at *
  generalize fiMsg ⟨r, l, c1, c2, c3, s1, s2, s3, now, sec, ad, k⟩ = MG at *
  generalize fiCu ⟨r, l, c1, c2, c3, s1, s2, s3, now, sec, ad, k⟩ = CU at *
  generalize fiSu ⟨r, l, c1, c2, c3, s1, s2, s3, now, sec, ad, k⟩ = SU at *
  generalize dbU c1 c2 l now (bitOn 1) 1 5 = U at *
  generalize dbU s1 s2 l now (bitOn 2) 2 6 = S at *
  generalize dbC r l = DC at *
  generalize classS k = CK at *
  (repeat' ((conv => whnf) <;> first | exact rfl | with_reducible refine boolK_dec (fun _ => ?_) (fun _ => ?_) <;> try (exfalso; omega) | refine boolK_beq (fun _ => ?_) (fun _ => ?_) <;> try (exfalso; first | omega | with_reducible contradiction) | refine boolK_bne (fun _ => ?_) (fun _ => ?_) <;> try (exfalso; first | omega | with_reducible contradiction) | (with_reducible first | refine boolK_not ?_ | refine boolK_and ?_ | refine boolK_or ?_ | refine boolK_true ?_ | refine boolK_false ?_) | refine boolK_intro (fun _ => ?_) (fun _ => ?_) <;> try (exfalso; simp_all; done) | refine jA ?_ | refine jB ?_ | refine jH ?_ | refine jI ?_ | refine jJ ?_ | refine jK ?_ | with_reducible refine natK_lit ?_ | refine natK_of rfl ?_ | refine natK_any ?_ | refine jP ?_ | refine jQ ?_ | refine jR ?_ | refine jS ?_ | refine jT ?_ | refine jU (fun _ => ?_) | refine jV ?_ | refine jW ?_ | refine jX ?_ | refine jY ?_ | refine jZ ?_ | refine ja ?_ | refine jb ?_ | refine jc ?_ | refine jd ?_ | refine je ?_ | refine jf ?_ | refine jg ?_ | refine jh ?_ | refine ji ?_ | refine jj ?_ | refine jk ?_ | refine jn ?_ | refine jo ?_ | refine jp ?_ | refine jq ?_ | refine jr ?_ | refine js ?_ | refine callK_intro (cC) ?_ | refine callK_intro (cF) ?_ | refine callK_intro (c_upTo _ _) ?_ | refine callK_intro (ce1) ?_ | refine callK_intro (ce2) ?_ | refine callK_intro (cK) ?_ | refine callK_intro (cS) ?_ | refine callK_intro (cT) ?_ | refine jt ?_ | refine jx ?_ | refine jy ?_ | refine ju ?_ | refine sideK_intro (by first | (exact ⟨rfl, rfl, rfl⟩)) ?_ | refine jv ?_)) <;> (try (conv => whnf))
end Go.Sx

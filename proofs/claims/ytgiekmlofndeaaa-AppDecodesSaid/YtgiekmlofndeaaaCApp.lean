/-
  Contracts of the functions of package appmessage and of its reference.
-/
import Derived.Test.YtgiekmlofndeaaaPApp
import Derived.Test.YtgiekmlofndeaaaCFieldP
import Derived.Test.YtgiekmlofndeaaaCHeader
set_option linter.all false
namespace Go.Sx
open Go.Proofs Go.RowKit
noncomputable def g96 : Par := par 12 (nthLL [[0, 1], [4]]) [4] (nthLL [])
noncomputable def g55 : Par := par 12 (nthLL [[0, 1], [4]]) [4] (nthLL [])
noncomputable def g51 : Par := par 58 (nthLL [[1], [1, 6], [2, 3], [1, 11], [2, 3], [1, 16], [2, 3], [1, 4], [1, 4, 28], [1, 4], [1, 5], [1, 5], [1, 5], [1, 5], [1, 5], [2, 3]]) [2, 3] (nthLL [])
noncomputable def g19 : Par := par 53 (nthLL [[1], [1, 9], [2, 3], [1, 13], [2, 3], [1, 23], [2, 3], [1, 4], [1, 4, 25], [1, 4], [1, 5], [1, 5], [1, 5], [2, 3]]) [2, 3, 5] (nthLL [[], [], [], [], [], [], [], [], [], [], [0, 0, 2, 7, 0, 16, 63, 127], [], [0, 0, 2, 6, 15, 0, 32, 96, 255, 511], [0, 0, 2, 7, 0, 16, 63, 127, 255]])
noncomputable def g74 : Par := par 60 (nthLL [[1], [1, 8], [2, 3], [1, 4, 5], [1, 4, 5, 15], [2, 3], [1, 4, 19], [2, 3], [1, 4, 30], [2, 3], [1, 4], [1, 4], [1, 4], [2, 3]]) [2, 3, 5] (nthLL [])
noncomputable def g20 : Par := par 55 (nthLL [[1], [1, 8], [2, 3], [1, 4, 5], [1, 4, 5, 16], [2, 3], [1, 4, 27], [2, 3], [1, 4, 37], [2, 3], [1, 4], [2, 3]]) [2, 3, 5] (nthLL [[], [], [], [], [], [], [], [], [], [], [0, 0, 2, 0, 8, 24, 63, 0, 128, 511, 1023], [0, 0, 2, 7, 0, 16, 63, 127, 255]])
noncomputable def g50 : Par := par 43 (nthLL [[1, 2], [1, 2, 23], [4, 5], [1, 2, 6], [1, 2, 6, 24], [1, 2, 6], [1, 2, 7], [1, 2, 7], [1, 2, 7], [7], [4, 5]]) [4, 5] (nthLL [])
noncomputable def g21 : Par := par 39 (nthLL [[1, 2], [1, 2, 22], [4, 5], [1, 2, 6], [1, 2, 6], [4, 5]]) [4, 5] (nthLL [[], [], [], [0, 1, 0, 4, 0, 31, 63]])
noncomputable def g80 : Par := par 21 (nthLL [[0, 1], [0, 1, 9], [4, 5], [0, 1, 6], [0, 6], [4, 5]]) [4, 5] (nthLL [])
noncomputable def g22 : Par := par 19 (nthLL [[0, 1], [0, 1, 9], [4, 5], [0, 6], [4, 5]]) [4, 5, 6] (nthLL [])
set_option maxRecDepth 10000
set_option maxHeartbeats 4000000
theorem c_withinM (n m : Int) : Fn Try.prog 96 [.o (.i .i64 n), .o (.i .i64 m)] [] (.one (.c (.o (.b (decide (0 ≤ n ∧ n ≤ m)))))) [] := by
  refine Fn_intro (G := g96) (goodA rfl) (fn := Try.f96) rfl rfl rfl rfl rfl ?_
  (repeat' ((conv => whnf) <;> first | exact rfl | with_reducible refine boolK_dec (fun _ => ?_) (fun _ => ?_) <;> try (exfalso; omega) | refine boolK_beq (fun _ => ?_) (fun _ => ?_) <;> try (exfalso; first | omega | contradiction) | refine boolK_bne (fun _ => ?_) (fun _ => ?_) <;> try (exfalso; first | omega | contradiction) | (with_reducible first | refine boolK_not ?_ | refine boolK_and ?_ | refine boolK_or ?_ | refine boolK_true ?_ | refine boolK_false ?_) | refine boolK_intro (fun _ => ?_) (fun _ => ?_) <;> try (exfalso; simp_all; done) | with_reducible refine natK_lit ?_ | refine natK_of rfl ?_ | refine natK_any ?_ | refine jP ?_ | refine jQ ?_ | refine jR ?_ | refine jS ?_ | refine jT ?_ | refine jU (fun _ => ?_) | refine jV ?_ | refine jW ?_ | refine jX ?_ | refine jY ?_ | refine jZ ?_ | refine ja ?_ | refine jb ?_ | refine jc ?_ | refine jd ?_ | refine je ?_ | refine jf ?_ | refine jg ?_ | refine jh ?_ | refine ji ?_ | refine jj ?_ | refine jk ?_ | refine jn ?_ | refine jo ?_ | refine jp ?_ | refine jq ?_ | refine jr ?_ | refine js ?_ | refine jt ?_ | refine jx ?_ | refine jy ?_ | refine ju ?_ | refine sideK_intro (by first | (exact congrArg (fun x => [L.b x]) (decide_eq_decide.mpr (by omega))) | (exact congrArg (fun x => [L.b x]) (Eq.symm (decide_eq_true (by omega)))) | (exact congrArg (fun x => [L.b x]) (Eq.symm (decide_eq_false (by omega))))) ?_ | refine jv ?_)) <;> (try (conv => whnf))
theorem c_rwithinM (n m : Int) : Fn Try.prog 55 [.o (.i .i64 n), .o (.i .i64 m)] [] (.one (.c (.o (.b (decide (0 ≤ n ∧ n ≤ m)))))) [] := by
  refine Fn_intro (G := g55) (goodA rfl) (fn := Try.f55) rfl rfl rfl rfl rfl ?_
  (repeat' ((conv => whnf) <;> first | exact rfl | with_reducible refine boolK_dec (fun _ => ?_) (fun _ => ?_) <;> try (exfalso; omega) | refine boolK_beq (fun _ => ?_) (fun _ => ?_) <;> try (exfalso; first | omega | contradiction) | refine boolK_bne (fun _ => ?_) (fun _ => ?_) <;> try (exfalso; first | omega | contradiction) | (with_reducible first | refine boolK_not ?_ | refine boolK_and ?_ | refine boolK_or ?_ | refine boolK_true ?_ | refine boolK_false ?_) | refine boolK_intro (fun _ => ?_) (fun _ => ?_) <;> try (exfalso; simp_all; done) | with_reducible refine natK_lit ?_ | refine natK_of rfl ?_ | refine natK_any ?_ | refine jP ?_ | refine jQ ?_ | refine jR ?_ | refine jS ?_ | refine jT ?_ | refine jU (fun _ => ?_) | refine jV ?_ | refine jW ?_ | refine jX ?_ | refine jY ?_ | refine jZ ?_ | refine ja ?_ | refine jb ?_ | refine jc ?_ | refine jd ?_ | refine je ?_ | refine jf ?_ | refine jg ?_ | refine jh ?_ | refine ji ?_ | refine jj ?_ | refine jk ?_ | refine jn ?_ | refine jo ?_ | refine jp ?_ | refine jq ?_ | refine jr ?_ | refine js ?_ | refine jt ?_ | refine jx ?_ | refine jy ?_ | refine ju ?_ | refine sideK_intro (by first | (exact congrArg (fun x => [L.b x]) (decide_eq_decide.mpr (by omega))) | (exact congrArg (fun x => [L.b x]) (Eq.symm (decide_eq_true (by omega)))) | (exact congrArg (fun x => [L.b x]) (Eq.symm (decide_eq_false (by omega))))) ?_ | refine jv ?_)) <;> (try (conv => whnf))
theorem c_EncodeAp (li mu : Bool) (kv : Int) (re t u : List UInt8) (hre : re.length ≤ 100000) (ht : t.length ≤ 100000) (hu : u.length ≤ 100000) : Fn Try.prog 51 [.a [.b li, .b mu, .i .i64 kv, .s re, .sl (t.map u8) t.length, .sl (u.map u8) u.length]] [] (.tup [.fr ((apN (li, mu, kv, re, t, u)).1.map u8) (apN (li, mu, kv, re, t, u)).1.length 1, .c (.o (.i .i64 (apN (li, mu, kv, re, t, u)).2))]) [] := by
  have cV := c_ValidRealm re (by omega)
  refine Fn_intro (G := g51) (goodA rfl) (fn := Try.f51) rfl rfl rfl rfl rfl ?_
  by_cases hc : apC kv re t u = 0
  · obtain ⟨h1, h2, h3, h4⟩ := apC_ok hc
    have hB := apB_len li mu kv re t u
    rw [apN_ok hc]
    rw [h1] at cV
    clear hc h1
    cases mu
    · have q0 : (putS 3 li).length = 2 := by rw [putS_yes (by decide) (by decide)]; rfl
      have p1 := c_PutOctet (putS 3 li) (m := (putS 3 li).length) rfl (by omega) kv
      obtain ⟨pb1, pe1⟩ : ∃ x, x = (putS 3 li) ++ numS false 1 kv := ⟨_, rfl⟩
      rw [← pe1] at p1
      have ph1 : (putS 3 li).length + 1 = pb1.length := by rw [pe1]; simp only [List.length_append, numS_len, List.length_cons, List.length_nil]
      have p2 := c_PutText pb1 (m := (putS 3 li).length + 1) ph1 re (by omega)
      obtain ⟨pb2, pe2⟩ : ∃ x, x = pb1 ++ re ++ [0] := ⟨_, rfl⟩
      rw [← pe2] at p2
      have ph2 : pb1.length + re.length + 1 = pb2.length := by rw [pe2]; simp only [List.length_append, numS_len, List.length_cons, List.length_nil]; try omega
      have p3 := c_PutOctet pb2 (m := pb1.length + re.length + 1) ph2 (by omega) (t.length : Int)
      obtain ⟨pb3, pe3⟩ : ∃ x, x = pb2 ++ numS false 1 (t.length : Int) := ⟨_, rfl⟩
      rw [← pe3] at p3
      have ph3 : pb2.length + 1 = pb3.length := by rw [pe3]; simp only [List.length_append, numS_len, List.length_cons, List.length_nil]
      have p4 := c_PutOctet pb3 (m := pb2.length + 1) ph3 (by omega) (u.length : Int)
      obtain ⟨pb4, pe4⟩ : ∃ x, x = pb3 ++ numS false 1 (u.length : Int) := ⟨_, rfl⟩
      rw [← pe4] at p4
      have ph4 : pb3.length + 1 = pb4.length := by rw [pe4]; simp only [List.length_append, numS_len, List.length_cons, List.length_nil]
      have fin : apB li false kv re t u = pb4 ++ t ++ u := by rw [pe4, pe3, pe2, pe1]; rfl
      rw [fin]
      rw [fin] at hB
      clear fin
      clear pe4 pe3 pe2 pe1
      (repeat' ((conv => whnf) <;> first | exact rfl | with_reducible refine boolK_dec (fun _ => ?_) (fun _ => ?_) <;> try (exfalso; omega) | refine boolK_beq (fun _ => ?_) (fun _ => ?_) <;> try (exfalso; first | omega | contradiction) | refine boolK_bne (fun _ => ?_) (fun _ => ?_) <;> try (exfalso; first | omega | contradiction) | (with_reducible first | refine boolK_not ?_ | refine boolK_and ?_ | refine boolK_or ?_ | refine boolK_true ?_ | refine boolK_false ?_) | refine boolK_intro (fun _ => ?_) (fun _ => ?_) <;> try (exfalso; simp_all; done) | with_reducible refine natK_lit ?_ | refine natK_of rfl ?_ | refine natK_any ?_ | refine jP ?_ | refine jQ ?_ | refine jR ?_ | refine jS ?_ | refine jT ?_ | refine jU (fun _ => ?_) | refine jV ?_ | refine jW ?_ | refine jX ?_ | refine jY ?_ | refine jZ ?_ | refine ja ?_ | refine jb ?_ | refine jc ?_ | refine jd ?_ | refine je ?_ | refine jf ?_ | refine jg ?_ | refine jh ?_ | refine ji ?_ | refine jj ?_ | refine jk ?_ | refine jn ?_ | refine jo ?_ | refine jp ?_ | refine jq ?_ | refine jr ?_ | refine js ?_ | refine callK_intro (cV) ?_ | refine callK_intro (c_withinM _ _) ?_ | refine callK_intro (c_put 3 li) ?_ | refine callK_intro (p1) ?_ | refine callK_intro (p2) ?_ | refine callK_intro (p3) ?_ | refine callK_intro (p4) ?_ | refine callK_intro (c_concat3 pb4 t u (m := pb3.length + 1) ph4 rfl rfl (by omega)) ?_ | refine jt ?_ | refine jx ?_ | refine jy ?_ | refine ju ?_ | refine sideK_intro (by first | (exact ⟨rfl, by simp; try omega, rfl⟩)) ?_ | refine jv ?_)) <;> (try (conv => whnf))
    · have q0 : (putS 4 li).length = 2 := by rw [putS_yes (by decide) (by decide)]; rfl
      have p1 := c_PutOctet (putS 4 li) (m := (putS 4 li).length) rfl (by omega) kv
      obtain ⟨pb1, pe1⟩ : ∃ x, x = (putS 4 li) ++ numS false 1 kv := ⟨_, rfl⟩
      rw [← pe1] at p1
      have ph1 : (putS 4 li).length + 1 = pb1.length := by rw [pe1]; simp only [List.length_append, numS_len, List.length_cons, List.length_nil]
      have p2 := c_PutText pb1 (m := (putS 4 li).length + 1) ph1 re (by omega)
      obtain ⟨pb2, pe2⟩ : ∃ x, x = pb1 ++ re ++ [0] := ⟨_, rfl⟩
      rw [← pe2] at p2
      have ph2 : pb1.length + re.length + 1 = pb2.length := by rw [pe2]; simp only [List.length_append, numS_len, List.length_cons, List.length_nil]; try omega
      have p3 := c_PutOctet pb2 (m := pb1.length + re.length + 1) ph2 (by omega) (t.length : Int)
      obtain ⟨pb3, pe3⟩ : ∃ x, x = pb2 ++ numS false 1 (t.length : Int) := ⟨_, rfl⟩
      rw [← pe3] at p3
      have ph3 : pb2.length + 1 = pb3.length := by rw [pe3]; simp only [List.length_append, numS_len, List.length_cons, List.length_nil]
      have p4 := c_PutOctet pb3 (m := pb2.length + 1) ph3 (by omega) (u.length : Int)
      obtain ⟨pb4, pe4⟩ : ∃ x, x = pb3 ++ numS false 1 (u.length : Int) := ⟨_, rfl⟩
      rw [← pe4] at p4
      have ph4 : pb3.length + 1 = pb4.length := by rw [pe4]; simp only [List.length_append, numS_len, List.length_cons, List.length_nil]
      have fin : apB li true kv re t u = pb4 ++ t ++ u := by rw [pe4, pe3, pe2, pe1]; rfl
      rw [fin]
      rw [fin] at hB
      clear fin
      clear pe4 pe3 pe2 pe1
      (repeat' ((conv => whnf) <;> first | exact rfl | with_reducible refine boolK_dec (fun _ => ?_) (fun _ => ?_) <;> try (exfalso; omega) | refine boolK_beq (fun _ => ?_) (fun _ => ?_) <;> try (exfalso; first | omega | contradiction) | refine boolK_bne (fun _ => ?_) (fun _ => ?_) <;> try (exfalso; first | omega | contradiction) | (with_reducible first | refine boolK_not ?_ | refine boolK_and ?_ | refine boolK_or ?_ | refine boolK_true ?_ | refine boolK_false ?_) | refine boolK_intro (fun _ => ?_) (fun _ => ?_) <;> try (exfalso; simp_all; done) | with_reducible refine natK_lit ?_ | refine natK_of rfl ?_ | refine natK_any ?_ | refine jP ?_ | refine jQ ?_ | refine jR ?_ | refine jS ?_ | refine jT ?_ | refine jU (fun _ => ?_) | refine jV ?_ | refine jW ?_ | refine jX ?_ | refine jY ?_ | refine jZ ?_ | refine ja ?_ | refine jb ?_ | refine jc ?_ | refine jd ?_ | refine je ?_ | refine jf ?_ | refine jg ?_ | refine jh ?_ | refine ji ?_ | refine jj ?_ | refine jk ?_ | refine jn ?_ | refine jo ?_ | refine jp ?_ | refine jq ?_ | refine jr ?_ | refine js ?_ | refine callK_intro (cV) ?_ | refine callK_intro (c_withinM _ _) ?_ | refine callK_intro (c_put 4 li) ?_ | refine callK_intro (p1) ?_ | refine callK_intro (p2) ?_ | refine callK_intro (p3) ?_ | refine callK_intro (p4) ?_ | refine callK_intro (c_concat3 pb4 t u (m := pb3.length + 1) ph4 rfl rfl (by omega)) ?_ | refine jt ?_ | refine jx ?_ | refine jy ?_ | refine ju ?_ | refine sideK_intro (by first | (exact ⟨rfl, by simp; try omega, rfl⟩)) ?_ | refine jv ?_)) <;> (try (conv => whnf))
  · rw [apN_no hc]
    have e3 := @apC_3 kv re t u
    have e4 := @apC_4 kv re t u
    have e5 := @apC_5 kv re t u
    have e0 := @apC_0 kv re t u
    generalize apC kv re t u = Z at *
    have hex : realmS re = true → (0 ≤ kv ∧ kv ≤ 255) → t.length ≤ 255 → u.length ≤ 255 → False := fun a1 a2 a3 a4 => hc (e0 a1 a2 ⟨a3, a4⟩)
    clear e0 hc
    cases hv : realmS re
    · have := e3 hv
      subst this
      rw [hv] at cV
      (repeat' ((conv => whnf) <;> first | exact rfl | with_reducible refine boolK_dec (fun _ => ?_) (fun _ => ?_) <;> try (exfalso; omega) | refine boolK_beq (fun _ => ?_) (fun _ => ?_) <;> try (exfalso; first | omega | contradiction) | refine boolK_bne (fun _ => ?_) (fun _ => ?_) <;> try (exfalso; first | omega | contradiction) | (with_reducible first | refine boolK_not ?_ | refine boolK_and ?_ | refine boolK_or ?_ | refine boolK_true ?_ | refine boolK_false ?_) | refine boolK_intro (fun _ => ?_) (fun _ => ?_) <;> try (exfalso; simp_all; done) | with_reducible refine natK_lit ?_ | refine natK_of rfl ?_ | refine natK_any ?_ | refine jP ?_ | refine jQ ?_ | refine jR ?_ | refine jS ?_ | refine jT ?_ | refine jU (fun _ => ?_) | refine jV ?_ | refine jW ?_ | refine jX ?_ | refine jY ?_ | refine jZ ?_ | refine ja ?_ | refine jb ?_ | refine jc ?_ | refine jd ?_ | refine je ?_ | refine jf ?_ | refine jg ?_ | refine jh ?_ | refine ji ?_ | refine jj ?_ | refine jk ?_ | refine jn ?_ | refine jo ?_ | refine jp ?_ | refine jq ?_ | refine jr ?_ | refine js ?_ | refine callK_intro (cV) ?_ | refine jt ?_ | refine jx ?_ | refine jy ?_ | refine ju ?_ | refine jv ?_)) <;> (try (conv => whnf))
    · rw [hv] at cV
      have hex := hex hv
      have e4 := e4 hv
      have e5 := e5 hv
      clear e3 hv
      by_cases hk : 0 ≤ kv ∧ kv ≤ 255
      · have : ¬ (t.length ≤ 255 ∧ u.length ≤ 255) := fun h => hex hk h.1 h.2
        have := e5 hk this
        subst this
        clear e4 e5 hex
        (repeat' ((conv => whnf) <;> first | exact rfl | with_reducible refine boolK_dec (fun _ => ?_) (fun _ => ?_) <;> try (exfalso; omega) | refine boolK_beq (fun _ => ?_) (fun _ => ?_) <;> try (exfalso; first | omega | contradiction) | refine boolK_bne (fun _ => ?_) (fun _ => ?_) <;> try (exfalso; first | omega | contradiction) | (with_reducible first | refine boolK_not ?_ | refine boolK_and ?_ | refine boolK_or ?_ | refine boolK_true ?_ | refine boolK_false ?_) | refine boolK_intro (fun _ => ?_) (fun _ => ?_) <;> try (exfalso; simp_all; done) | with_reducible refine natK_lit ?_ | refine natK_of rfl ?_ | refine natK_any ?_ | refine jP ?_ | refine jQ ?_ | refine jR ?_ | refine jS ?_ | refine jT ?_ | refine jU (fun _ => ?_) | refine jV ?_ | refine jW ?_ | refine jX ?_ | refine jY ?_ | refine jZ ?_ | refine ja ?_ | refine jb ?_ | refine jc ?_ | refine jd ?_ | refine je ?_ | refine jf ?_ | refine jg ?_ | refine jh ?_ | refine ji ?_ | refine jj ?_ | refine jk ?_ | refine jn ?_ | refine jo ?_ | refine jp ?_ | refine jq ?_ | refine jr ?_ | refine js ?_ | refine callK_intro (cV) ?_ | refine callK_intro (c_withinM _ _) ?_ | refine jt ?_ | refine jx ?_ | refine jy ?_ | refine ju ?_ | refine jv ?_)) <;> (try (conv => whnf))
      · have := e4 hk
        subst this
        clear e4 e5 hex
        (repeat' ((conv => whnf) <;> first | exact rfl | with_reducible refine boolK_dec (fun _ => ?_) (fun _ => ?_) <;> try (exfalso; omega) | refine boolK_beq (fun _ => ?_) (fun _ => ?_) <;> try (exfalso; first | omega | contradiction) | refine boolK_bne (fun _ => ?_) (fun _ => ?_) <;> try (exfalso; first | omega | contradiction) | (with_reducible first | refine boolK_not ?_ | refine boolK_and ?_ | refine boolK_or ?_ | refine boolK_true ?_ | refine boolK_false ?_) | refine boolK_intro (fun _ => ?_) (fun _ => ?_) <;> try (exfalso; simp_all; done) | with_reducible refine natK_lit ?_ | refine natK_of rfl ?_ | refine natK_any ?_ | refine jP ?_ | refine jQ ?_ | refine jR ?_ | refine jS ?_ | refine jT ?_ | refine jU (fun _ => ?_) | refine jV ?_ | refine jW ?_ | refine jX ?_ | refine jY ?_ | refine jZ ?_ | refine ja ?_ | refine jb ?_ | refine jc ?_ | refine jd ?_ | refine je ?_ | refine jf ?_ | refine jg ?_ | refine jh ?_ | refine ji ?_ | refine jj ?_ | refine jk ?_ | refine jn ?_ | refine jo ?_ | refine jp ?_ | refine jq ?_ | refine jr ?_ | refine js ?_ | refine callK_intro (cV) ?_ | refine callK_intro (c_withinM _ _) ?_ | refine jt ?_ | refine jx ?_ | refine jy ?_ | refine ju ?_ | refine jv ?_)) <;> (try (conv => whnf))
theorem c_rEncodeAp (li mu : Bool) (kv : Int) (re t u : List UInt8) (hre : re.length ≤ 100000) (ht : t.length ≤ 100000) (hu : u.length ≤ 100000) : Fn Try.prog 19 [.a [.b li, .b mu, .i .i64 kv, .s re, .sl (t.map u8) t.length, .sl (u.map u8) u.length]] [] (.tup [.fr ((apN (li, mu, kv, re, t, u)).1.map u8) (apN (li, mu, kv, re, t, u)).1.length 1, .c (.o (.i .i64 (apN (li, mu, kv, re, t, u)).2))]) [] := by
  have cV := c_rValidRealm re (by omega)
  refine Fn_intro (G := g19) (goodA rfl) (fn := Try.f19) rfl rfl rfl rfl rfl ?_
  by_cases hc : apC kv re t u = 0
  · obtain ⟨h1, h2, h3, h4⟩ := apC_ok hc
    have hB := apB_len li mu kv re t u
    rw [apN_ok hc]
    rw [h1] at cV
    clear hc h1
    cases mu
    · have q0 : (putS 3 li).length = 2 := by rw [putS_yes (by decide) (by decide)]; rfl
      have p1 := c_rPutOctet (putS 3 li) (m := (putS 3 li).length) rfl (by omega) kv
      obtain ⟨pb1, pe1⟩ : ∃ x, x = (putS 3 li) ++ numS false 1 kv := ⟨_, rfl⟩
      rw [← pe1] at p1
      have ph1 : (putS 3 li).length + 1 = pb1.length := by rw [pe1]; simp only [List.length_append, numS_len, List.length_cons, List.length_nil]
      have p2 := c_rPutText pb1 (m := (putS 3 li).length + 1) ph1 re (by omega)
      obtain ⟨pb2, pe2⟩ : ∃ x, x = pb1 ++ re ++ [0] := ⟨_, rfl⟩
      rw [← pe2] at p2
      have ph2 : pb1.length + re.length + 1 = pb2.length := by rw [pe2]; simp only [List.length_append, numS_len, List.length_cons, List.length_nil]; try omega
      have p3 := c_rPutOctet pb2 (m := pb1.length + re.length + 1) ph2 (by omega) (t.length : Int)
      obtain ⟨pb3, pe3⟩ : ∃ x, x = pb2 ++ numS false 1 (t.length : Int) := ⟨_, rfl⟩
      rw [← pe3] at p3
      have ph3 : pb2.length + 1 = pb3.length := by rw [pe3]; simp only [List.length_append, numS_len, List.length_cons, List.length_nil]
      have p4 := c_rPutOctet pb3 (m := pb2.length + 1) ph3 (by omega) (u.length : Int)
      obtain ⟨pb4, pe4⟩ : ∃ x, x = pb3 ++ numS false 1 (u.length : Int) := ⟨_, rfl⟩
      rw [← pe4] at p4
      have ph4 : pb3.length + 1 = pb4.length := by rw [pe4]; simp only [List.length_append, numS_len, List.length_cons, List.length_nil]
      have fin : apB li false kv re t u = pb4 ++ t ++ u := by rw [pe4, pe3, pe2, pe1]; rfl
      rw [fin]
      rw [fin] at hB
      clear fin
      clear pe4 pe3 pe2 pe1
      (repeat' ((conv => whnf) <;> first | exact rfl | with_reducible refine boolK_dec (fun _ => ?_) (fun _ => ?_) <;> try (exfalso; omega) | refine boolK_beq (fun _ => ?_) (fun _ => ?_) <;> try (exfalso; first | omega | contradiction) | refine boolK_bne (fun _ => ?_) (fun _ => ?_) <;> try (exfalso; first | omega | contradiction) | (with_reducible first | refine boolK_not ?_ | refine boolK_and ?_ | refine boolK_or ?_ | refine boolK_true ?_ | refine boolK_false ?_) | refine boolK_intro (fun _ => ?_) (fun _ => ?_) <;> try (exfalso; simp_all; done) | with_reducible refine natK_lit ?_ | refine natK_of rfl ?_ | refine natK_any ?_ | refine jP ?_ | refine jQ ?_ | refine jR ?_ | refine jS ?_ | refine jT ?_ | refine jU (fun _ => ?_) | refine jV ?_ | refine jW ?_ | refine jX ?_ | refine jY ?_ | refine jZ ?_ | refine ja ?_ | refine jb ?_ | refine jc ?_ | refine jd ?_ | refine je ?_ | refine jf ?_ | refine jg ?_ | refine jh ?_ | refine ji ?_ | refine jj ?_ | refine jk ?_ | refine jn ?_ | refine jo ?_ | refine jp ?_ | refine jq ?_ | refine jr ?_ | refine js ?_ | refine callK_intro (cV) ?_ | refine callK_intro (c_rwithinM _ _) ?_ | refine callK_intro (c_rput 3 li) ?_ | refine callK_intro (p1) ?_ | refine callK_intro (p2) ?_ | refine callK_intro (p3) ?_ | refine callK_intro (p4) ?_ | refine jt ?_ | refine jx ?_ | refine jy ?_ | refine ju ?_ | refine sideK_intro (by first | (exact ⟨rfl, by simp; try omega, rfl⟩)) ?_ | refine jv ?_)) <;> (try (conv => whnf))
    · have q0 : (putS 4 li).length = 2 := by rw [putS_yes (by decide) (by decide)]; rfl
      have p1 := c_rPutOctet (putS 4 li) (m := (putS 4 li).length) rfl (by omega) kv
      obtain ⟨pb1, pe1⟩ : ∃ x, x = (putS 4 li) ++ numS false 1 kv := ⟨_, rfl⟩
      rw [← pe1] at p1
      have ph1 : (putS 4 li).length + 1 = pb1.length := by rw [pe1]; simp only [List.length_append, numS_len, List.length_cons, List.length_nil]
      have p2 := c_rPutText pb1 (m := (putS 4 li).length + 1) ph1 re (by omega)
      obtain ⟨pb2, pe2⟩ : ∃ x, x = pb1 ++ re ++ [0] := ⟨_, rfl⟩
      rw [← pe2] at p2
      have ph2 : pb1.length + re.length + 1 = pb2.length := by rw [pe2]; simp only [List.length_append, numS_len, List.length_cons, List.length_nil]; try omega
      have p3 := c_rPutOctet pb2 (m := pb1.length + re.length + 1) ph2 (by omega) (t.length : Int)
      obtain ⟨pb3, pe3⟩ : ∃ x, x = pb2 ++ numS false 1 (t.length : Int) := ⟨_, rfl⟩
      rw [← pe3] at p3
      have ph3 : pb2.length + 1 = pb3.length := by rw [pe3]; simp only [List.length_append, numS_len, List.length_cons, List.length_nil]
      have p4 := c_rPutOctet pb3 (m := pb2.length + 1) ph3 (by omega) (u.length : Int)
      obtain ⟨pb4, pe4⟩ : ∃ x, x = pb3 ++ numS false 1 (u.length : Int) := ⟨_, rfl⟩
      rw [← pe4] at p4
      have ph4 : pb3.length + 1 = pb4.length := by rw [pe4]; simp only [List.length_append, numS_len, List.length_cons, List.length_nil]
      have fin : apB li true kv re t u = pb4 ++ t ++ u := by rw [pe4, pe3, pe2, pe1]; rfl
      rw [fin]
      rw [fin] at hB
      clear fin
      clear pe4 pe3 pe2 pe1
      (repeat' ((conv => whnf) <;> first | exact rfl | with_reducible refine boolK_dec (fun _ => ?_) (fun _ => ?_) <;> try (exfalso; omega) | refine boolK_beq (fun _ => ?_) (fun _ => ?_) <;> try (exfalso; first | omega | contradiction) | refine boolK_bne (fun _ => ?_) (fun _ => ?_) <;> try (exfalso; first | omega | contradiction) | (with_reducible first | refine boolK_not ?_ | refine boolK_and ?_ | refine boolK_or ?_ | refine boolK_true ?_ | refine boolK_false ?_) | refine boolK_intro (fun _ => ?_) (fun _ => ?_) <;> try (exfalso; simp_all; done) | with_reducible refine natK_lit ?_ | refine natK_of rfl ?_ | refine natK_any ?_ | refine jP ?_ | refine jQ ?_ | refine jR ?_ | refine jS ?_ | refine jT ?_ | refine jU (fun _ => ?_) | refine jV ?_ | refine jW ?_ | refine jX ?_ | refine jY ?_ | refine jZ ?_ | refine ja ?_ | refine jb ?_ | refine jc ?_ | refine jd ?_ | refine je ?_ | refine jf ?_ | refine jg ?_ | refine jh ?_ | refine ji ?_ | refine jj ?_ | refine jk ?_ | refine jn ?_ | refine jo ?_ | refine jp ?_ | refine jq ?_ | refine jr ?_ | refine js ?_ | refine callK_intro (cV) ?_ | refine callK_intro (c_rwithinM _ _) ?_ | refine callK_intro (c_rput 4 li) ?_ | refine callK_intro (p1) ?_ | refine callK_intro (p2) ?_ | refine callK_intro (p3) ?_ | refine callK_intro (p4) ?_ | refine jt ?_ | refine jx ?_ | refine jy ?_ | refine ju ?_ | refine sideK_intro (by first | (exact ⟨rfl, by simp; try omega, rfl⟩)) ?_ | refine jv ?_)) <;> (try (conv => whnf))
  · rw [apN_no hc]
    have e3 := @apC_3 kv re t u
    have e4 := @apC_4 kv re t u
    have e5 := @apC_5 kv re t u
    have e0 := @apC_0 kv re t u
    generalize apC kv re t u = Z at *
    have hex : realmS re = true → (0 ≤ kv ∧ kv ≤ 255) → t.length ≤ 255 → u.length ≤ 255 → False := fun a1 a2 a3 a4 => hc (e0 a1 a2 ⟨a3, a4⟩)
    clear e0 hc
    cases hv : realmS re
    · have := e3 hv
      subst this
      rw [hv] at cV
      (repeat' ((conv => whnf) <;> first | exact rfl | with_reducible refine boolK_dec (fun _ => ?_) (fun _ => ?_) <;> try (exfalso; omega) | refine boolK_beq (fun _ => ?_) (fun _ => ?_) <;> try (exfalso; first | omega | contradiction) | refine boolK_bne (fun _ => ?_) (fun _ => ?_) <;> try (exfalso; first | omega | contradiction) | (with_reducible first | refine boolK_not ?_ | refine boolK_and ?_ | refine boolK_or ?_ | refine boolK_true ?_ | refine boolK_false ?_) | refine boolK_intro (fun _ => ?_) (fun _ => ?_) <;> try (exfalso; simp_all; done) | with_reducible refine natK_lit ?_ | refine natK_of rfl ?_ | refine natK_any ?_ | refine jP ?_ | refine jQ ?_ | refine jR ?_ | refine jS ?_ | refine jT ?_ | refine jU (fun _ => ?_) | refine jV ?_ | refine jW ?_ | refine jX ?_ | refine jY ?_ | refine jZ ?_ | refine ja ?_ | refine jb ?_ | refine jc ?_ | refine jd ?_ | refine je ?_ | refine jf ?_ | refine jg ?_ | refine jh ?_ | refine ji ?_ | refine jj ?_ | refine jk ?_ | refine jn ?_ | refine jo ?_ | refine jp ?_ | refine jq ?_ | refine jr ?_ | refine js ?_ | refine callK_intro (cV) ?_ | refine jt ?_ | refine jx ?_ | refine jy ?_ | refine ju ?_ | refine jv ?_)) <;> (try (conv => whnf))
    · rw [hv] at cV
      have hex := hex hv
      have e4 := e4 hv
      have e5 := e5 hv
      clear e3 hv
      by_cases hk : 0 ≤ kv ∧ kv ≤ 255
      · have : ¬ (t.length ≤ 255 ∧ u.length ≤ 255) := fun h => hex hk h.1 h.2
        have := e5 hk this
        subst this
        clear e4 e5 hex
        (repeat' ((conv => whnf) <;> first | exact rfl | with_reducible refine boolK_dec (fun _ => ?_) (fun _ => ?_) <;> try (exfalso; omega) | refine boolK_beq (fun _ => ?_) (fun _ => ?_) <;> try (exfalso; first | omega | contradiction) | refine boolK_bne (fun _ => ?_) (fun _ => ?_) <;> try (exfalso; first | omega | contradiction) | (with_reducible first | refine boolK_not ?_ | refine boolK_and ?_ | refine boolK_or ?_ | refine boolK_true ?_ | refine boolK_false ?_) | refine boolK_intro (fun _ => ?_) (fun _ => ?_) <;> try (exfalso; simp_all; done) | with_reducible refine natK_lit ?_ | refine natK_of rfl ?_ | refine natK_any ?_ | refine jP ?_ | refine jQ ?_ | refine jR ?_ | refine jS ?_ | refine jT ?_ | refine jU (fun _ => ?_) | refine jV ?_ | refine jW ?_ | refine jX ?_ | refine jY ?_ | refine jZ ?_ | refine ja ?_ | refine jb ?_ | refine jc ?_ | refine jd ?_ | refine je ?_ | refine jf ?_ | refine jg ?_ | refine jh ?_ | refine ji ?_ | refine jj ?_ | refine jk ?_ | refine jn ?_ | refine jo ?_ | refine jp ?_ | refine jq ?_ | refine jr ?_ | refine js ?_ | refine callK_intro (cV) ?_ | refine callK_intro (c_rwithinM _ _) ?_ | refine jt ?_ | refine jx ?_ | refine jy ?_ | refine ju ?_ | refine jv ?_)) <;> (try (conv => whnf))
      · have := e4 hk
        subst this
        clear e4 e5 hex
        (repeat' ((conv => whnf) <;> first | exact rfl | with_reducible refine boolK_dec (fun _ => ?_) (fun _ => ?_) <;> try (exfalso; omega) | refine boolK_beq (fun _ => ?_) (fun _ => ?_) <;> try (exfalso; first | omega | contradiction) | refine boolK_bne (fun _ => ?_) (fun _ => ?_) <;> try (exfalso; first | omega | contradiction) | (with_reducible first | refine boolK_not ?_ | refine boolK_and ?_ | refine boolK_or ?_ | refine boolK_true ?_ | refine boolK_false ?_) | refine boolK_intro (fun _ => ?_) (fun _ => ?_) <;> try (exfalso; simp_all; done) | with_reducible refine natK_lit ?_ | refine natK_of rfl ?_ | refine natK_any ?_ | refine jP ?_ | refine jQ ?_ | refine jR ?_ | refine jS ?_ | refine jT ?_ | refine jU (fun _ => ?_) | refine jV ?_ | refine jW ?_ | refine jX ?_ | refine jY ?_ | refine jZ ?_ | refine ja ?_ | refine jb ?_ | refine jc ?_ | refine jd ?_ | refine je ?_ | refine jf ?_ | refine jg ?_ | refine jh ?_ | refine ji ?_ | refine jj ?_ | refine jk ?_ | refine jn ?_ | refine jo ?_ | refine jp ?_ | refine jq ?_ | refine jr ?_ | refine js ?_ | refine callK_intro (cV) ?_ | refine callK_intro (c_rwithinM _ _) ?_ | refine jt ?_ | refine jx ?_ | refine jy ?_ | refine ju ?_ | refine jv ?_)) <;> (try (conv => whnf))
theorem c_EncodeTgs (li mu : Bool) (kv tm lf : Int) (re t u sv si : List UInt8) (hre : re.length ≤ 100000) (ht : t.length ≤ 100000) (hu : u.length ≤ 100000) (hsv : sv.length ≤ 100000) (hsi : si.length ≤ 100000) : Fn Try.prog 74 [.a [.b li, .b mu, .i .i64 kv, .s re, .sl (t.map u8) t.length, .sl (u.map u8) u.length, .i .i64 tm, .i .i64 lf, .s sv, .s si]] [] (.tup [.fr ((tgN ((li, mu, kv, re, t, u), tm, lf, sv, si)).1.map u8) (tgN ((li, mu, kv, re, t, u), tm, lf, sv, si)).1.length 1, .c (.o (.i .i64 (tgN ((li, mu, kv, re, t, u), tm, lf, sv, si)).2))]) [] := by
  have cE := c_EncodeAp li mu kv re t u hre ht hu
  have cN := c_ValidName sv (by omega)
  have cI := c_ValidInstance si (by omega)
  refine Fn_intro (G := g74) (goodA rfl) (fn := Try.f74) rfl rfl rfl rfl rfl ?_
  by_cases hc : tgC mu kv re t u tm lf sv si = 0
  · rw [tgN_ok hc]
    obtain ⟨h1, h2, h3, h4, h5, h6⟩ := tgC_ok hc
    have hA := apB_len li mu kv re t u
    obtain ⟨_, _, hA2, hA3⟩ := apC_ok h2
    rw [apN_ok h2] at cE
    rw [h3] at cN
    rw [h4] at cI
    subst h1
    have hB : tgB li false kv re t u tm lf sv si = apB li false kv re t u ++ numS li 4 tm ++ numS false 1 lf ++ sv ++ [0] ++ si ++ [0] := rfl
    clear hc h2 h3 h4
    dsimp only at cE
    generalize apB li false kv re t u = A at *
    have p1 := c_PutNumber A (m := A.length) rfl (by omega) tm li
    obtain ⟨pb1, pe1⟩ : ∃ x, x = A ++ numS li 4 tm := ⟨_, rfl⟩
    rw [← pe1] at p1
    have ph1 : A.length + 4 = pb1.length := by rw [pe1]; simp only [List.length_append, numS_len, List.length_cons, List.length_nil]
    have p2 := c_PutOctet pb1 (m := A.length + 4) ph1 (by omega) lf
    obtain ⟨pb2, pe2⟩ : ∃ x, x = pb1 ++ numS false 1 lf := ⟨_, rfl⟩
    rw [← pe2] at p2
    have ph2 : pb1.length + 1 = pb2.length := by rw [pe2]; simp only [List.length_append, numS_len, List.length_cons, List.length_nil]
    have p3 := c_PutText pb2 (m := pb1.length + 1) ph2 sv (by omega)
    obtain ⟨pb3, pe3⟩ : ∃ x, x = pb2 ++ sv ++ [0] := ⟨_, rfl⟩
    rw [← pe3] at p3
    have ph3 : pb2.length + sv.length + 1 = pb3.length := by rw [pe3]; simp only [List.length_append, numS_len, List.length_cons, List.length_nil]; try omega
    have p4 := c_PutText pb3 (m := pb2.length + sv.length + 1) ph3 si (by omega)
    obtain ⟨pb4, pe4⟩ : ∃ x, x = pb3 ++ si ++ [0] := ⟨_, rfl⟩
    rw [← pe4] at p4
    have ph4 : pb3.length + si.length + 1 = pb4.length := by rw [pe4]; simp only [List.length_append, numS_len, List.length_cons, List.length_nil]; try omega
    have fin : tgB li false kv re t u tm lf sv si = pb4 := by rw [hB, pe4, pe3, pe2, pe1]
    rw [fin]
    clear fin hB pe4 pe3 pe2 pe1
    (repeat' ((conv => whnf) <;> first | exact rfl | with_reducible refine boolK_dec (fun _ => ?_) (fun _ => ?_) <;> try (exfalso; omega) | refine boolK_beq (fun _ => ?_) (fun _ => ?_) <;> try (exfalso; first | omega | contradiction) | refine boolK_bne (fun _ => ?_) (fun _ => ?_) <;> try (exfalso; first | omega | contradiction) | (with_reducible first | refine boolK_not ?_ | refine boolK_and ?_ | refine boolK_or ?_ | refine boolK_true ?_ | refine boolK_false ?_) | refine boolK_intro (fun _ => ?_) (fun _ => ?_) <;> try (exfalso; simp_all; done) | with_reducible refine natK_lit ?_ | refine natK_of rfl ?_ | refine natK_any ?_ | refine jP ?_ | refine jQ ?_ | refine jR ?_ | refine jS ?_ | refine jT ?_ | refine jU (fun _ => ?_) | refine jV ?_ | refine jW ?_ | refine jX ?_ | refine jY ?_ | refine jZ ?_ | refine ja ?_ | refine jb ?_ | refine jc ?_ | refine jd ?_ | refine je ?_ | refine jf ?_ | refine jg ?_ | refine jh ?_ | refine ji ?_ | refine jj ?_ | refine jk ?_ | refine jn ?_ | refine jo ?_ | refine jp ?_ | refine jq ?_ | refine jr ?_ | refine js ?_ | refine callK_intro (cE) ?_ | refine callK_intro (cN) ?_ | refine callK_intro (cI) ?_ | refine callK_intro (c_withinM _ _) ?_ | refine callK_intro (p1) ?_ | refine callK_intro (p2) ?_ | refine callK_intro (p3) ?_ | refine callK_intro (p4) ?_ | refine jt ?_ | refine jx ?_ | refine jy ?_ | refine ju ?_ | refine sideK_intro (by first | (exact ⟨rfl, by simp; try omega, rfl⟩)) ?_ | refine jv ?_)) <;> (try (conv => whnf))
  · rw [tgN_no hc]
    have em := @tgC_mu mu kv tm lf re t u sv si
    have ea := @tgC_ap mu kv tm lf re t u sv si
    have e3 := @tgC_3 mu kv tm lf re t u sv si
    have e4 := @tgC_4 mu kv tm lf re t u sv si
    have e0 := @tgC_0 mu kv tm lf re t u sv si
    generalize tgC mu kv re t u tm lf sv si = Z at *
    cases mu
    · by_cases h2 : apC kv re t u = 0
      · have e3 := e3 rfl h2
        have e4 := e4 rfl h2
        have e0 := e0 rfl h2
        rw [apN_ok h2] at cE
        dsimp only at cE
        clear em ea h2
        cases h3 : nameS sv
        · have := e3 (.inl h3)
          subst this
          rw [h3] at cN
          clear e3 e4 e0
          (repeat' ((conv => whnf) <;> first | exact rfl | with_reducible refine boolK_dec (fun _ => ?_) (fun _ => ?_) <;> try (exfalso; omega) | refine boolK_beq (fun _ => ?_) (fun _ => ?_) <;> try (exfalso; first | omega | contradiction) | refine boolK_bne (fun _ => ?_) (fun _ => ?_) <;> try (exfalso; first | omega | contradiction) | (with_reducible first | refine boolK_not ?_ | refine boolK_and ?_ | refine boolK_or ?_ | refine boolK_true ?_ | refine boolK_false ?_) | refine boolK_intro (fun _ => ?_) (fun _ => ?_) <;> try (exfalso; simp_all; done) | with_reducible refine natK_lit ?_ | refine natK_of rfl ?_ | refine natK_any ?_ | refine jP ?_ | refine jQ ?_ | refine jR ?_ | refine jS ?_ | refine jT ?_ | refine jU (fun _ => ?_) | refine jV ?_ | refine jW ?_ | refine jX ?_ | refine jY ?_ | refine jZ ?_ | refine ja ?_ | refine jb ?_ | refine jc ?_ | refine jd ?_ | refine je ?_ | refine jf ?_ | refine jg ?_ | refine jh ?_ | refine ji ?_ | refine jj ?_ | refine jk ?_ | refine jn ?_ | refine jo ?_ | refine jp ?_ | refine jq ?_ | refine jr ?_ | refine js ?_ | refine callK_intro (cE) ?_ | refine callK_intro (cN) ?_ | refine callK_intro (cI) ?_ | refine jt ?_ | refine jx ?_ | refine jy ?_ | refine ju ?_ | refine jv ?_)) <;> (try (conv => whnf))
        · rw [h3] at cN
          cases h4 : instS si
          · have := e3 (.inr h4)
            subst this
            rw [h4] at cI
            clear e3 e4 e0
            (repeat' ((conv => whnf) <;> first | exact rfl | with_reducible refine boolK_dec (fun _ => ?_) (fun _ => ?_) <;> try (exfalso; omega) | refine boolK_beq (fun _ => ?_) (fun _ => ?_) <;> try (exfalso; first | omega | contradiction) | refine boolK_bne (fun _ => ?_) (fun _ => ?_) <;> try (exfalso; first | omega | contradiction) | (with_reducible first | refine boolK_not ?_ | refine boolK_and ?_ | refine boolK_or ?_ | refine boolK_true ?_ | refine boolK_false ?_) | refine boolK_intro (fun _ => ?_) (fun _ => ?_) <;> try (exfalso; simp_all; done) | with_reducible refine natK_lit ?_ | refine natK_of rfl ?_ | refine natK_any ?_ | refine jP ?_ | refine jQ ?_ | refine jR ?_ | refine jS ?_ | refine jT ?_ | refine jU (fun _ => ?_) | refine jV ?_ | refine jW ?_ | refine jX ?_ | refine jY ?_ | refine jZ ?_ | refine ja ?_ | refine jb ?_ | refine jc ?_ | refine jd ?_ | refine je ?_ | refine jf ?_ | refine jg ?_ | refine jh ?_ | refine ji ?_ | refine jj ?_ | refine jk ?_ | refine jn ?_ | refine jo ?_ | refine jp ?_ | refine jq ?_ | refine jr ?_ | refine js ?_ | refine callK_intro (cE) ?_ | refine callK_intro (cN) ?_ | refine callK_intro (cI) ?_ | refine jt ?_ | refine jx ?_ | refine jy ?_ | refine ju ?_ | refine jv ?_)) <;> (try (conv => whnf))
          · rw [h4] at cI
            by_cases h5 : (0 ≤ tm ∧ tm ≤ 4294967295) ∧ (0 ≤ lf ∧ lf ≤ 255)
            · exact absurd (e0 h3 h4 h5.1 h5.2) hc
            · have := e4 h3 h4 h5
              subst this
              clear e3 e4 e0 h3 h4
              (repeat' ((conv => whnf) <;> first | exact rfl | with_reducible refine boolK_dec (fun _ => ?_) (fun _ => ?_) <;> try (exfalso; omega) | refine boolK_beq (fun _ => ?_) (fun _ => ?_) <;> try (exfalso; first | omega | contradiction) | refine boolK_bne (fun _ => ?_) (fun _ => ?_) <;> try (exfalso; first | omega | contradiction) | (with_reducible first | refine boolK_not ?_ | refine boolK_and ?_ | refine boolK_or ?_ | refine boolK_true ?_ | refine boolK_false ?_) | refine boolK_intro (fun _ => ?_) (fun _ => ?_) <;> try (exfalso; simp_all; done) | with_reducible refine natK_lit ?_ | refine natK_of rfl ?_ | refine natK_any ?_ | refine jP ?_ | refine jQ ?_ | refine jR ?_ | refine jS ?_ | refine jT ?_ | refine jU (fun _ => ?_) | refine jV ?_ | refine jW ?_ | refine jX ?_ | refine jY ?_ | refine jZ ?_ | refine ja ?_ | refine jb ?_ | refine jc ?_ | refine jd ?_ | refine je ?_ | refine jf ?_ | refine jg ?_ | refine jh ?_ | refine ji ?_ | refine jj ?_ | refine jk ?_ | refine jn ?_ | refine jo ?_ | refine jp ?_ | refine jq ?_ | refine jr ?_ | refine js ?_ | refine callK_intro (cE) ?_ | refine callK_intro (cN) ?_ | refine callK_intro (cI) ?_ | refine callK_intro (c_withinM _ _) ?_ | refine jt ?_ | refine jx ?_ | refine jy ?_ | refine ju ?_ | refine jv ?_)) <;> (try (conv => whnf))
      · have := ea rfl h2
        subst this
        rw [apN_no h2] at cE
        clear em ea e3 e4 e0
        generalize apC kv re t u = Z at *
        (repeat' ((conv => whnf) <;> first | exact rfl | with_reducible refine boolK_dec (fun _ => ?_) (fun _ => ?_) <;> try (exfalso; omega) | refine boolK_beq (fun _ => ?_) (fun _ => ?_) <;> try (exfalso; first | omega | contradiction) | refine boolK_bne (fun _ => ?_) (fun _ => ?_) <;> try (exfalso; first | omega | contradiction) | (with_reducible first | refine boolK_not ?_ | refine boolK_and ?_ | refine boolK_or ?_ | refine boolK_true ?_ | refine boolK_false ?_) | refine boolK_intro (fun _ => ?_) (fun _ => ?_) <;> try (exfalso; simp_all; done) | with_reducible refine natK_lit ?_ | refine natK_of rfl ?_ | refine natK_any ?_ | refine jP ?_ | refine jQ ?_ | refine jR ?_ | refine jS ?_ | refine jT ?_ | refine jU (fun _ => ?_) | refine jV ?_ | refine jW ?_ | refine jX ?_ | refine jY ?_ | refine jZ ?_ | refine ja ?_ | refine jb ?_ | refine jc ?_ | refine jd ?_ | refine je ?_ | refine jf ?_ | refine jg ?_ | refine jh ?_ | refine ji ?_ | refine jj ?_ | refine jk ?_ | refine jn ?_ | refine jo ?_ | refine jp ?_ | refine jq ?_ | refine jr ?_ | refine js ?_ | refine callK_intro (cE) ?_ | refine jt ?_ | refine jx ?_ | refine jy ?_ | refine ju ?_ | refine jv ?_)) <;> (try (conv => whnf))
    · have := em rfl
      subst this
      clear em ea e3 e4 e0
      (repeat' ((conv => whnf) <;> first | exact rfl | with_reducible refine boolK_dec (fun _ => ?_) (fun _ => ?_) <;> try (exfalso; omega) | refine boolK_beq (fun _ => ?_) (fun _ => ?_) <;> try (exfalso; first | omega | contradiction) | refine boolK_bne (fun _ => ?_) (fun _ => ?_) <;> try (exfalso; first | omega | contradiction) | (with_reducible first | refine boolK_not ?_ | refine boolK_and ?_ | refine boolK_or ?_ | refine boolK_true ?_ | refine boolK_false ?_) | refine boolK_intro (fun _ => ?_) (fun _ => ?_) <;> try (exfalso; simp_all; done) | with_reducible refine natK_lit ?_ | refine natK_of rfl ?_ | refine natK_any ?_ | refine jP ?_ | refine jQ ?_ | refine jR ?_ | refine jS ?_ | refine jT ?_ | refine jU (fun _ => ?_) | refine jV ?_ | refine jW ?_ | refine jX ?_ | refine jY ?_ | refine jZ ?_ | refine ja ?_ | refine jb ?_ | refine jc ?_ | refine jd ?_ | refine je ?_ | refine jf ?_ | refine jg ?_ | refine jh ?_ | refine ji ?_ | refine jj ?_ | refine jk ?_ | refine jn ?_ | refine jo ?_ | refine jp ?_ | refine jq ?_ | refine jr ?_ | refine js ?_ | refine jt ?_ | refine jx ?_ | refine jy ?_ | refine ju ?_ | refine jv ?_)) <;> (try (conv => whnf))
theorem c_rEncodeTgs (li mu : Bool) (kv tm lf : Int) (re t u sv si : List UInt8) (hre : re.length ≤ 100000) (ht : t.length ≤ 100000) (hu : u.length ≤ 100000) (hsv : sv.length ≤ 100000) (hsi : si.length ≤ 100000) : Fn Try.prog 20 [.a [.b li, .b mu, .i .i64 kv, .s re, .sl (t.map u8) t.length, .sl (u.map u8) u.length, .i .i64 tm, .i .i64 lf, .s sv, .s si]] [] (.tup [.fr ((tgN ((li, mu, kv, re, t, u), tm, lf, sv, si)).1.map u8) (tgN ((li, mu, kv, re, t, u), tm, lf, sv, si)).1.length 1, .c (.o (.i .i64 (tgN ((li, mu, kv, re, t, u), tm, lf, sv, si)).2))]) [] := by
  have cE := c_rEncodeAp li mu kv re t u hre ht hu
  have cN := c_rValidName sv (by omega)
  have cI := c_rValidInstance si (by omega)
  refine Fn_intro (G := g20) (goodA rfl) (fn := Try.f20) rfl rfl rfl rfl rfl ?_
  by_cases hc : tgC mu kv re t u tm lf sv si = 0
  · rw [tgN_ok hc]
    obtain ⟨h1, h2, h3, h4, h5, h6⟩ := tgC_ok hc
    have hA := apB_len li mu kv re t u
    obtain ⟨_, _, hA2, hA3⟩ := apC_ok h2
    rw [apN_ok h2] at cE
    rw [h3] at cN
    rw [h4] at cI
    subst h1
    have hB : tgB li false kv re t u tm lf sv si = apB li false kv re t u ++ numS li 4 tm ++ numS false 1 lf ++ sv ++ [0] ++ si ++ [0] := rfl
    clear hc h2 h3 h4
    dsimp only at cE
    generalize apB li false kv re t u = A at *
    have p1 := c_rPutNumber A (m := A.length) rfl (by omega) tm li
    obtain ⟨pb1, pe1⟩ : ∃ x, x = A ++ numS li 4 tm := ⟨_, rfl⟩
    rw [← pe1] at p1
    have ph1 : A.length + 4 = pb1.length := by rw [pe1]; simp only [List.length_append, numS_len, List.length_cons, List.length_nil]
    have p2 := c_rPutOctet pb1 (m := A.length + 4) ph1 (by omega) lf
    obtain ⟨pb2, pe2⟩ : ∃ x, x = pb1 ++ numS false 1 lf := ⟨_, rfl⟩
    rw [← pe2] at p2
    have ph2 : pb1.length + 1 = pb2.length := by rw [pe2]; simp only [List.length_append, numS_len, List.length_cons, List.length_nil]
    have p3 := c_rPutText pb2 (m := pb1.length + 1) ph2 sv (by omega)
    obtain ⟨pb3, pe3⟩ : ∃ x, x = pb2 ++ sv ++ [0] := ⟨_, rfl⟩
    rw [← pe3] at p3
    have ph3 : pb2.length + sv.length + 1 = pb3.length := by rw [pe3]; simp only [List.length_append, numS_len, List.length_cons, List.length_nil]; try omega
    have p4 := c_rPutText pb3 (m := pb2.length + sv.length + 1) ph3 si (by omega)
    obtain ⟨pb4, pe4⟩ : ∃ x, x = pb3 ++ si ++ [0] := ⟨_, rfl⟩
    rw [← pe4] at p4
    have ph4 : pb3.length + si.length + 1 = pb4.length := by rw [pe4]; simp only [List.length_append, numS_len, List.length_cons, List.length_nil]; try omega
    have fin : tgB li false kv re t u tm lf sv si = pb4 := by rw [hB, pe4, pe3, pe2, pe1]
    rw [fin]
    clear fin hB pe4 pe3 pe2 pe1
    (repeat' ((conv => whnf) <;> first | exact rfl | with_reducible refine boolK_dec (fun _ => ?_) (fun _ => ?_) <;> try (exfalso; omega) | refine boolK_beq (fun _ => ?_) (fun _ => ?_) <;> try (exfalso; first | omega | contradiction) | refine boolK_bne (fun _ => ?_) (fun _ => ?_) <;> try (exfalso; first | omega | contradiction) | (with_reducible first | refine boolK_not ?_ | refine boolK_and ?_ | refine boolK_or ?_ | refine boolK_true ?_ | refine boolK_false ?_) | refine boolK_intro (fun _ => ?_) (fun _ => ?_) <;> try (exfalso; simp_all; done) | with_reducible refine natK_lit ?_ | refine natK_of rfl ?_ | refine natK_any ?_ | refine jP ?_ | refine jQ ?_ | refine jR ?_ | refine jS ?_ | refine jT ?_ | refine jU (fun _ => ?_) | refine jV ?_ | refine jW ?_ | refine jX ?_ | refine jY ?_ | refine jZ ?_ | refine ja ?_ | refine jb ?_ | refine jc ?_ | refine jd ?_ | refine je ?_ | refine jf ?_ | refine jg ?_ | refine jh ?_ | refine ji ?_ | refine jj ?_ | refine jk ?_ | refine jn ?_ | refine jo ?_ | refine jp ?_ | refine jq ?_ | refine jr ?_ | refine js ?_ | refine callK_intro (cE) ?_ | refine callK_intro (cN) ?_ | refine callK_intro (cI) ?_ | refine callK_intro (c_rwithinM _ _) ?_ | refine callK_intro (p1) ?_ | refine callK_intro (p2) ?_ | refine callK_intro (p3) ?_ | refine callK_intro (p4) ?_ | refine jt ?_ | refine jx ?_ | refine jy ?_ | refine ju ?_ | refine sideK_intro (by first | (exact ⟨rfl, by simp; try omega, rfl⟩)) ?_ | refine jv ?_)) <;> (try (conv => whnf))
  · rw [tgN_no hc]
    have em := @tgC_mu mu kv tm lf re t u sv si
    have ea := @tgC_ap mu kv tm lf re t u sv si
    have e3 := @tgC_3 mu kv tm lf re t u sv si
    have e4 := @tgC_4 mu kv tm lf re t u sv si
    have e0 := @tgC_0 mu kv tm lf re t u sv si
    generalize tgC mu kv re t u tm lf sv si = Z at *
    cases mu
    · by_cases h2 : apC kv re t u = 0
      · have e3 := e3 rfl h2
        have e4 := e4 rfl h2
        have e0 := e0 rfl h2
        rw [apN_ok h2] at cE
        dsimp only at cE
        clear em ea h2
        cases h3 : nameS sv
        · have := e3 (.inl h3)
          subst this
          rw [h3] at cN
          clear e3 e4 e0
          (repeat' ((conv => whnf) <;> first | exact rfl | with_reducible refine boolK_dec (fun _ => ?_) (fun _ => ?_) <;> try (exfalso; omega) | refine boolK_beq (fun _ => ?_) (fun _ => ?_) <;> try (exfalso; first | omega | contradiction) | refine boolK_bne (fun _ => ?_) (fun _ => ?_) <;> try (exfalso; first | omega | contradiction) | (with_reducible first | refine boolK_not ?_ | refine boolK_and ?_ | refine boolK_or ?_ | refine boolK_true ?_ | refine boolK_false ?_) | refine boolK_intro (fun _ => ?_) (fun _ => ?_) <;> try (exfalso; simp_all; done) | with_reducible refine natK_lit ?_ | refine natK_of rfl ?_ | refine natK_any ?_ | refine jP ?_ | refine jQ ?_ | refine jR ?_ | refine jS ?_ | refine jT ?_ | refine jU (fun _ => ?_) | refine jV ?_ | refine jW ?_ | refine jX ?_ | refine jY ?_ | refine jZ ?_ | refine ja ?_ | refine jb ?_ | refine jc ?_ | refine jd ?_ | refine je ?_ | refine jf ?_ | refine jg ?_ | refine jh ?_ | refine ji ?_ | refine jj ?_ | refine jk ?_ | refine jn ?_ | refine jo ?_ | refine jp ?_ | refine jq ?_ | refine jr ?_ | refine js ?_ | refine callK_intro (cE) ?_ | refine callK_intro (cN) ?_ | refine callK_intro (cI) ?_ | refine jt ?_ | refine jx ?_ | refine jy ?_ | refine ju ?_ | refine jv ?_)) <;> (try (conv => whnf))
        · rw [h3] at cN
          cases h4 : instS si
          · have := e3 (.inr h4)
            subst this
            rw [h4] at cI
            clear e3 e4 e0
            (repeat' ((conv => whnf) <;> first | exact rfl | with_reducible refine boolK_dec (fun _ => ?_) (fun _ => ?_) <;> try (exfalso; omega) | refine boolK_beq (fun _ => ?_) (fun _ => ?_) <;> try (exfalso; first | omega | contradiction) | refine boolK_bne (fun _ => ?_) (fun _ => ?_) <;> try (exfalso; first | omega | contradiction) | (with_reducible first | refine boolK_not ?_ | refine boolK_and ?_ | refine boolK_or ?_ | refine boolK_true ?_ | refine boolK_false ?_) | refine boolK_intro (fun _ => ?_) (fun _ => ?_) <;> try (exfalso; simp_all; done) | with_reducible refine natK_lit ?_ | refine natK_of rfl ?_ | refine natK_any ?_ | refine jP ?_ | refine jQ ?_ | refine jR ?_ | refine jS ?_ | refine jT ?_ | refine jU (fun _ => ?_) | refine jV ?_ | refine jW ?_ | refine jX ?_ | refine jY ?_ | refine jZ ?_ | refine ja ?_ | refine jb ?_ | refine jc ?_ | refine jd ?_ | refine je ?_ | refine jf ?_ | refine jg ?_ | refine jh ?_ | refine ji ?_ | refine jj ?_ | refine jk ?_ | refine jn ?_ | refine jo ?_ | refine jp ?_ | refine jq ?_ | refine jr ?_ | refine js ?_ | refine callK_intro (cE) ?_ | refine callK_intro (cN) ?_ | refine callK_intro (cI) ?_ | refine jt ?_ | refine jx ?_ | refine jy ?_ | refine ju ?_ | refine jv ?_)) <;> (try (conv => whnf))
          · rw [h4] at cI
            by_cases h5 : (0 ≤ tm ∧ tm ≤ 4294967295) ∧ (0 ≤ lf ∧ lf ≤ 255)
            · exact absurd (e0 h3 h4 h5.1 h5.2) hc
            · have := e4 h3 h4 h5
              subst this
              clear e3 e4 e0 h3 h4
              (repeat' ((conv => whnf) <;> first | exact rfl | with_reducible refine boolK_dec (fun _ => ?_) (fun _ => ?_) <;> try (exfalso; omega) | refine boolK_beq (fun _ => ?_) (fun _ => ?_) <;> try (exfalso; first | omega | contradiction) | refine boolK_bne (fun _ => ?_) (fun _ => ?_) <;> try (exfalso; first | omega | contradiction) | (with_reducible first | refine boolK_not ?_ | refine boolK_and ?_ | refine boolK_or ?_ | refine boolK_true ?_ | refine boolK_false ?_) | refine boolK_intro (fun _ => ?_) (fun _ => ?_) <;> try (exfalso; simp_all; done) | with_reducible refine natK_lit ?_ | refine natK_of rfl ?_ | refine natK_any ?_ | refine jP ?_ | refine jQ ?_ | refine jR ?_ | refine jS ?_ | refine jT ?_ | refine jU (fun _ => ?_) | refine jV ?_ | refine jW ?_ | refine jX ?_ | refine jY ?_ | refine jZ ?_ | refine ja ?_ | refine jb ?_ | refine jc ?_ | refine jd ?_ | refine je ?_ | refine jf ?_ | refine jg ?_ | refine jh ?_ | refine ji ?_ | refine jj ?_ | refine jk ?_ | refine jn ?_ | refine jo ?_ | refine jp ?_ | refine jq ?_ | refine jr ?_ | refine js ?_ | refine callK_intro (cE) ?_ | refine callK_intro (cN) ?_ | refine callK_intro (cI) ?_ | refine callK_intro (c_rwithinM _ _) ?_ | refine jt ?_ | refine jx ?_ | refine jy ?_ | refine ju ?_ | refine jv ?_)) <;> (try (conv => whnf))
      · have := ea rfl h2
        subst this
        rw [apN_no h2] at cE
        clear em ea e3 e4 e0
        generalize apC kv re t u = Z at *
        (repeat' ((conv => whnf) <;> first | exact rfl | with_reducible refine boolK_dec (fun _ => ?_) (fun _ => ?_) <;> try (exfalso; omega) | refine boolK_beq (fun _ => ?_) (fun _ => ?_) <;> try (exfalso; first | omega | contradiction) | refine boolK_bne (fun _ => ?_) (fun _ => ?_) <;> try (exfalso; first | omega | contradiction) | (with_reducible first | refine boolK_not ?_ | refine boolK_and ?_ | refine boolK_or ?_ | refine boolK_true ?_ | refine boolK_false ?_) | refine boolK_intro (fun _ => ?_) (fun _ => ?_) <;> try (exfalso; simp_all; done) | with_reducible refine natK_lit ?_ | refine natK_of rfl ?_ | refine natK_any ?_ | refine jP ?_ | refine jQ ?_ | refine jR ?_ | refine jS ?_ | refine jT ?_ | refine jU (fun _ => ?_) | refine jV ?_ | refine jW ?_ | refine jX ?_ | refine jY ?_ | refine jZ ?_ | refine ja ?_ | refine jb ?_ | refine jc ?_ | refine jd ?_ | refine je ?_ | refine jf ?_ | refine jg ?_ | refine jh ?_ | refine ji ?_ | refine jj ?_ | refine jk ?_ | refine jn ?_ | refine jo ?_ | refine jp ?_ | refine jq ?_ | refine jr ?_ | refine js ?_ | refine callK_intro (cE) ?_ | refine jt ?_ | refine jx ?_ | refine jy ?_ | refine ju ?_ | refine jv ?_)) <;> (try (conv => whnf))
    · have := em rfl
      subst this
      clear em ea e3 e4 e0
      (repeat' ((conv => whnf) <;> first | exact rfl | with_reducible refine boolK_dec (fun _ => ?_) (fun _ => ?_) <;> try (exfalso; omega) | refine boolK_beq (fun _ => ?_) (fun _ => ?_) <;> try (exfalso; first | omega | contradiction) | refine boolK_bne (fun _ => ?_) (fun _ => ?_) <;> try (exfalso; first | omega | contradiction) | (with_reducible first | refine boolK_not ?_ | refine boolK_and ?_ | refine boolK_or ?_ | refine boolK_true ?_ | refine boolK_false ?_) | refine boolK_intro (fun _ => ?_) (fun _ => ?_) <;> try (exfalso; simp_all; done) | with_reducible refine natK_lit ?_ | refine natK_of rfl ?_ | refine natK_any ?_ | refine jP ?_ | refine jQ ?_ | refine jR ?_ | refine jS ?_ | refine jT ?_ | refine jU (fun _ => ?_) | refine jV ?_ | refine jW ?_ | refine jX ?_ | refine jY ?_ | refine jZ ?_ | refine ja ?_ | refine jb ?_ | refine jc ?_ | refine jd ?_ | refine je ?_ | refine jf ?_ | refine jg ?_ | refine jh ?_ | refine ji ?_ | refine jj ?_ | refine jk ?_ | refine jn ?_ | refine jo ?_ | refine jp ?_ | refine jq ?_ | refine jr ?_ | refine js ?_ | refine jt ?_ | refine jx ?_ | refine jy ?_ | refine ju ?_ | refine jv ?_)) <;> (try (conv => whnf))
theorem c_EncodeMutual (l : Bool) (ck tk tm : Int) : Fn Try.prog 50 [.a [.i .i64 ck, .i .i64 tk, .i .i64 tm], .o (.b l)] [] (.tup [.fr ((mtN l (ck, tk, tm)).1.map u8) (mtN l (ck, tk, tm)).1.length 1, .c (.o (.i .i64 (mtN l (ck, tk, tm)).2))]) [] := by
  refine Fn_intro (G := g50) (goodA rfl) (fn := Try.f50) rfl rfl rfl rfl rfl ?_
  by_cases hc : (0 ≤ ck ∧ ck ≤ 4294967295) ∧ (0 ≤ tk ∧ tk ≤ 199) ∧ (0 ≤ tm ∧ tm ≤ 4294967295)
  · rw [mtN_ok hc]
    cases l
    · have q0 : ([] : List UInt8).length = 0 := rfl
      have p1 := c_PutOctet ([] : List UInt8) (m := 0) rfl (by omega) 0
      obtain ⟨pb1, pe1⟩ : ∃ x, x = ([] : List UInt8) ++ numS false 1 0 := ⟨_, rfl⟩
      rw [← pe1] at p1
      have ph1 : ([] : List UInt8).length + 1 = pb1.length := by rw [pe1]; simp only [List.length_append, numS_len, List.length_cons, List.length_nil]
      have p2 := c_PutNumber pb1 (m := ([] : List UInt8).length + 1) ph1 (by omega) ck false
      obtain ⟨pb2, pe2⟩ : ∃ x, x = pb1 ++ numS false 4 ck := ⟨_, rfl⟩
      rw [← pe2] at p2
      have ph2 : pb1.length + 4 = pb2.length := by rw [pe2]; simp only [List.length_append, numS_len, List.length_cons, List.length_nil]
      have p3 := c_PutOctet pb2 (m := pb1.length + 4) ph2 (by omega) tk
      obtain ⟨pb3, pe3⟩ : ∃ x, x = pb2 ++ numS false 1 tk := ⟨_, rfl⟩
      rw [← pe3] at p3
      have ph3 : pb2.length + 1 = pb3.length := by rw [pe3]; simp only [List.length_append, numS_len, List.length_cons, List.length_nil]
      have p4 := c_PutNumber pb3 (m := pb2.length + 1) ph3 (by omega) tm false
      obtain ⟨pb4, pe4⟩ : ∃ x, x = pb3 ++ numS false 4 tm := ⟨_, rfl⟩
      rw [← pe4] at p4
      have ph4 : pb3.length + 4 = pb4.length := by rw [pe4]; simp only [List.length_append, numS_len, List.length_cons, List.length_nil]
      have pp := c_Pad pb4 (m := pb3.length + 4) ph4 (by omega)
      have fin : mtE false ck tk tm = padS pb4 := by rw [mtE, pe4, pe3, pe2, pe1]; rfl
      rw [fin]
      clear fin pe4 pe3 pe2 pe1
      (repeat' ((conv => whnf) <;> first | exact rfl | with_reducible refine boolK_dec (fun _ => ?_) (fun _ => ?_) <;> try (exfalso; omega) | refine boolK_beq (fun _ => ?_) (fun _ => ?_) <;> try (exfalso; first | omega | contradiction) | refine boolK_bne (fun _ => ?_) (fun _ => ?_) <;> try (exfalso; first | omega | contradiction) | (with_reducible first | refine boolK_not ?_ | refine boolK_and ?_ | refine boolK_or ?_ | refine boolK_true ?_ | refine boolK_false ?_) | refine boolK_intro (fun _ => ?_) (fun _ => ?_) <;> try (exfalso; simp_all; done) | with_reducible refine natK_lit ?_ | refine natK_of rfl ?_ | refine natK_any ?_ | refine jP ?_ | refine jQ ?_ | refine jR ?_ | refine jS ?_ | refine jT ?_ | refine jU (fun _ => ?_) | refine jV ?_ | refine jW ?_ | refine jX ?_ | refine jY ?_ | refine jZ ?_ | refine ja ?_ | refine jb ?_ | refine jc ?_ | refine jd ?_ | refine je ?_ | refine jf ?_ | refine jg ?_ | refine jh ?_ | refine ji ?_ | refine jj ?_ | refine jk ?_ | refine jn ?_ | refine jo ?_ | refine jp ?_ | refine jq ?_ | refine jr ?_ | refine js ?_ | refine callK_intro (c_withinM _ _) ?_ | refine callK_intro (p1) ?_ | refine callK_intro (p2) ?_ | refine callK_intro (p3) ?_ | refine callK_intro (p4) ?_ | refine callK_intro (pp) ?_ | refine jt ?_ | refine jx ?_ | refine jy ?_ | refine ju ?_ | refine sideK_intro (by first | (exact ⟨rfl, rfl, rfl⟩)) ?_ | refine jv ?_)) <;> (try (conv => whnf))
    · have q0 : ([] : List UInt8).length = 0 := rfl
      have p1 := c_PutOctet ([] : List UInt8) (m := 0) rfl (by omega) 1
      obtain ⟨pb1, pe1⟩ : ∃ x, x = ([] : List UInt8) ++ numS false 1 1 := ⟨_, rfl⟩
      rw [← pe1] at p1
      have ph1 : ([] : List UInt8).length + 1 = pb1.length := by rw [pe1]; simp only [List.length_append, numS_len, List.length_cons, List.length_nil]
      have p2 := c_PutNumber pb1 (m := ([] : List UInt8).length + 1) ph1 (by omega) ck true
      obtain ⟨pb2, pe2⟩ : ∃ x, x = pb1 ++ numS true 4 ck := ⟨_, rfl⟩
      rw [← pe2] at p2
      have ph2 : pb1.length + 4 = pb2.length := by rw [pe2]; simp only [List.length_append, numS_len, List.length_cons, List.length_nil]
      have p3 := c_PutOctet pb2 (m := pb1.length + 4) ph2 (by omega) tk
      obtain ⟨pb3, pe3⟩ : ∃ x, x = pb2 ++ numS false 1 tk := ⟨_, rfl⟩
      rw [← pe3] at p3
      have ph3 : pb2.length + 1 = pb3.length := by rw [pe3]; simp only [List.length_append, numS_len, List.length_cons, List.length_nil]
      have p4 := c_PutNumber pb3 (m := pb2.length + 1) ph3 (by omega) tm true
      obtain ⟨pb4, pe4⟩ : ∃ x, x = pb3 ++ numS true 4 tm := ⟨_, rfl⟩
      rw [← pe4] at p4
      have ph4 : pb3.length + 4 = pb4.length := by rw [pe4]; simp only [List.length_append, numS_len, List.length_cons, List.length_nil]
      have pp := c_Pad pb4 (m := pb3.length + 4) ph4 (by omega)
      have fin : mtE true ck tk tm = padS pb4 := by rw [mtE, pe4, pe3, pe2, pe1]; rfl
      rw [fin]
      clear fin pe4 pe3 pe2 pe1
      (repeat' ((conv => whnf) <;> first | exact rfl | with_reducible refine boolK_dec (fun _ => ?_) (fun _ => ?_) <;> try (exfalso; omega) | refine boolK_beq (fun _ => ?_) (fun _ => ?_) <;> try (exfalso; first | omega | contradiction) | refine boolK_bne (fun _ => ?_) (fun _ => ?_) <;> try (exfalso; first | omega | contradiction) | (with_reducible first | refine boolK_not ?_ | refine boolK_and ?_ | refine boolK_or ?_ | refine boolK_true ?_ | refine boolK_false ?_) | refine boolK_intro (fun _ => ?_) (fun _ => ?_) <;> try (exfalso; simp_all; done) | with_reducible refine natK_lit ?_ | refine natK_of rfl ?_ | refine natK_any ?_ | refine jP ?_ | refine jQ ?_ | refine jR ?_ | refine jS ?_ | refine jT ?_ | refine jU (fun _ => ?_) | refine jV ?_ | refine jW ?_ | refine jX ?_ | refine jY ?_ | refine jZ ?_ | refine ja ?_ | refine jb ?_ | refine jc ?_ | refine jd ?_ | refine je ?_ | refine jf ?_ | refine jg ?_ | refine jh ?_ | refine ji ?_ | refine jj ?_ | refine jk ?_ | refine jn ?_ | refine jo ?_ | refine jp ?_ | refine jq ?_ | refine jr ?_ | refine js ?_ | refine callK_intro (c_withinM _ _) ?_ | refine callK_intro (p1) ?_ | refine callK_intro (p2) ?_ | refine callK_intro (p3) ?_ | refine callK_intro (p4) ?_ | refine callK_intro (pp) ?_ | refine jt ?_ | refine jx ?_ | refine jy ?_ | refine ju ?_ | refine sideK_intro (by first | (exact ⟨rfl, rfl, rfl⟩)) ?_ | refine jv ?_)) <;> (try (conv => whnf))
  · rw [mtN_no hc]
    (repeat' ((conv => whnf) <;> first | exact rfl | with_reducible refine boolK_dec (fun _ => ?_) (fun _ => ?_) <;> try (exfalso; omega) | refine boolK_beq (fun _ => ?_) (fun _ => ?_) <;> try (exfalso; first | omega | contradiction) | refine boolK_bne (fun _ => ?_) (fun _ => ?_) <;> try (exfalso; first | omega | contradiction) | (with_reducible first | refine boolK_not ?_ | refine boolK_and ?_ | refine boolK_or ?_ | refine boolK_true ?_ | refine boolK_false ?_) | refine boolK_intro (fun _ => ?_) (fun _ => ?_) <;> try (exfalso; simp_all; done) | with_reducible refine natK_lit ?_ | refine natK_of rfl ?_ | refine natK_any ?_ | refine jP ?_ | refine jQ ?_ | refine jR ?_ | refine jS ?_ | refine jT ?_ | refine jU (fun _ => ?_) | refine jV ?_ | refine jW ?_ | refine jX ?_ | refine jY ?_ | refine jZ ?_ | refine ja ?_ | refine jb ?_ | refine jc ?_ | refine jd ?_ | refine je ?_ | refine jf ?_ | refine jg ?_ | refine jh ?_ | refine ji ?_ | refine jj ?_ | refine jk ?_ | refine jn ?_ | refine jo ?_ | refine jp ?_ | refine jq ?_ | refine jr ?_ | refine js ?_ | refine callK_intro (c_withinM _ _) ?_ | refine jt ?_ | refine jx ?_ | refine jy ?_ | refine ju ?_ | refine jv ?_)) <;> (try (conv => whnf))
theorem c_rEncodeMutual (l : Bool) (ck tk tm : Int) : Fn Try.prog 21 [.a [.i .i64 ck, .i .i64 tk, .i .i64 tm], .o (.b l)] [] (.tup [.fr ((mtN l (ck, tk, tm)).1.map u8) (mtN l (ck, tk, tm)).1.length 1, .c (.o (.i .i64 (mtN l (ck, tk, tm)).2))]) [] := by
  refine Fn_intro (G := g21) (goodA rfl) (fn := Try.f21) rfl rfl rfl rfl rfl ?_
  by_cases hc : (0 ≤ ck ∧ ck ≤ 4294967295) ∧ (0 ≤ tk ∧ tk ≤ 199) ∧ (0 ≤ tm ∧ tm ≤ 4294967295)
  · rw [mtN_ok hc]
    have p0 := c_rPutOrder [] (m := 0) rfl (by decide) l
    obtain ⟨B0, e0⟩ : ∃ x, x = ([] : List UInt8) ++ numS false 1 (ordN l) := ⟨_, rfl⟩
    rw [← e0] at p0
    have h0 : ([] : List UInt8).length + 1 = B0.length := by rw [e0]; simp only [List.length_append, numS_len, List.length_nil]
    have q0 : ([] : List UInt8).length = 0 := rfl
    have p1 := c_rPutNumber B0 (m := ([] : List UInt8).length + 1) h0 (by omega) ck l
    obtain ⟨pb1, pe1⟩ : ∃ x, x = B0 ++ numS l 4 ck := ⟨_, rfl⟩
    rw [← pe1] at p1
    have ph1 : B0.length + 4 = pb1.length := by rw [pe1]; simp only [List.length_append, numS_len, List.length_cons, List.length_nil]
    have p2 := c_rPutOctet pb1 (m := B0.length + 4) ph1 (by omega) tk
    obtain ⟨pb2, pe2⟩ : ∃ x, x = pb1 ++ numS false 1 tk := ⟨_, rfl⟩
    rw [← pe2] at p2
    have ph2 : pb1.length + 1 = pb2.length := by rw [pe2]; simp only [List.length_append, numS_len, List.length_cons, List.length_nil]
    have p3 := c_rPutNumber pb2 (m := pb1.length + 1) ph2 (by omega) tm l
    obtain ⟨pb3, pe3⟩ : ∃ x, x = pb2 ++ numS l 4 tm := ⟨_, rfl⟩
    rw [← pe3] at p3
    have ph3 : pb2.length + 4 = pb3.length := by rw [pe3]; simp only [List.length_append, numS_len, List.length_cons, List.length_nil]
    have pp := c_rPad pb3 (m := pb2.length + 4) ph3 (by omega)
    have fin : mtE l ck tk tm = padS pb3 := by rw [mtE, pe3, pe2, pe1, e0]; rfl
    rw [fin]
    clear fin pe3 pe2 pe1 e0
    (repeat' ((conv => whnf) <;> first | exact rfl | with_reducible refine boolK_dec (fun _ => ?_) (fun _ => ?_) <;> try (exfalso; omega) | refine boolK_beq (fun _ => ?_) (fun _ => ?_) <;> try (exfalso; first | omega | contradiction) | refine boolK_bne (fun _ => ?_) (fun _ => ?_) <;> try (exfalso; first | omega | contradiction) | (with_reducible first | refine boolK_not ?_ | refine boolK_and ?_ | refine boolK_or ?_ | refine boolK_true ?_ | refine boolK_false ?_) | refine boolK_intro (fun _ => ?_) (fun _ => ?_) <;> try (exfalso; simp_all; done) | with_reducible refine natK_lit ?_ | refine natK_of rfl ?_ | refine natK_any ?_ | refine jP ?_ | refine jQ ?_ | refine jR ?_ | refine jS ?_ | refine jT ?_ | refine jU (fun _ => ?_) | refine jV ?_ | refine jW ?_ | refine jX ?_ | refine jY ?_ | refine jZ ?_ | refine ja ?_ | refine jb ?_ | refine jc ?_ | refine jd ?_ | refine je ?_ | refine jf ?_ | refine jg ?_ | refine jh ?_ | refine ji ?_ | refine jj ?_ | refine jk ?_ | refine jn ?_ | refine jo ?_ | refine jp ?_ | refine jq ?_ | refine jr ?_ | refine js ?_ | refine callK_intro (c_rwithinM _ _) ?_ | refine callK_intro (p0) ?_ | refine callK_intro (p1) ?_ | refine callK_intro (p2) ?_ | refine callK_intro (p3) ?_ | refine callK_intro (pp) ?_ | refine jt ?_ | refine jx ?_ | refine jy ?_ | refine ju ?_ | refine sideK_intro (by first | (exact ⟨rfl, rfl, rfl⟩)) ?_ | refine jv ?_)) <;> (try (conv => whnf))
  · rw [mtN_no hc]
    (repeat' ((conv => whnf) <;> first | exact rfl | with_reducible refine boolK_dec (fun _ => ?_) (fun _ => ?_) <;> try (exfalso; omega) | refine boolK_beq (fun _ => ?_) (fun _ => ?_) <;> try (exfalso; first | omega | contradiction) | refine boolK_bne (fun _ => ?_) (fun _ => ?_) <;> try (exfalso; first | omega | contradiction) | (with_reducible first | refine boolK_not ?_ | refine boolK_and ?_ | refine boolK_or ?_ | refine boolK_true ?_ | refine boolK_false ?_) | refine boolK_intro (fun _ => ?_) (fun _ => ?_) <;> try (exfalso; simp_all; done) | with_reducible refine natK_lit ?_ | refine natK_of rfl ?_ | refine natK_any ?_ | refine jP ?_ | refine jQ ?_ | refine jR ?_ | refine jS ?_ | refine jT ?_ | refine jU (fun _ => ?_) | refine jV ?_ | refine jW ?_ | refine jX ?_ | refine jY ?_ | refine jZ ?_ | refine ja ?_ | refine jb ?_ | refine jc ?_ | refine jd ?_ | refine je ?_ | refine jf ?_ | refine jg ?_ | refine jh ?_ | refine ji ?_ | refine jj ?_ | refine jk ?_ | refine jn ?_ | refine jo ?_ | refine jp ?_ | refine jq ?_ | refine jr ?_ | refine js ?_ | refine callK_intro (c_rwithinM _ _) ?_ | refine jt ?_ | refine jx ?_ | refine jy ?_ | refine ju ?_ | refine jv ?_)) <;> (try (conv => whnf))
theorem c_EncodeAnswer (d : List UInt8) {k : Nat} (hk : k = d.length) (hd : d.length ≤ 100000) (l : Bool) : Fn Try.prog 80 [.o (.sl (d.map u8) k), .o (.b l)] [] (.tup [.fr ((anN (d, l)).1.map u8) (anN (d, l)).1.length 1, .c (.o (.i .i64 (anN (d, l)).2))]) [] := by
  subst hk
  refine Fn_intro (G := g80) (goodA rfl) (fn := Try.f80) rfl rfl rfl rfl rfl ?_
  by_cases hc : d.length ≤ 1012
  · rw [anN_ok hc]
    have q0 : (putS 8 l).length = 2 := by rw [putS_yes (by decide) (by decide)]; rfl
    have p1 := c_PutShort (putS 8 l) (m := (putS 8 l).length) rfl (by omega) (d.length : Int) l
    obtain ⟨pb1, pe1⟩ : ∃ x, x = (putS 8 l) ++ numS l 2 (d.length : Int) := ⟨_, rfl⟩
    rw [← pe1] at p1
    have ph1 : (putS 8 l).length + 2 = pb1.length := by rw [pe1]; simp only [List.length_append, numS_len, List.length_cons, List.length_nil]
    have fin : anB l d = pb1 ++ d := by rw [anB, pe1]
    rw [fin]
    clear fin pe1
    (repeat' ((conv => whnf) <;> first | exact rfl | with_reducible refine boolK_dec (fun _ => ?_) (fun _ => ?_) <;> try (exfalso; omega) | refine boolK_beq (fun _ => ?_) (fun _ => ?_) <;> try (exfalso; first | omega | contradiction) | refine boolK_bne (fun _ => ?_) (fun _ => ?_) <;> try (exfalso; first | omega | contradiction) | (with_reducible first | refine boolK_not ?_ | refine boolK_and ?_ | refine boolK_or ?_ | refine boolK_true ?_ | refine boolK_false ?_) | refine boolK_intro (fun _ => ?_) (fun _ => ?_) <;> try (exfalso; simp_all; done) | with_reducible refine natK_lit ?_ | refine natK_of rfl ?_ | refine natK_any ?_ | refine jP ?_ | refine jQ ?_ | refine jR ?_ | refine jS ?_ | refine jT ?_ | refine jU (fun _ => ?_) | refine jV ?_ | refine jW ?_ | refine jX ?_ | refine jY ?_ | refine jZ ?_ | refine ja ?_ | refine jb ?_ | refine jc ?_ | refine jd ?_ | refine je ?_ | refine jf ?_ | refine jg ?_ | refine jh ?_ | refine ji ?_ | refine jj ?_ | refine jk ?_ | refine jn ?_ | refine jo ?_ | refine jp ?_ | refine jq ?_ | refine jr ?_ | refine js ?_ | refine callK_intro (c_put 8 l) ?_ | refine callK_intro (p1) ?_ | refine callK_intro (c_concat2 pb1 d (m := (putS 8 l).length + 2) (n := d.length) ph1 rfl (by omega)) ?_ | refine jt ?_ | refine jx ?_ | refine jy ?_ | refine ju ?_ | refine sideK_intro (by first | (exact ⟨rfl, by simp; try omega, rfl⟩)) ?_ | refine jv ?_)) <;> (try (conv => whnf))
  · rw [anN_no hc]
    (repeat' ((conv => whnf) <;> first | exact rfl | with_reducible refine boolK_dec (fun _ => ?_) (fun _ => ?_) <;> try (exfalso; omega) | refine boolK_beq (fun _ => ?_) (fun _ => ?_) <;> try (exfalso; first | omega | contradiction) | refine boolK_bne (fun _ => ?_) (fun _ => ?_) <;> try (exfalso; first | omega | contradiction) | (with_reducible first | refine boolK_not ?_ | refine boolK_and ?_ | refine boolK_or ?_ | refine boolK_true ?_ | refine boolK_false ?_) | refine boolK_intro (fun _ => ?_) (fun _ => ?_) <;> try (exfalso; simp_all; done) | with_reducible refine natK_lit ?_ | refine natK_of rfl ?_ | refine natK_any ?_ | refine jP ?_ | refine jQ ?_ | refine jR ?_ | refine jS ?_ | refine jT ?_ | refine jU (fun _ => ?_) | refine jV ?_ | refine jW ?_ | refine jX ?_ | refine jY ?_ | refine jZ ?_ | refine ja ?_ | refine jb ?_ | refine jc ?_ | refine jd ?_ | refine je ?_ | refine jf ?_ | refine jg ?_ | refine jh ?_ | refine ji ?_ | refine jj ?_ | refine jk ?_ | refine jn ?_ | refine jo ?_ | refine jp ?_ | refine jq ?_ | refine jr ?_ | refine js ?_ | refine jt ?_ | refine jx ?_ | refine jy ?_ | refine ju ?_ | refine jv ?_)) <;> (try (conv => whnf))
theorem c_rEncodeAnswer (d : List UInt8) {k : Nat} (hk : k = d.length) (hd : d.length ≤ 100000) (l : Bool) : Fn Try.prog 22 [.o (.sl (d.map u8) k), .o (.b l)] [] (.tup [.fr ((anN (d, l)).1.map u8) (anN (d, l)).1.length 1, .c (.o (.i .i64 (anN (d, l)).2))]) [] := by
  subst hk
  refine Fn_intro (G := g22) (goodA rfl) (fn := Try.f22) rfl rfl rfl rfl rfl ?_
  by_cases hc : d.length ≤ 1012
  · rw [anN_ok hc]
    have q0 : (putS 8 l).length = 2 := by rw [putS_yes (by decide) (by decide)]; rfl
    have p1 := c_rPutShort (putS 8 l) (m := (putS 8 l).length) rfl (by omega) (d.length : Int) l
    obtain ⟨pb1, pe1⟩ : ∃ x, x = (putS 8 l) ++ numS l 2 (d.length : Int) := ⟨_, rfl⟩
    rw [← pe1] at p1
    have ph1 : (putS 8 l).length + 2 = pb1.length := by rw [pe1]; simp only [List.length_append, numS_len, List.length_cons, List.length_nil]
    have fin : anB l d = pb1 ++ d := by rw [anB, pe1]
    rw [fin]
    clear fin pe1
    (repeat' ((conv => whnf) <;> first | exact rfl | with_reducible refine boolK_dec (fun _ => ?_) (fun _ => ?_) <;> try (exfalso; omega) | refine boolK_beq (fun _ => ?_) (fun _ => ?_) <;> try (exfalso; first | omega | contradiction) | refine boolK_bne (fun _ => ?_) (fun _ => ?_) <;> try (exfalso; first | omega | contradiction) | (with_reducible first | refine boolK_not ?_ | refine boolK_and ?_ | refine boolK_or ?_ | refine boolK_true ?_ | refine boolK_false ?_) | refine boolK_intro (fun _ => ?_) (fun _ => ?_) <;> try (exfalso; simp_all; done) | with_reducible refine natK_lit ?_ | refine natK_of rfl ?_ | refine natK_any ?_ | refine jP ?_ | refine jQ ?_ | refine jR ?_ | refine jS ?_ | refine jT ?_ | refine jU (fun _ => ?_) | refine jV ?_ | refine jW ?_ | refine jX ?_ | refine jY ?_ | refine jZ ?_ | refine ja ?_ | refine jb ?_ | refine jc ?_ | refine jd ?_ | refine je ?_ | refine jf ?_ | refine jg ?_ | refine jh ?_ | refine ji ?_ | refine jj ?_ | refine jk ?_ | refine jn ?_ | refine jo ?_ | refine jp ?_ | refine jq ?_ | refine jr ?_ | refine js ?_ | refine callK_intro (c_rput 8 l) ?_ | refine callK_intro (p1) ?_ | refine jt ?_ | refine jx ?_ | refine jy ?_ | refine ju ?_ | refine sideK_intro (by first | (exact ⟨rfl, by simp; try omega, rfl⟩)) ?_ | refine jv ?_)) <;> (try (conv => whnf))
  · rw [anN_no hc]
    (repeat' ((conv => whnf) <;> first | exact rfl | with_reducible refine boolK_dec (fun _ => ?_) (fun _ => ?_) <;> try (exfalso; omega) | refine boolK_beq (fun _ => ?_) (fun _ => ?_) <;> try (exfalso; first | omega | contradiction) | refine boolK_bne (fun _ => ?_) (fun _ => ?_) <;> try (exfalso; first | omega | contradiction) | (with_reducible first | refine boolK_not ?_ | refine boolK_and ?_ | refine boolK_or ?_ | refine boolK_true ?_ | refine boolK_false ?_) | refine boolK_intro (fun _ => ?_) (fun _ => ?_) <;> try (exfalso; simp_all; done) | with_reducible refine natK_lit ?_ | refine natK_of rfl ?_ | refine natK_any ?_ | refine jP ?_ | refine jQ ?_ | refine jR ?_ | refine jS ?_ | refine jT ?_ | refine jU (fun _ => ?_) | refine jV ?_ | refine jW ?_ | refine jX ?_ | refine jY ?_ | refine jZ ?_ | refine ja ?_ | refine jb ?_ | refine jc ?_ | refine jd ?_ | refine je ?_ | refine jf ?_ | refine jg ?_ | refine jh ?_ | refine ji ?_ | refine jj ?_ | refine jk ?_ | refine jn ?_ | refine jo ?_ | refine jp ?_ | refine jq ?_ | refine jr ?_ | refine js ?_ | refine jt ?_ | refine jx ?_ | refine jy ?_ | refine ju ?_ | refine jv ?_)) <;> (try (conv => whnf))
end Go.Sx

/-
  Contracts of the small functions of the laws about files with keys of services.
-/
import Derived.Test.YtcmcjiacpahliabCSrvA
set_option linter.all false
namespace Go.Sx
open Go.Proofs Go.RowKit
noncomputable def g16 : Par := par 41 (nthLL [[0], [0, 6], [2], [0, 3], [0, 3, 10], [0, 3], [0, 3, 40], [2], [2]]) [2] (nthLL [])
noncomputable def g15 : Par := par 34 (nthLL [[], [1, 2], [1, 2, 3, 4], [0]]) [0] (nthLL [])
set_option maxRecDepth 10000
set_option maxHeartbeats 4000000
theorem sk_typ {ls : List L} (t : Typ (tabF tab) 32 ls) : ∃ s : SK, ls = skR s ∧ (-9223372036854775808 ≤ s.n ∧ s.n ≤ 9223372036854775807) ∧ (0 ≤ s.k ∧ s.k ≤ 18446744073709551615) := by
  obtain ⟨partsa, rfl, hla, hpa⟩ := typ_struct t rfl
  obtain ⟨qa_0, qa_1, qa_2, rfl⟩ : ∃ qa_0 qa_1 qa_2, partsa = [qa_0, qa_1, qa_2] := by
    match partsa, hla with
    | [qa_0, qa_1, qa_2], _ => exact ⟨qa_0, qa_1, qa_2, rfl⟩
  have ta_0 := hpa 0 _ qa_0 rfl rfl
  obtain ⟨partsa_0, rfl, hla_0, hpa_0⟩ := typ_struct ta_0 rfl
  obtain ⟨qa_0_0, qa_0_1, qa_0_2, rfl⟩ : ∃ qa_0_0 qa_0_1 qa_0_2, partsa_0 = [qa_0_0, qa_0_1, qa_0_2] := by
    match partsa_0, hla_0 with
    | [qa_0_0, qa_0_1, qa_0_2], _ => exact ⟨qa_0_0, qa_0_1, qa_0_2, rfl⟩
  have ta_0_0 := hpa_0 0 _ qa_0_0 rfl rfl
  obtain ⟨a_0_0, rfl⟩ := typ_str ta_0_0 rfl
  have ta_0_1 := hpa_0 1 _ qa_0_1 rfl rfl
  obtain ⟨a_0_1, rfl⟩ := typ_str ta_0_1 rfl
  have ta_0_2 := hpa_0 2 _ qa_0_2 rfl rfl
  obtain ⟨a_0_2, rfl⟩ := typ_str ta_0_2 rfl
  have ta_1 := hpa 1 _ qa_1 rfl rfl
  obtain ⟨a_1, rfl, wa_1⟩ := typ_int ta_1 rfl
  have ta_2 := hpa 2 _ qa_2 rfl rfl
  obtain ⟨a_2, rfl, wa_2⟩ := typ_int ta_2 rfl
  exact ⟨⟨a_0_0, a_0_1, a_0_2, a_1, a_2⟩, rfl, wf_i64 wa_1, wf_u64 wa_2⟩
theorem sk_rows {rows : List (List L)} (h : ∀ r ∈ rows, Typ (tabF tab) 32 r) : ∃ l : List SK, rows = l.map skR ∧ ∀ s ∈ l, (-9223372036854775808 ≤ s.n ∧ s.n ≤ 9223372036854775807) ∧ (0 ≤ s.k ∧ s.k ≤ 18446744073709551615) := rows_of fun r hr => sk_typ (h r hr)
theorem c_long13 (l : List SK) {m : Nat} (hm : m = l.length) : Fn Try.prog 16 [.o (.sl (flat skR l) m)] [] (.one (.c (.o (.b (skLg l))))) [] := by
  subst hm
  refine Fn_intro (G := g16) (goodA rfl) (fn := Try.f16) rfl rfl rfl rfl rfl ?_
  by_cases h70 : 70 < l.length
  · rw [skLg_long h70]
    (repeat' ((conv => whnf) <;> first | exact rfl | with_reducible refine boolK_dec (fun _ => ?_) (fun _ => ?_) <;> try (exfalso; omega) | refine boolK_beq (fun _ => ?_) (fun _ => ?_) <;> try (exfalso; first | omega | contradiction) | refine boolK_bne (fun _ => ?_) (fun _ => ?_) <;> try (exfalso; first | omega | contradiction) | (with_reducible first | refine boolK_not ?_ | refine boolK_and ?_ | refine boolK_or ?_ | refine boolK_true ?_ | refine boolK_false ?_) | refine boolK_intro (fun _ => ?_) (fun _ => ?_) <;> try (exfalso; simp_all; done) | refine jA ?_ | refine jB ?_ | refine jH ?_ | refine jI ?_ | refine jJ ?_ | refine jK ?_ | with_reducible refine natK_lit ?_ | refine natK_of rfl ?_ | refine natK_any ?_ | refine jP ?_ | refine jQ ?_ | refine jR ?_ | refine jS ?_ | refine jT ?_ | refine jU (fun _ => ?_) | refine jV ?_ | refine jW ?_ | refine jX ?_ | refine jY ?_ | refine jZ ?_ | refine ja ?_ | refine jb ?_ | refine jc ?_ | refine jd ?_ | refine je ?_ | refine jf ?_ | refine jg ?_ | refine jh ?_ | refine ji ?_ | refine jj ?_ | refine jk ?_ | refine jn ?_ | refine jo ?_ | refine jp ?_ | refine jq ?_ | refine jr ?_ | refine js ?_ | refine jt ?_ | refine jx ?_ | refine jy ?_ | refine ju ?_ | refine jv ?_)) <;> (try (conv => whnf))
  · (repeat' ((conv => whnf) <;> first | exact rfl | with_reducible refine boolK_dec (fun _ => ?_) (fun _ => ?_) <;> try (exfalso; omega) | refine boolK_beq (fun _ => ?_) (fun _ => ?_) <;> try (exfalso; first | omega | contradiction) | refine boolK_bne (fun _ => ?_) (fun _ => ?_) <;> try (exfalso; first | omega | contradiction) | (with_reducible first | refine boolK_not ?_ | refine boolK_and ?_ | refine boolK_or ?_ | refine boolK_true ?_ | refine boolK_false ?_) | refine boolK_intro (fun _ => ?_) (fun _ => ?_) <;> try (exfalso; simp_all; done) | refine jA ?_ | refine jB ?_ | refine jH ?_ | refine jI ?_ | refine jJ ?_ | refine jK ?_ | with_reducible refine natK_lit ?_ | refine natK_of rfl ?_ | refine natK_any ?_ | refine jP ?_ | refine jQ ?_ | refine jR ?_ | refine jS ?_ | refine jT ?_ | refine jU (fun _ => ?_) | refine jV ?_ | refine jW ?_ | refine jX ?_ | refine jY ?_ | refine jZ ?_ | refine ja ?_ | refine jb ?_ | refine jc ?_ | refine jd ?_ | refine je ?_ | refine jf ?_ | refine jg ?_ | refine jh ?_ | refine ji ?_ | refine jj ?_ | refine jk ?_ | refine jn ?_ | refine jo ?_ | refine jp ?_ | refine jq ?_ | refine jr ?_ | refine js ?_ | refine jt ?_ | refine jx ?_ | refine jy ?_ | refine ju ?_ | refine jv ?_)) <;> (try (conv => whnf))
    refine loopK_inv (G := g16) (fun k st => ∃ j : Nat, k + j = l.length ∧ (∀ i, i < j → ¬ (100 < (l.getD i sk0).x.length ∨ 100 < (l.getD i sk0).y.length ∨ 100 < (l.getD i sk0).z.length)) ∧
      st = ⟨[(0, .c (.o (.sl (flat skR l) l.length))), (3, .c (.o (.i .i64 (j : Int))))], []⟩) (n := l.length) ⟨0, by omega, by simp, rfl⟩ ?_
    rintro k st ⟨j, hj, hz, rfl⟩
    by_cases hjl : j < l.length
    · have e1 := skLg_at hjl
      have e2 : ¬ (100 < (l.getD j sk0).x.length ∨ 100 < (l.getD j sk0).y.length ∨ 100 < (l.getD j sk0).z.length) → ∀ i, i < j + 1 → ¬ (100 < (l.getD i sk0).x.length ∨ 100 < (l.getD i sk0).y.length ∨ 100 < (l.getD i sk0).z.length) := fun h i hi => by
        by_cases e : i = j
        · subst e; exact h
        · exact hz i (by omega)
      (repeat' ((conv => whnf) <;> first | exact rfl | with_reducible refine boolK_dec (fun _ => ?_) (fun _ => ?_) <;> try (exfalso; omega) | refine boolK_beq (fun _ => ?_) (fun _ => ?_) <;> try (exfalso; first | omega | contradiction) | refine boolK_bne (fun _ => ?_) (fun _ => ?_) <;> try (exfalso; first | omega | contradiction) | (with_reducible first | refine boolK_not ?_ | refine boolK_and ?_ | refine boolK_or ?_ | refine boolK_true ?_ | refine boolK_false ?_) | refine boolK_intro (fun _ => ?_) (fun _ => ?_) <;> try (exfalso; simp_all; done) | refine jA ?_ | refine jB ?_ | refine jH ?_ | refine jI ?_ | refine jJ ?_ | refine jK ?_ | with_reducible refine natK_lit ?_ | refine natK_of rfl ?_ | refine natK_any ?_ | refine jP ?_ | refine jQ ?_ | refine jR ?_ | refine jS ?_ | refine jT ?_ | refine jU (fun _ => ?_) | refine jV ?_ | refine jW ?_ | refine jX ?_ | refine jY ?_ | refine jZ ?_ | refine ja ?_ | refine jb ?_ | refine jc ?_ | refine jd ?_ | refine je ?_ | refine jf ?_ | refine jg ?_ | refine jh ?_ | refine ji ?_ | refine jj ?_ | refine jk ?_ | refine jn ?_ | refine jo ?_ | refine jp ?_ | refine jq ?_ | refine jr ?_ | refine js ?_ | refine headS_sk00 hjl ?_ | refine headS_sk1 hjl ?_ | refine headS_sk2 hjl ?_ | exact ⟨k - 1, by omega, j + 1, by omega, e2 (by omega), rfl⟩ | refine jt ?_ | refine jx ?_ | refine jy ?_ | refine ju ?_ | refine sideK_intro (by first | (rw [e1 (by omega)] <;> first | rfl | exact ⟨rfl, rfl⟩ | exact ⟨rfl, rfl, rfl⟩)) ?_ | refine jv ?_)) <;> (try (conv => whnf))
    · rw [skLg_no h70 (fun i hi => hz i (by omega))]
      (repeat' ((conv => whnf) <;> first | exact rfl | with_reducible refine boolK_dec (fun _ => ?_) (fun _ => ?_) <;> try (exfalso; omega) | refine boolK_beq (fun _ => ?_) (fun _ => ?_) <;> try (exfalso; first | omega | contradiction) | refine boolK_bne (fun _ => ?_) (fun _ => ?_) <;> try (exfalso; first | omega | contradiction) | (with_reducible first | refine boolK_not ?_ | refine boolK_and ?_ | refine boolK_or ?_ | refine boolK_true ?_ | refine boolK_false ?_) | refine boolK_intro (fun _ => ?_) (fun _ => ?_) <;> try (exfalso; simp_all; done) | refine jA ?_ | refine jB ?_ | refine jH ?_ | refine jI ?_ | refine jJ ?_ | refine jK ?_ | with_reducible refine natK_lit ?_ | refine natK_of rfl ?_ | refine natK_any ?_ | refine jP ?_ | refine jQ ?_ | refine jR ?_ | refine jS ?_ | refine jT ?_ | refine jU (fun _ => ?_) | refine jV ?_ | refine jW ?_ | refine jX ?_ | refine jY ?_ | refine jZ ?_ | refine ja ?_ | refine jb ?_ | refine jc ?_ | refine jd ?_ | refine je ?_ | refine jf ?_ | refine jg ?_ | refine jh ?_ | refine ji ?_ | refine jj ?_ | refine jk ?_ | refine jn ?_ | refine jo ?_ | refine jp ?_ | refine jq ?_ | refine jr ?_ | refine js ?_ | refine jt ?_ | refine jx ?_ | refine jy ?_ | refine ju ?_ | refine jv ?_)) <;> (try (conv => whnf))
theorem awk13_ok : skC [(⟨serviceN 0, serviceI 0, realmN (0 / 3), 4, longK 2⟩ : SK)] = 0 := skGood_C (skGood_add skGood_nil (by decide) ⟨by decide +kernel, by decide, by decide +kernel⟩ (by simp))
theorem c_awk13a : Fn Try.prog 71 [.o (.sl [] 0), .a [.s (serviceN 0), .s (serviceI 0), .s (realmN (0 / 3)), .i .i64 4, .i .u64 (longK 2)]] [] (.tup [.c (.o (.sl [.s (serviceN 0), .s (serviceI 0), .s (realmN (0 / 3)), .i .i64 4, .i .u64 (longK 2)] 1)), .c (.o (.i .i64 0))]) [] := by
  have c := c_srvAdd [] rfl (by decide) (by simp) (serviceN 0) (serviceI 0) (realmN (0 / 3)) 4 (longK 2) ⟨by decide +kernel, by decide +kernel, by decide +kernel, by decide, by decide⟩
  rw [skA_ok awk13_ok rfl] at c
  exact c
theorem c_awk13b : Fn Try.prog 73 [.o (.sl [.s (serviceN 0), .s (serviceI 0), .s (realmN (0 / 3)), .i .i64 4, .i .u64 (longK 2)] 1), .a [.s (serviceN 0), .s (serviceI 0), .s (realmN (0 / 3))], .o (.i .i64 4)] [] (.tup [.c (.o (.i .u64 (longK 2))), .c (.o (.b true))]) [] := by
  have c := c_srvFind [⟨serviceN 0, serviceI 0, realmN (0 / 3), 4, longK 2⟩] (m := 1) rfl (by decide) (serviceN 0) (serviceI 0) (realmN (0 / 3)) 4
  have e : skF [(⟨serviceN 0, serviceI 0, realmN (0 / 3), 4, longK 2⟩ : SK)] (serviceN 0) (serviceI 0) (realmN (0 / 3)) 4 = (longK 2, true) :=
    skF_yes (j := 0) (find_at (p := skIs (serviceN 0) (serviceI 0) (realmN (0 / 3)) 4) (l := [⟨serviceN 0, serviceI 0, realmN (0 / 3), 4, longK 2⟩]) sk0 (by decide) (by simp) (skIs_yes rfl rfl rfl rfl)) (by decide)
  rw [e] at c
  exact c
theorem c_awk13c : Fn Try.prog 74 [.o (.sl [.s (serviceN 0), .s (serviceI 0), .s (realmN (0 / 3)), .i .i64 4, .i .u64 (longK 2)] 1), .a [.s (serviceN 0), .s (serviceI 0), .s (realmN (0 / 3))]] [] (.one (.c (.o (.i .i64 4)))) [] := by
  have c := c_srvLatest [⟨serviceN 0, serviceI 0, realmN (0 / 3), 4, longK 2⟩] (m := 1) rfl (by decide) (serviceN 0) (serviceI 0) (realmN (0 / 3))
  have e : latS [(⟨serviceN 0, serviceI 0, realmN (0 / 3), 4, longK 2⟩ : SK)] (serviceN 0) (serviceI 0) (realmN (0 / 3)) = (4, true) := (latS_app [] ⟨serviceN 0, serviceI 0, realmN (0 / 3), 4, longK 2⟩ (serviceN 0) (serviceI 0) (realmN (0 / 3))).trans (latK_yes (a := (-1, false)) (s := ⟨serviceN 0, serviceI 0, realmN (0 / 3), 4, longK 2⟩) rfl rfl rfl (.inl rfl))
  rw [e] at c
  exact c
theorem c_awake13 : Fn Try.prog 15 [] [] (.one (.c (.o (.b true)))) [] := by
  have c1 := c_awk13a
  have c2 := c_awk13b
  have c3 := c_awk13c
  have cS := c_Service 0 (by omega)
  have cL := c_Long 2 (by omega)
  generalize serviceN 0 = N at *
  generalize serviceI 0 = I at *
  generalize realmN (0 / 3) = R at *
  generalize longK 2 = K at *
  refine Fn_intro (G := g15) (goodA rfl) (fn := Try.f15) rfl rfl rfl rfl rfl ?_
  (repeat' ((conv => whnf) <;> first | with_reducible refine boolK_refl ?_ | exact rfl | with_reducible refine boolK_dec (fun _ => ?_) (fun _ => ?_) <;> try (exfalso; omega) | refine boolK_beq (fun _ => ?_) (fun _ => ?_) <;> try (exfalso; first | omega | contradiction) | refine boolK_bne (fun _ => ?_) (fun _ => ?_) <;> try (exfalso; first | omega | contradiction) | (with_reducible first | refine boolK_not ?_ | refine boolK_and ?_ | refine boolK_or ?_ | refine boolK_true ?_ | refine boolK_false ?_) | refine boolK_intro (fun _ => ?_) (fun _ => ?_) <;> try (exfalso; simp_all; done) | with_reducible refine natK_lit ?_ | refine natK_of rfl ?_ | refine natK_any ?_ | refine jP ?_ | refine jQ ?_ | refine jR ?_ | refine jS ?_ | refine jT ?_ | refine jU (fun _ => ?_) | refine jV ?_ | refine jW ?_ | refine jX ?_ | refine jY ?_ | refine jZ ?_ | refine ja ?_ | refine jb ?_ | refine jc ?_ | refine jd ?_ | refine je ?_ | refine jf ?_ | refine jg ?_ | refine jh ?_ | refine ji ?_ | refine jj ?_ | refine jk ?_ | refine jn ?_ | refine jo ?_ | refine jp ?_ | refine jq ?_ | refine jr ?_ | refine js ?_ | refine callK_intro (c1) ?_ | refine callK_intro (c2) ?_ | refine callK_intro (c3) ?_ | refine callK_intro (cS) ?_ | refine callK_intro (cL) ?_ | refine jt ?_ | refine jx ?_ | refine jy ?_ | refine ju ?_ | refine jv ?_)) <;> (try (conv => whnf))
end Go.Sx

/-
  Contracts of the small functions of the laws about caches of credentials.
-/
import Derived.Test.YtgiekmlofndeaaaCCcM
import Derived.Test.YtgiekmlofndeaaaCCcB
import Derived.Test.YtgiekmlofndeaaaCCcE
set_option linter.all false
namespace Go.Sx
open Go.Proofs Go.RowKit
noncomputable def g6 : Par := par 67 (nthLL [[1], [1, 29], [2], [1, 3], [1, 3, 34], [1, 3], [1, 3, 4], [1, 3, 66], [2], [2]]) [2] (nthLL [])
noncomputable def g5 : Par := par 57 (nthLL [[], [1, 2], [1, 2, 3, 4], [2, 3, 4, 5, 6], [2, 3, 4, 6, 7, 8], [0]]) [0] (nthLL [[], [], [], [0, 0, 2, 6, 15, 31, 63, 63, 0, 383, 1023], [0, 0, 3, 7, 15, 15, 0, 95, 255], [0, 1, 3, 7, 15, 31, 63, 127, 255, 511, 1023, 2047, 4095, 8191, 16383, 32767, 65535, 131071, 262143, 524287, 1048575, 524287, 4194303, 8388607, 16777215]])
noncomputable def g10 : Par := par 31 (nthLL [[1, 2], [1, 2, 7], [1, 2, 3], [1, 2], [2]]) [2, 100001, 100002] (nthLL [[], [], [], [0, 0, 2, 7, 0, 0, 32, 96, 239, 511, 1023, 2047, 4095, 8191]])
set_option maxRecDepth 10000
set_option maxHeartbeats 4000000
theorem cr_typ {ls : List L} (t : Typ (tabF tab) 38 ls) : ∃ s : CR, ls = crR s ∧ (0 ≤ s.k ∧ s.k ≤ 18446744073709551615) ∧ i64R s.lf ∧ i64R s.kv ∧ i64R s.is := by
  obtain ⟨partsa, rfl, hla, hpa⟩ := typ_struct t rfl
  obtain ⟨qa_0, qa_1, qa_2, qa_3, qa_4, qa_5, rfl⟩ : ∃ qa_0 qa_1 qa_2 qa_3 qa_4 qa_5, partsa = [qa_0, qa_1, qa_2, qa_3, qa_4, qa_5] := by
    match partsa, hla with
    | [qa_0, qa_1, qa_2, qa_3, qa_4, qa_5], _ => exact ⟨qa_0, qa_1, qa_2, qa_3, qa_4, qa_5, rfl⟩
  have ta_0 := hpa 0 _ qa_0 rfl rfl
  obtain ⟨partsa_0, rfl, hla_0, hpa_0⟩ := typ_struct ta_0 rfl
  obtain ⟨qa_0_0, qa_0_1, qa_0_2, rfl⟩ : ∃ qa_0_0 qa_0_1 qa_0_2, partsa_0 = [qa_0_0, qa_0_1, qa_0_2] := by
    match partsa_0, hla_0 with
    | [qa_0_0, qa_0_1, qa_0_2], _ => exact ⟨qa_0_0, qa_0_1, qa_0_2, rfl⟩
  have ta_0_0 := hpa_0 0 _ qa_0_0 rfl rfl
  obtain ⟨a_0_0, rfl⟩ := typ_str ta_0_0 rfl
  have ta_0_1 := hpa_0 1 _ qa_0_1 rfl rfl
  obtain ⟨a_0_1, rfl⟩ := typ_str ta_0_1 rfl
  have ta_0_2 := hpa_0 2 _ qa_0_2 rfl rfl
  obtain ⟨a_0_2, rfl⟩ := typ_str ta_0_2 rfl
  have ta_1 := hpa 1 _ qa_1 rfl rfl
  obtain ⟨a_1, rfl, wa_1⟩ := typ_int ta_1 rfl
  have ta_2 := hpa 2 _ qa_2 rfl rfl
  obtain ⟨a_2, rfl, wa_2⟩ := typ_int ta_2 rfl
  have ta_3 := hpa 3 _ qa_3 rfl rfl
  obtain ⟨a_3, rfl, wa_3⟩ := typ_int ta_3 rfl
  have ta_4 := hpa 4 _ qa_4 rfl rfl
  obtain ⟨a_4, rfl, wa_4⟩ := typ_int ta_4 rfl
  have ta_5 := hpa 5 _ qa_5 rfl rfl
  obtain ⟨a_5, rfl⟩ := typ_bytes ta_5 rfl rfl
  exact ⟨⟨a_0_0, a_0_1, a_0_2, a_1, a_2, a_3, a_4, a_5⟩, rfl, wf_u64 wa_1, wf_i64 wa_2, wf_i64 wa_3, wf_i64 wa_4⟩
theorem cr_rows {rows : List (List L)} (h : ∀ r ∈ rows, Typ (tabF tab) 38 r) : ∃ l : List CR, rows = l.map crR ∧ ∀ s ∈ l, (0 ≤ s.k ∧ s.k ≤ 18446744073709551615) ∧ i64R s.lf ∧ i64R s.kv ∧ i64R s.is := rows_of fun r hr => cr_typ (h r hr)
theorem c_long15 (o1 o2 o3 : List UInt8) (l : List CR) {m : Nat} (hm : m = l.length) : Fn Try.prog 6 [.a [.s o1, .s o2, .s o3, .sl (flat crR l) m]] [] (.one (.c (.o (.b (ccLg o1 o2 o3 l))))) [] := by
  subst hm
  refine Fn_intro (G := g6) (goodA rfl) (fn := Try.f6) rfl rfl rfl rfl rfl ?_
  by_cases h30 : 30 < l.length ∨ 100 < o1.length ∨ 100 < o2.length ∨ 100 < o3.length
  · rw [ccLg_long h30]
    (repeat' ((conv => whnf) <;> first | exact rfl | with_reducible refine boolK_dec (fun _ => ?_) (fun _ => ?_) <;> try (exfalso; omega) | refine boolK_beq (fun _ => ?_) (fun _ => ?_) <;> try (exfalso; first | omega | contradiction) | refine boolK_bne (fun _ => ?_) (fun _ => ?_) <;> try (exfalso; first | omega | contradiction) | (with_reducible first | refine boolK_not ?_ | refine boolK_and ?_ | refine boolK_or ?_ | refine boolK_true ?_ | refine boolK_false ?_) | refine boolK_intro (fun _ => ?_) (fun _ => ?_) <;> try (exfalso; simp_all; done) | refine jA ?_ | refine jB ?_ | refine jH ?_ | refine jI ?_ | refine jJ ?_ | refine jK ?_ | with_reducible refine natK_lit ?_ | refine natK_of rfl ?_ | refine natK_any ?_ | refine jP ?_ | refine jQ ?_ | refine jR ?_ | refine jS ?_ | refine jT ?_ | refine jU (fun _ => ?_) | refine jV ?_ | refine jW ?_ | refine jX ?_ | refine jY ?_ | refine jZ ?_ | refine ja ?_ | refine jb ?_ | refine jc ?_ | refine jd ?_ | refine je ?_ | refine jf ?_ | refine jg ?_ | refine jh ?_ | refine ji ?_ | refine jj ?_ | refine jk ?_ | refine jn ?_ | refine jo ?_ | refine jp ?_ | refine jq ?_ | refine jr ?_ | refine js ?_ | refine jt ?_ | refine jx ?_ | refine jy ?_ | refine ju ?_ | refine jv ?_)) <;> (try (conv => whnf))
  · (repeat' ((conv => whnf) <;> first | exact rfl | with_reducible refine boolK_dec (fun _ => ?_) (fun _ => ?_) <;> try (exfalso; omega) | refine boolK_beq (fun _ => ?_) (fun _ => ?_) <;> try (exfalso; first | omega | contradiction) | refine boolK_bne (fun _ => ?_) (fun _ => ?_) <;> try (exfalso; first | omega | contradiction) | (with_reducible first | refine boolK_not ?_ | refine boolK_and ?_ | refine boolK_or ?_ | refine boolK_true ?_ | refine boolK_false ?_) | refine boolK_intro (fun _ => ?_) (fun _ => ?_) <;> try (exfalso; simp_all; done) | refine jA ?_ | refine jB ?_ | refine jH ?_ | refine jI ?_ | refine jJ ?_ | refine jK ?_ | with_reducible refine natK_lit ?_ | refine natK_of rfl ?_ | refine natK_any ?_ | refine jP ?_ | refine jQ ?_ | refine jR ?_ | refine jS ?_ | refine jT ?_ | refine jU (fun _ => ?_) | refine jV ?_ | refine jW ?_ | refine jX ?_ | refine jY ?_ | refine jZ ?_ | refine ja ?_ | refine jb ?_ | refine jc ?_ | refine jd ?_ | refine je ?_ | refine jf ?_ | refine jg ?_ | refine jh ?_ | refine ji ?_ | refine jj ?_ | refine jk ?_ | refine jn ?_ | refine jo ?_ | refine jp ?_ | refine jq ?_ | refine jr ?_ | refine js ?_ | refine jt ?_ | refine jx ?_ | refine jy ?_ | refine ju ?_ | refine jv ?_)) <;> (try (conv => whnf))
    refine loopK_inv (G := g6) (fun k st => ∃ j : Nat, k + j = l.length ∧ (∀ i, i < j → ¬ crLgE (l.getD i cr0)) ∧
      st = ⟨[(1, .c (.o (.p 1 0))), (3, .c (.o (.i .i64 (j : Int))))], [(1, .st [.s o1, .s o2, .s o3, .sl (flat crR l) l.length])]⟩) (n := l.length) ⟨0, by omega, by simp, rfl⟩ ?_
    rintro k st ⟨j, hj, hz, rfl⟩
    by_cases hjl : j < l.length
    · have e1 := ccLg_at (o1 := o1) (o2 := o2) (o3 := o3) hjl
      have e2 : ¬ crLgE (l.getD j cr0) → ∀ i, i < j + 1 → ¬ crLgE (l.getD i cr0) := fun h i hi => by
        by_cases e : i = j
        · subst e; exact h
        · exact hz i (by omega)
      unfold crLgE at e1
      rw [show crLgE (l.getD j cr0) = (100 < (l.getD j cr0).x.length ∨ 100 < (l.getD j cr0).y.length ∨ 100 < (l.getD j cr0).z.length ∨ 400 < (l.getD j cr0).t.length) from rfl] at e2
      (repeat' ((conv => whnf) <;> first | exact rfl | with_reducible refine boolK_dec (fun _ => ?_) (fun _ => ?_) <;> try (exfalso; omega) | refine boolK_beq (fun _ => ?_) (fun _ => ?_) <;> try (exfalso; first | omega | contradiction) | refine boolK_bne (fun _ => ?_) (fun _ => ?_) <;> try (exfalso; first | omega | contradiction) | (with_reducible first | refine boolK_not ?_ | refine boolK_and ?_ | refine boolK_or ?_ | refine boolK_true ?_ | refine boolK_false ?_) | refine boolK_intro (fun _ => ?_) (fun _ => ?_) <;> try (exfalso; simp_all; done) | refine jA ?_ | refine jB ?_ | refine jH ?_ | refine jI ?_ | refine jJ ?_ | refine jK ?_ | with_reducible refine natK_lit ?_ | refine natK_of rfl ?_ | refine natK_any ?_ | refine jP ?_ | refine jQ ?_ | refine jR ?_ | refine jS ?_ | refine jT ?_ | refine jU (fun _ => ?_) | refine jV ?_ | refine jW ?_ | refine jX ?_ | refine jY ?_ | refine jZ ?_ | refine ja ?_ | refine jb ?_ | refine jc ?_ | refine jd ?_ | refine je ?_ | refine jf ?_ | refine jg ?_ | refine jh ?_ | refine ji ?_ | refine jj ?_ | refine jk ?_ | refine jn ?_ | refine jo ?_ | refine jp ?_ | refine jq ?_ | refine jr ?_ | refine js ?_ | refine headS_cr hjl ?_ | exact ⟨k - 1, by omega, j + 1, by omega, e2 (by omega), rfl⟩ | refine jt ?_ | refine jx ?_ | refine jy ?_ | refine ju ?_ | refine sideK_intro (by first | (rw [e1 (by omega)] <;> first | rfl | exact ⟨rfl, rfl⟩ | exact ⟨rfl, rfl, rfl⟩)) ?_ | refine jv ?_)) <;> (try (conv => whnf))
    · rw [ccLg_no h30 (fun i hi => hz i (by omega))]
      (repeat' ((conv => whnf) <;> first | exact rfl | with_reducible refine boolK_dec (fun _ => ?_) (fun _ => ?_) <;> try (exfalso; omega) | refine boolK_beq (fun _ => ?_) (fun _ => ?_) <;> try (exfalso; first | omega | contradiction) | refine boolK_bne (fun _ => ?_) (fun _ => ?_) <;> try (exfalso; first | omega | contradiction) | (with_reducible first | refine boolK_not ?_ | refine boolK_and ?_ | refine boolK_or ?_ | refine boolK_true ?_ | refine boolK_false ?_) | refine boolK_intro (fun _ => ?_) (fun _ => ?_) <;> try (exfalso; simp_all; done) | refine jA ?_ | refine jB ?_ | refine jH ?_ | refine jI ?_ | refine jJ ?_ | refine jK ?_ | with_reducible refine natK_lit ?_ | refine natK_of rfl ?_ | refine natK_any ?_ | refine jP ?_ | refine jQ ?_ | refine jR ?_ | refine jS ?_ | refine jT ?_ | refine jU (fun _ => ?_) | refine jV ?_ | refine jW ?_ | refine jX ?_ | refine jY ?_ | refine jZ ?_ | refine ja ?_ | refine jb ?_ | refine jc ?_ | refine jd ?_ | refine je ?_ | refine jf ?_ | refine jg ?_ | refine jh ?_ | refine ji ?_ | refine jj ?_ | refine jk ?_ | refine jn ?_ | refine jo ?_ | refine jp ?_ | refine jq ?_ | refine jr ?_ | refine js ?_ | refine jt ?_ | refine jx ?_ | refine jy ?_ | refine ju ?_ | refine jv ?_)) <;> (try (conv => whnf))
theorem awk15_h1 : initS (userN 0) [] (realmN (0 / 3)) = ((userN 0, [], realmN (0 / 3)), 0) := initS_yes (by decide +kernel)
theorem awk15_h2 : ccC (userN 0) [] (realmN (0 / 3)) [] = 0 := ccC_ok (by decide +kernel) (by simp) (by simp)
theorem awk15_h3 : ccC (userN 0) [] (realmN (0 / 3)) [⟨serviceN 0, serviceI 0, realmN (0 / 3), sessN 1, 0, 0, 0, []⟩] = 0 := by
  refine ccC_ok (by decide +kernel) (by simp) fun j hj => ?_
  have : j = 0 := by simpa using hj
  subst this
  exact crE_ok rfl (by decide +kernel) (by decide +kernel) (by unfold crR0; decide) (by simp) (by omega)
theorem c_awk15a : Fn Try.prog 13 [.a [.s (userN 0), .s [], .s (realmN (0 / 3))]] [] (.tup [.c (.a [.s (userN 0), .s [], .s (realmN (0 / 3)), .sl [] 0]), .c (.o (.i .i64 0))]) [] := by
  have c := c_crInit (userN 0) [] (realmN (0 / 3)) (by decide +kernel)
  rw [awk15_h1] at c
  exact c
theorem c_awk15c : Fn Try.prog 35 [.a [.s (userN 0), .s [], .s (realmN (0 / 3)), .sl [] 0], .a [.s (serviceN 0), .s (serviceI 0), .s (realmN (0 / 3)), .i .u64 (sessN 1), .i .i64 0, .i .i64 0, .i .i64 0, .sl [] 0]] [] (.tup [.c (.a [.s (userN 0), .s [], .s (realmN (0 / 3)), .sl [.s (serviceN 0), .s (serviceI 0), .s (realmN (0 / 3)), .i .u64 (sessN 1), .i .i64 0, .i .i64 0, .i .i64 0, .sl [] 0] 1]), .c (.o (.i .i64 0))]) [] := by
  have c := c_crStore (userN 0) [] (realmN (0 / 3)) [] rfl (by decide) (by decide +kernel) (by simp) (serviceN 0) (serviceI 0) (realmN (0 / 3)) (sessN 1) 0 0 0 [] rfl ⟨by decide +kernel, by decide +kernel, by decide +kernel, by decide, by decide, by unfold i64R; decide, by unfold i64R; decide, by unfold i64R; decide⟩
  rw [ccS_4 awk15_h2 awk15_h3 (by simp [keepS])] at c
  exact c
theorem c_awk15d : Fn Try.prog 37 [.a [.s (userN 0), .s [], .s (realmN (0 / 3)), .sl [.s (serviceN 0), .s (serviceI 0), .s (realmN (0 / 3)), .i .u64 (sessN 1), .i .i64 0, .i .i64 0, .i .i64 0, .sl [] 0] 1], .a [.s (serviceN 0), .s (serviceI 0), .s (realmN (0 / 3))]] [] (.tup [.c (.a [.s (serviceN 0), .s (serviceI 0), .s (realmN (0 / 3)), .i .u64 (sessN 1), .i .i64 0, .i .i64 0, .i .i64 0, .sl [] 0]), .c (.o (.b true))]) [] := by
  have c := c_crGet (userN 0) [] (realmN (0 / 3)) [⟨serviceN 0, serviceI 0, realmN (0 / 3), sessN 1, 0, 0, 0, []⟩] (m := 1) rfl (by simp) (fun s hs => by simp at hs; subst hs; exact ⟨by decide +kernel, by decide +kernel, by decide +kernel, by decide, by decide, by unfold i64R; decide, by unfold i64R; decide, by unfold i64R; decide⟩) (serviceN 0) (serviceI 0) (realmN (0 / 3))
  have e : crG [(⟨serviceN 0, serviceI 0, realmN (0 / 3), sessN 1, 0, 0, 0, []⟩ : CR)] (serviceN 0) (serviceI 0) (realmN (0 / 3)) = (⟨serviceN 0, serviceI 0, realmN (0 / 3), sessN 1, 0, 0, 0, []⟩, true) :=
    crG_yes (j := 0) (find_at (p := crIs (serviceN 0) (serviceI 0) (realmN (0 / 3))) (l := [⟨serviceN 0, serviceI 0, realmN (0 / 3), sessN 1, 0, 0, 0, []⟩]) cr0 (by simp) (by simp) (crIs_yes rfl rfl rfl)) (by simp)
  rw [e] at c
  exact c
theorem awk15_h4 : ccN ((userN 0, [], realmN (0 / 3)), []) = (([97, 110, 110, 0, 0, 65, 84, 72, 0] : List UInt8), 0) := (ccN_ok awk15_h2).trans (by decide +kernel)
theorem c_awk15b : Fn Try.prog 34 [.a [.s (userN 0), .s [], .s (realmN (0 / 3)), .sl [] 0]] [] (.tup [.fr (([97, 110, 110, 0, 0, 65, 84, 72, 0] : List UInt8).map u8) 9 1, .c (.o (.i .i64 0))]) [] := by
  have c := c_crEncode (userN 0) [] (realmN (0 / 3)) [] rfl (by simp) (by decide +kernel) (by simp)
  rw [awk15_h4] at c
  exact c
theorem c_awake15 : Fn Try.prog 5 [] [] (.one (.c (.o (.b true)))) [] := by
  have c1 := c_awk15a
  have c2 := c_awk15b
  have c3 := c_awk15c
  have c4 := c_awk15d
  have cU := c_User 0 (by omega)
  have cS := c_Service 0 (by omega)
  have cK := c_Session 1 (by omega)
  generalize userN 0 = U at *
  generalize serviceN 0 = N at *
  generalize serviceI 0 = I at *
  generalize realmN (0 / 3) = R at *
  generalize sessN 1 = K at *
  refine Fn_intro (G := g5) (goodA rfl) (fn := Try.f5) rfl rfl rfl rfl rfl ?_
  (repeat' ((conv => whnf) <;> first | with_reducible refine boolK_refl ?_ | exact rfl | with_reducible refine boolK_dec (fun _ => ?_) (fun _ => ?_) <;> try (exfalso; omega) | refine boolK_beq (fun _ => ?_) (fun _ => ?_) <;> try (exfalso; first | omega | contradiction) | refine boolK_bne (fun _ => ?_) (fun _ => ?_) <;> try (exfalso; first | omega | contradiction) | (with_reducible first | refine boolK_not ?_ | refine boolK_and ?_ | refine boolK_or ?_ | refine boolK_true ?_ | refine boolK_false ?_) | refine boolK_intro (fun _ => ?_) (fun _ => ?_) <;> try (exfalso; simp_all; done) | refine jC ?_ | refine jD ?_ | refine jE ?_ | refine jF ?_ | refine jG ?_ | with_reducible refine natK_lit ?_ | refine natK_of rfl ?_ | refine natK_any ?_ | refine jP ?_ | refine jQ ?_ | refine jR ?_ | refine jS ?_ | refine jT ?_ | refine jU (fun _ => ?_) | refine jV ?_ | refine jW ?_ | refine jX ?_ | refine jY ?_ | refine jZ ?_ | refine ja ?_ | refine jb ?_ | refine jc ?_ | refine jd ?_ | refine je ?_ | refine jf ?_ | refine jg ?_ | refine jh ?_ | refine ji ?_ | refine jj ?_ | refine jk ?_ | refine jn ?_ | refine jo ?_ | refine jp ?_ | refine jq ?_ | refine jr ?_ | refine js ?_ | refine callK_intro (c1) ?_ | refine callK_intro (c2) ?_ | refine callK_intro (c3) ?_ | refine callK_intro (c4) ?_ | refine callK_intro (cU) ?_ | refine callK_intro (cS) ?_ | refine callK_intro (cK) ?_ | refine jt ?_ | refine jx ?_ | refine jy ?_ | refine ju ?_ | refine jv ?_)) <;> (try (conv => whnf))
theorem c_full15 (o1 o2 o3 : List UInt8) (O : List CR) {m : Nat} (hm : m = O.length) (hO : O.length < 20) : Fn Try.prog 10 [.a [.s o1, .s o2, .s o3, .sl (flat crR O) m]] [] (.one (.sa [.s o1, .s o2, .s o3] (flat crR (fulS O)) (fulS O).length 8 [])) [] := by
  subst hm
  have cS0 := c_Session (O.length : Int) (by omega)
  have ef0 : flat crR O ++ crR (fulE O.length) = flat crR (O ++ (((List.range (O.length + 1)).drop O.length).map fulE)) := by rw [ful_next (Nat.le_refl _), List.drop_of_length_le (by simp), List.map_nil, List.append_nil]; exact ((flat_append _ _).trans (by rw [flat_one])).symm
  have hfl0 := flat_len crR_len O
  refine Fn_intro (G := g10) (goodA rfl) (fn := Try.f10) rfl rfl rfl rfl rfl ?_
  (repeat' ((conv => whnf) <;> first | exact rfl | with_reducible refine boolK_dec (fun _ => ?_) (fun _ => ?_) <;> try (exfalso; omega) | refine boolK_beq (fun _ => ?_) (fun _ => ?_) <;> try (exfalso; first | omega | contradiction) | refine boolK_bne (fun _ => ?_) (fun _ => ?_) <;> try (exfalso; first | omega | contradiction) | (with_reducible first | refine boolK_not ?_ | refine boolK_and ?_ | refine boolK_or ?_ | refine boolK_true ?_ | refine boolK_false ?_) | refine boolK_intro (fun _ => ?_) (fun _ => ?_) <;> try (exfalso; simp_all; done) | refine jA ?_ | refine jB ?_ | refine jC ?_ | refine jD ?_ | refine jE ?_ | refine jF ?_ | refine jG ?_ | refine jH ?_ | refine jI ?_ | refine jJ ?_ | refine jK ?_ | with_reducible refine natK_lit ?_ | refine natK_of rfl ?_ | refine natK_any ?_ | refine jP ?_ | refine jQ ?_ | refine jR ?_ | refine jS ?_ | refine jT ?_ | refine jU (fun _ => ?_) | refine jV ?_ | refine jW ?_ | refine jX ?_ | refine jY ?_ | refine jZ ?_ | refine ja ?_ | refine jb ?_ | refine jc ?_ | refine jd ?_ | refine je ?_ | refine jf ?_ | refine jg ?_ | refine jh ?_ | refine ji ?_ | refine jj ?_ | refine jk ?_ | refine jn ?_ | refine jo ?_ | refine jp ?_ | refine jq ?_ | refine jr ?_ | refine js ?_ | refine jt ?_ | refine jx ?_ | refine jy ?_ | refine ju ?_ | refine jv ?_)) <;> (try (conv => whnf))
  refine loopK_step (G := g10) ?_
  (repeat' ((conv => whnf) <;> first | exact rfl | with_reducible refine boolK_dec (fun _ => ?_) (fun _ => ?_) <;> try (exfalso; omega) | refine boolK_beq (fun _ => ?_) (fun _ => ?_) <;> try (exfalso; first | omega | contradiction) | refine boolK_bne (fun _ => ?_) (fun _ => ?_) <;> try (exfalso; first | omega | contradiction) | (with_reducible first | refine boolK_not ?_ | refine boolK_and ?_ | refine boolK_or ?_ | refine boolK_true ?_ | refine boolK_false ?_) | refine boolK_intro (fun _ => ?_) (fun _ => ?_) <;> try (exfalso; simp_all; done) | refine jA ?_ | refine jB ?_ | refine jC ?_ | refine jD ?_ | refine jE ?_ | refine jF ?_ | refine jG ?_ | refine jH ?_ | refine jI ?_ | refine jJ ?_ | refine jK ?_ | with_reducible refine natK_lit ?_ | refine natK_of rfl ?_ | refine natK_any ?_ | refine jP ?_ | refine jQ ?_ | refine jR ?_ | refine jS ?_ | refine jT ?_ | refine jU (fun _ => ?_) | refine jV ?_ | refine jW ?_ | refine jX ?_ | refine jY ?_ | refine jZ ?_ | refine ja ?_ | refine jb ?_ | refine jc ?_ | refine jd ?_ | refine je ?_ | refine jf ?_ | refine jg ?_ | refine jh ?_ | refine ji ?_ | refine jj ?_ | refine jk ?_ | refine jn ?_ | refine jo ?_ | refine jp ?_ | refine jq ?_ | refine jr ?_ | refine js ?_ | refine callK_intro (cS0) ?_ | refine catK_of ef0 ?_ | refine bytesK_of (l := [byteOf (97 + (O.length : Int))]) rfl ?_ | refine jt ?_ | refine jx ?_ | refine jy ?_ | refine ju ?_ | refine sideK_intro (by first | (exact ⟨by omega, by omega⟩)) ?_ | refine jv ?_)) <;> (try (conv => whnf))
  refine loopK_inv (G := g10) (fun n st => ∃ (j : Nat), n + j = 20 ∧ O.length < j ∧
    st = ⟨[(1, .c (.o (.p 1 0))), (2, .c (.o (.p 2 0)))], [(1, .st [.s o1, .s o2, .s o3, .gw 2019 j 8]), (2, .st [.s [], .s [], .s [], .nl]), (2019, .ar (flat crR (O ++ (((List.range j).drop O.length).map fulE))))]⟩) (n := 20 - (O.length + 1)) ⟨O.length + 1, by omega, by omega, by rw [Nat.zero_add O.length]; rfl⟩ ?_
  rintro n st ⟨j, hj, hOj, rfl⟩
  by_cases hlt : j < 20
  · have cS := c_Session (j : Int) (by omega)
    have en := ful_next (O := O) (j := j) (by omega)
    have ef : flat crR (O ++ (((List.range j).drop O.length).map fulE)) ++ crR (fulE j) = flat crR (O ++ (((List.range (j + 1)).drop O.length).map fulE)) := by rw [en]; exact ((flat_append _ _).trans (by rw [flat_one])).symm
    have hl := ful_len (O := O) (j := j) (by omega)
    have hfl := flat_len crR_len (O ++ (((List.range j).drop O.length).map fulE))
    rw [hl] at hfl
    generalize O ++ (((List.range j).drop O.length).map fulE) = P at *
    (repeat' ((conv => whnf) <;> first | exact rfl | with_reducible refine boolK_dec (fun _ => ?_) (fun _ => ?_) <;> try (exfalso; omega) | refine boolK_beq (fun _ => ?_) (fun _ => ?_) <;> try (exfalso; first | omega | contradiction) | refine boolK_bne (fun _ => ?_) (fun _ => ?_) <;> try (exfalso; first | omega | contradiction) | (with_reducible first | refine boolK_not ?_ | refine boolK_and ?_ | refine boolK_or ?_ | refine boolK_true ?_ | refine boolK_false ?_) | refine boolK_intro (fun _ => ?_) (fun _ => ?_) <;> try (exfalso; simp_all; done) | refine jA ?_ | refine jB ?_ | refine jC ?_ | refine jD ?_ | refine jE ?_ | refine jF ?_ | refine jG ?_ | refine jH ?_ | refine jI ?_ | refine jJ ?_ | refine jK ?_ | with_reducible refine natK_lit ?_ | refine natK_of rfl ?_ | refine natK_any ?_ | refine jP ?_ | refine jQ ?_ | refine jR ?_ | refine jS ?_ | refine jT ?_ | refine jU (fun _ => ?_) | refine jV ?_ | refine jW ?_ | refine jX ?_ | refine jY ?_ | refine jZ ?_ | refine ja ?_ | refine jb ?_ | refine jc ?_ | refine jd ?_ | refine je ?_ | refine jf ?_ | refine jg ?_ | refine jh ?_ | refine ji ?_ | refine jj ?_ | refine jk ?_ | refine jn ?_ | refine jo ?_ | refine jp ?_ | refine jq ?_ | refine jr ?_ | refine js ?_ | refine callK_intro (cS) ?_ | refine catK_of ef ?_ | refine bytesK_of (l := [byteOf (97 + (j : Int))]) rfl ?_ | exact ⟨n - 1, by omega, j + 1, by omega, by omega, by rw [Nat.zero_add j]⟩ | refine jt ?_ | refine jx ?_ | refine jy ?_ | refine ju ?_ | refine sideK_intro (by first | (exact ⟨by omega, by omega⟩)) ?_ | refine jv ?_)) <;> (try (conv => whnf))
  · rw [ful_all (by omega) hlt (by omega)]
    have : (fulS O).length = j := by rw [fulS_len (by omega)]; omega
    rw [this]
    (repeat' ((conv => whnf) <;> first | exact rfl | with_reducible refine boolK_dec (fun _ => ?_) (fun _ => ?_) <;> try (exfalso; omega) | refine boolK_beq (fun _ => ?_) (fun _ => ?_) <;> try (exfalso; first | omega | contradiction) | refine boolK_bne (fun _ => ?_) (fun _ => ?_) <;> try (exfalso; first | omega | contradiction) | (with_reducible first | refine boolK_not ?_ | refine boolK_and ?_ | refine boolK_or ?_ | refine boolK_true ?_ | refine boolK_false ?_) | refine boolK_intro (fun _ => ?_) (fun _ => ?_) <;> try (exfalso; simp_all; done) | refine jA ?_ | refine jB ?_ | refine jC ?_ | refine jD ?_ | refine jE ?_ | refine jF ?_ | refine jG ?_ | refine jH ?_ | refine jI ?_ | refine jJ ?_ | refine jK ?_ | with_reducible refine natK_lit ?_ | refine natK_of rfl ?_ | refine natK_any ?_ | refine jP ?_ | refine jQ ?_ | refine jR ?_ | refine jS ?_ | refine jT ?_ | refine jU (fun _ => ?_) | refine jV ?_ | refine jW ?_ | refine jX ?_ | refine jY ?_ | refine jZ ?_ | refine ja ?_ | refine jb ?_ | refine jc ?_ | refine jd ?_ | refine je ?_ | refine jf ?_ | refine jg ?_ | refine jh ?_ | refine ji ?_ | refine jj ?_ | refine jk ?_ | refine jn ?_ | refine jo ?_ | refine jp ?_ | refine jq ?_ | refine jr ?_ | refine js ?_ | refine jt ?_ | refine jx ?_ | refine jy ?_ | refine ju ?_ | refine sideK_intro (by first | (exact ⟨rfl, rfl, rfl⟩)) ?_ | refine jv ?_)) <;> (try (conv => whnf))
end Go.Sx

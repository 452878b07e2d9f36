/-
  The contract of the document's Load.
-/
import Derived.Test.YtdpbmmmdmecfdaaGreatDoorCDumpT
set_option linter.all false
namespace Go.Sx
open Go.Proofs Go.RowKit
def loadI (s : List UInt8) : (List UInt8 × List DE) × Int := match loadR s with | some q => (q, 0) | none => (([], []), 100)
theorem loadI_no {s : List UInt8} (h : loadR s = none) : loadI s = (([], []), 100) := by rw [loadI, h]
theorem loadI_ok {s r : List UInt8} {l : List DE} (h : loadR s = some (r, l)) : loadI s = ((r, l), 0) := by rw [loadI, h]
theorem entsR_snoc {A : List (List UInt8)} {x : List UInt8} {e : DE} (hx : entR x = some e) : ∀ {es : List DE}, entsR A = some es → entsR (A ++ [x]) = some (es ++ [e]) := by
  induction A with
  | nil => intro es h; simp only [entsR, Option.some.injEq] at h; subst h; simp [entsR, hx]
  | cons a r ih =>
    intro es h
    simp only [entsR, List.cons_append] at h ⊢
    cases h1 : entR a with
    | none => rw [h1] at h; cases h
    | some e1 =>
      rw [h1] at h
      cases h2 : entsR r with
      | none => rw [h2] at h; cases h
      | some l' =>
        rw [h2] at h
        simp only [Option.bind_some, Option.some.injEq] at h
        subst h
        rw [ih h2]
        rfl
theorem entsR_bad {A B : List (List UInt8)} {x : List UInt8} (hx : entR x = none) : entsR (A ++ x :: B) = none := by
  induction A with
  | nil => simp [entsR, hx]
  | cons a r ih =>
    simp only [entsR, List.cons_append, ih]
    cases entR a <;> rfl
theorem entR_sm {s : List UInt8} {e : DE} (h : entR s = some e) : deSm s.length e := by
  have hj := entR_is h
  unfold entR at h
  split at h
  · split at h
    · rename_i k a b c d f g e2 e3 e4 e5 e6 e7 e8
      split at h
      · simp only [Option.some.injEq] at h
        subst h
        have hk := (numR_is e2).2.2
        rename_i h9 _
        have part : ∀ i, i < 9 → ((spl 9 s).getD i []).length ≤ s.length := fun i hi => spl_part (getD_mem (d := []) (by omega))
        exact ⟨part 0 (by omega), part 1 (by omega), by show (0 : Int) ≤ (k : Int); omega, by show (k : Int) ≤ 18446744073709551615; omega⟩
      · cases h
    · cases h
  · cases h
theorem entI_is {s : List UInt8} (h : (entI s).2 = true) : entR s = some (entI s).1 := by
  unfold entI at h ⊢
  split at h
  · rename_i e he
    rw [he]
  · cases h
theorem entI_non {s : List UInt8} (h : (entI s).2 = false) : entR s = none := by
  unfold entI at h
  split at h
  · cases h
  · assumption
theorem loadR_1 {s : List UInt8} {Q : List (List UInt8)} {z : List UInt8} (hq : spl 10 s = Q ++ [z]) (h : Q.length < 1 ∨ ¬ z = []) : loadR s = none := by
  rw [loadR, hq, if_neg]
  rintro ⟨h1, h2⟩
  simp only [List.length_append, List.length_singleton] at h1
  rcases h with h | h
  · omega
  · rw [List.getLast?_append] at h2
    simp at h2
    exact h h2
theorem loadR_2 {s q0 : List UInt8} {T : List (List UInt8)} (hq : spl 10 s = (q0 :: T) ++ [[]]) : loadR s = (entsR T).bind fun l => if dbC q0 l = 0 then some (q0, l) else none := by
  rw [loadR, hq, if_pos ⟨by simp, by rw [List.getLast?_append]; rfl⟩]
  simp
theorem headS_line {q0 : List UInt8} {T : List (List UInt8)} {j n : Nat} (hj : j < T.length) (hn : n = j + 1) {K : List UInt8 → List L → Prop} (hk : K (T.getD j []) (((T.drop (j + 1)).map L.s) ++ [L.s []])) : headS (((q0 :: T).map L.s ++ [L.s []]).drop n) K := by
  subst hn
  refine ⟨T.getD j [], _, ?_, hk⟩
  rw [List.map_cons, List.cons_append, List.drop_succ_cons, List.drop_append_of_le_length (by simp; omega), ← List.map_drop, List.drop_eq_getElem_cons hj, List.map_cons, show T.getD j [] = T[j] from by rw [List.getD_eq_getElem?_getD, List.getElem?_eq_getElem hj]; rfl]
  rfl
noncomputable def g12 : Par := par 57 (nthLL [[0, 2], [2, 4], [2, 4, 22], [2, 3], [2, 4, 5], [2, 4, 5, 6], [2, 4, 5, 6, 32], [2, 4, 5, 6], [2, 4, 5, 6, 7, 8], [2, 4, 5, 6, 7, 44], [2, 3], [2, 4, 5, 6], [2, 5, 54], [2, 3], [2, 3]]) [2, 3, 100005] (nthLL [])
set_option maxRecDepth 10000
set_option maxHeartbeats 16000000
theorem c_rLoad (s : List UInt8) (hs : s.length ≤ 80000) : Fn Tryz.prog 12 [.o (.s s)] [] (.tup [.c (.a [.s (loadI s).1.1, .sl (flat deR (loadI s).1.2) (loadI s).1.2.length]), .c (.o (.i .i64 (loadI s).2))]) [] := by
  have c0 := c_rSplit s 10 (by omega)
  obtain ⟨Q, z, hQ⟩ := spl_last 10 s
  have hlen := spl_len 10 s
  have hpart : ∀ p ∈ spl 10 s, p.length ≤ s.length := fun p h => spl_part h
  have r1 := fun h => loadI_no (loadR_1 hQ h)
  rw [hQ] at c0 hlen hpart
  rw [List.map_append, List.map_singleton, List.length_append, List.length_singleton] at c0
  rw [List.length_append, List.length_singleton] at hlen
  by_cases h2 : Q.length < 1 ∨ ¬ z = []
  · rw [r1 h2]
    refine Fn_intro (G := g12) (goodA rfl) (fn := Tryz.f12) rfl rfl rfl rfl rfl ?_
    (repeat' ((conv => whnf) <;> first | refine natK_of (j := Q.length) (by omega) ?_ | exact rfl | with_reducible refine boolK_dec (fun _ => ?_) (fun _ => ?_) <;> try (exfalso; omega) | refine boolK_beq (fun _ => ?_) (fun _ => ?_) <;> try (exfalso; first | omega | with_reducible contradiction) | refine boolK_bne (fun _ => ?_) (fun _ => ?_) <;> try (exfalso; first | omega | with_reducible contradiction) | (with_reducible first | refine boolK_not ?_ | refine boolK_and ?_ | refine boolK_or ?_ | refine boolK_true ?_ | refine boolK_false ?_) | refine boolK_intro (fun _ => ?_) (fun _ => ?_) <;> try (exfalso; simp_all; done) | refine jA ?_ | refine jB ?_ | refine jH ?_ | refine jI ?_ | refine jJ ?_ | refine jK ?_ | with_reducible refine natK_lit ?_ | refine natK_of rfl ?_ | refine natK_any ?_ | refine jP ?_ | refine jQ ?_ | refine jR ?_ | refine jS ?_ | refine jT ?_ | refine jU (fun _ => ?_) | refine jV ?_ | refine jX ?_ | refine jY ?_ | refine jZ ?_ | refine ja ?_ | refine jb ?_ | refine jc ?_ | refine jd ?_ | refine je ?_ | refine jf ?_ | refine jg ?_ | refine jh ?_ | refine ji ?_ | refine jj ?_ | refine jk ?_ | refine jo ?_ | refine jp ?_ | refine jq ?_ | refine jr ?_ | refine js ?_ | refine callK_intro (c0) ?_ | refine headS_last (by omega) ?_ | refine jt ?_ | refine jy ?_ | refine ju ?_ | refine jv ?_)) <;> (try (conv => whnf))
    all_goals (exfalso; rcases h2 with h2 | h2 <;> first | omega | contradiction)
  have hz : z = [] := by
    by_cases h : z = []
    · exact h
    · exact absurd (.inr h) h2
  subst hz
  obtain ⟨q0, T, rfl⟩ := List.exists_cons_of_ne_nil (l := Q) (by rintro rfl; exact h2 (.inl (by simp)))
  have r2 := loadR_2 hQ
  have hq0 : q0.length ≤ s.length := hpart q0 (by simp)
  have hT : ∀ p ∈ T, p.length ≤ s.length := fun p h => hpart p (by simp [h])
  simp only [List.length_cons] at c0 hlen
  clear r1 h2 hpart hQ
  refine Fn_intro (G := g12) (goodA rfl) (fn := Tryz.f12) rfl rfl rfl rfl rfl ?_
  (repeat' ((conv => whnf) <;> first | refine natK_of (j := T.length + 1) (by omega) ?_ | refine natK_of (j := 0) (by omega) ?_ | exact rfl | with_reducible refine boolK_dec (fun _ => ?_) (fun _ => ?_) <;> try (exfalso; omega) | refine boolK_beq (fun _ => ?_) (fun _ => ?_) <;> try (exfalso; first | omega | with_reducible contradiction) | refine boolK_bne (fun _ => ?_) (fun _ => ?_) <;> try (exfalso; first | omega | with_reducible contradiction) | (with_reducible first | refine boolK_not ?_ | refine boolK_and ?_ | refine boolK_or ?_ | refine boolK_true ?_ | refine boolK_false ?_) | refine boolK_intro (fun _ => ?_) (fun _ => ?_) <;> try (exfalso; simp_all; done) | refine jA ?_ | refine jB ?_ | refine jH ?_ | refine jI ?_ | refine jJ ?_ | refine jK ?_ | with_reducible refine natK_lit ?_ | refine natK_of rfl ?_ | refine natK_any ?_ | refine jP ?_ | refine jQ ?_ | refine jR ?_ | refine jS ?_ | refine jT ?_ | refine jU (fun _ => ?_) | refine jV ?_ | refine jX ?_ | refine jY ?_ | refine jZ ?_ | refine ja ?_ | refine jb ?_ | refine jc ?_ | refine jd ?_ | refine je ?_ | refine jf ?_ | refine jg ?_ | refine jh ?_ | refine ji ?_ | refine jj ?_ | refine jk ?_ | refine jo ?_ | refine jp ?_ | refine jq ?_ | refine jr ?_ | refine js ?_ | refine callK_intro (c0) ?_ | refine headS_last (by simp) ?_ | refine headS_part (P := (q0 :: T) ++ [[]]) rfl (by simp) ?_ | refine jt ?_ | refine jy ?_ | refine ju ?_ | refine jv ?_)) <;> (try (conv => whnf))
  refine loopK_inv (G := g12) (fun n st => ∃ (j : Nat) (es : List DE), n + j = T.length ∧ entsR (T.take j) = some es ∧ es.length = j ∧ (∀ e ∈ es, deSm 90000 e) ∧ ((j = 0 ∧ st = ⟨[(2, .c (.o (.p 2 0))), (4, .c (.o (.sl ((q0 :: T).map L.s ++ [L.s []]) (T.length + 1 + 1)))), (5, .c (.o (.p 5 0))), (6, .c (.o (.i .i64 ((j : Int) + 1))))], [(2, .st [.s [], .nl]), (5, .st [.s q0, .nl])]⟩) ∨ (0 < j ∧ st = ⟨[(2, .c (.o (.p 2 0))), (4, .c (.o (.sl ((q0 :: T).map L.s ++ [L.s []]) (T.length + 1 + 1)))), (5, .c (.o (.p 5 0))), (6, .c (.o (.i .i64 ((j : Int) + 1))))], [(2, .st [.s [], .nl]), (5, .st [.s q0, .gw 2081 j 9]), (2081, .ar (flat deR es))]⟩))) (n := T.length) ⟨0, [], by omega, rfl, rfl, by simp, .inl ⟨rfl, rfl⟩⟩ ?_
  rintro n st ⟨j, es, hj, hes, hel, hsm, hst⟩
  have hfl := flat_len deR_len es
  by_cases hjl : j < T.length
  · have hx : T.getD j [] ∈ T := getD_mem (d := []) hjl
    have cE := c_entry (T.getD j []) (by have := hT _ hx; omega)
    have hI := @entI_is (T.getD j [])
    have hN := @entI_non (T.getD j [])
    have ht : T.take (j + 1) = T.take j ++ [T.getD j []] := by
      rw [List.take_succ_eq_append_getElem hjl, show T.getD j [] = T[j] from by rw [List.getD_eq_getElem?_getD, List.getElem?_eq_getElem hjl]; rfl]
    have hsp : T = T.take j ++ T.getD j [] :: T.drop (j + 1) := by
      rw [show T.getD j [] = T[j] from by rw [List.getD_eq_getElem?_getD, List.getElem?_eq_getElem hjl]; rfl, List.getElem_cons_drop, List.take_append_drop]
    have bad : (entI (T.getD j [])).2 = false → loadI s = (([], []), 100) := by
      intro h
      refine loadI_no ?_
      rw [r2, hsp, entsR_bad (hN h)]
      rfl
    have good : (entI (T.getD j [])).2 = true → entsR (T.take (j + 1)) = some (es ++ [(entI (T.getD j [])).1]) ∧ deSm 90000 (entI (T.getD j [])).1 := by
      intro h
      refine ⟨by rw [ht]; exact entsR_snoc (hI h) hes, ?_⟩
      have := entR_sm (hI h)
      have h3 := hT _ hx
      exact de_grow (by omega) this
    have hpp : headS (((q0 :: T).map L.s ++ [L.s []]).drop (j + 1)) = headS ((((q0 :: T) ++ [[]]).map L.s).drop (j + 1)) := by rw [List.map_append]; rfl
    generalize entI (T.getD j []) = E at *
    obtain ⟨E, ok⟩ := E
    dsimp only at bad good cE
    have ef : flat deR es ++ deR E = flat deR (es ++ [E]) := by rw [flat_append, flat_one]
    clear hI hN hsp ht r2
    cases ok
    · rw [bad rfl]
      clear bad good
      rcases hst with ⟨rfl, rfl⟩ | ⟨h0, rfl⟩
      · (repeat' ((conv => whnf) <;> first | refine natK_of (j := 0 + 1) (by omega) ?_ | exact rfl | with_reducible refine boolK_dec (fun _ => ?_) (fun _ => ?_) <;> try (exfalso; omega) | refine boolK_beq (fun _ => ?_) (fun _ => ?_) <;> try (exfalso; first | omega | with_reducible contradiction) | refine boolK_bne (fun _ => ?_) (fun _ => ?_) <;> try (exfalso; first | omega | with_reducible contradiction) | (with_reducible first | refine boolK_not ?_ | refine boolK_and ?_ | refine boolK_or ?_ | refine boolK_true ?_ | refine boolK_false ?_) | refine boolK_intro (fun _ => ?_) (fun _ => ?_) <;> try (exfalso; simp_all; done) | refine jA ?_ | refine jB ?_ | refine jH ?_ | refine jI ?_ | refine jJ ?_ | refine jK ?_ | with_reducible refine natK_lit ?_ | refine natK_of rfl ?_ | refine natK_any ?_ | refine jP ?_ | refine jQ ?_ | refine jR ?_ | refine jS ?_ | refine jT ?_ | refine jU (fun _ => ?_) | refine jV ?_ | refine jX ?_ | refine jY ?_ | refine jZ ?_ | refine ja ?_ | refine jb ?_ | refine jc ?_ | refine jd ?_ | refine je ?_ | refine jf ?_ | refine jg ?_ | refine jh ?_ | refine ji ?_ | refine jj ?_ | refine jk ?_ | refine jo ?_ | refine jp ?_ | refine jq ?_ | refine jr ?_ | refine js ?_ | refine callK_intro (cE) ?_ | refine headS_line hjl (by omega) ?_ | refine jt ?_ | refine jy ?_ | refine ju ?_ | refine jv ?_)) <;> (try (conv => whnf))
      · (repeat' ((conv => whnf) <;> first | refine natK_of (j := j + 1) (by omega) ?_ | exact rfl | with_reducible refine boolK_dec (fun _ => ?_) (fun _ => ?_) <;> try (exfalso; omega) | refine boolK_beq (fun _ => ?_) (fun _ => ?_) <;> try (exfalso; first | omega | with_reducible contradiction) | refine boolK_bne (fun _ => ?_) (fun _ => ?_) <;> try (exfalso; first | omega | with_reducible contradiction) | (with_reducible first | refine boolK_not ?_ | refine boolK_and ?_ | refine boolK_or ?_ | refine boolK_true ?_ | refine boolK_false ?_) | refine boolK_intro (fun _ => ?_) (fun _ => ?_) <;> try (exfalso; simp_all; done) | refine jA ?_ | refine jB ?_ | refine jH ?_ | refine jI ?_ | refine jJ ?_ | refine jK ?_ | with_reducible refine natK_lit ?_ | refine natK_of rfl ?_ | refine natK_any ?_ | refine jP ?_ | refine jQ ?_ | refine jR ?_ | refine jS ?_ | refine jT ?_ | refine jU (fun _ => ?_) | refine jV ?_ | refine jX ?_ | refine jY ?_ | refine jZ ?_ | refine ja ?_ | refine jb ?_ | refine jc ?_ | refine jd ?_ | refine je ?_ | refine jf ?_ | refine jg ?_ | refine jh ?_ | refine ji ?_ | refine jj ?_ | refine jk ?_ | refine jo ?_ | refine jp ?_ | refine jq ?_ | refine jr ?_ | refine js ?_ | refine callK_intro (cE) ?_ | refine headS_line hjl (by omega) ?_ | refine jt ?_ | refine jy ?_ | refine ju ?_ | refine jv ?_)) <;> (try (conv => whnf))
    · obtain ⟨g1, g2⟩ := good rfl
      have hsm' : ∀ e ∈ es ++ [E], deSm 90000 e := fun e he => by
        rcases List.mem_append.1 he with h | h
        · exact hsm e h
        · simp at h; subst h; exact g2
      clear bad good
      rcases hst with ⟨rfl, rfl⟩ | ⟨h0, rfl⟩
      · have e0 : es = [] := List.eq_nil_of_length_eq_zero hel
        subst e0
        (repeat' ((conv => whnf) <;> first | refine natK_of (j := 0 + 1) (by omega) ?_ | exact rfl | with_reducible refine boolK_dec (fun _ => ?_) (fun _ => ?_) <;> try (exfalso; omega) | refine boolK_beq (fun _ => ?_) (fun _ => ?_) <;> try (exfalso; first | omega | with_reducible contradiction) | refine boolK_bne (fun _ => ?_) (fun _ => ?_) <;> try (exfalso; first | omega | with_reducible contradiction) | (with_reducible first | refine boolK_not ?_ | refine boolK_and ?_ | refine boolK_or ?_ | refine boolK_true ?_ | refine boolK_false ?_) | refine boolK_intro (fun _ => ?_) (fun _ => ?_) <;> try (exfalso; simp_all; done) | refine jA ?_ | refine jB ?_ | refine jH ?_ | refine jI ?_ | refine jJ ?_ | refine jK ?_ | with_reducible refine natK_lit ?_ | refine natK_of rfl ?_ | refine natK_any ?_ | refine jP ?_ | refine jQ ?_ | refine jR ?_ | refine jS ?_ | refine jT ?_ | refine jU (fun _ => ?_) | refine jV ?_ | refine jX ?_ | refine jY ?_ | refine jZ ?_ | refine ja ?_ | refine jb ?_ | refine jc ?_ | refine jd ?_ | refine je ?_ | refine jf ?_ | refine jg ?_ | refine jh ?_ | refine ji ?_ | refine jj ?_ | refine jk ?_ | refine jo ?_ | refine jp ?_ | refine jq ?_ | refine jr ?_ | refine js ?_ | refine callK_intro (cE) ?_ | refine headS_line hjl (by omega) ?_ | exact ⟨n - 1, by omega, 0 + 1, [E], by omega, g1, rfl, hsm', .inr ⟨by omega, rfl⟩⟩ | refine jt ?_ | refine jy ?_ | refine ju ?_ | refine jv ?_)) <;> (try (conv => whnf))
      · (repeat' ((conv => whnf) <;> first | refine natK_of (j := j + 1) (by omega) ?_ | exact rfl | with_reducible refine boolK_dec (fun _ => ?_) (fun _ => ?_) <;> try (exfalso; omega) | refine boolK_beq (fun _ => ?_) (fun _ => ?_) <;> try (exfalso; first | omega | with_reducible contradiction) | refine boolK_bne (fun _ => ?_) (fun _ => ?_) <;> try (exfalso; first | omega | with_reducible contradiction) | (with_reducible first | refine boolK_not ?_ | refine boolK_and ?_ | refine boolK_or ?_ | refine boolK_true ?_ | refine boolK_false ?_) | refine boolK_intro (fun _ => ?_) (fun _ => ?_) <;> try (exfalso; simp_all; done) | refine jA ?_ | refine jB ?_ | refine jH ?_ | refine jI ?_ | refine jJ ?_ | refine jK ?_ | with_reducible refine natK_lit ?_ | refine natK_of rfl ?_ | refine natK_any ?_ | refine jP ?_ | refine jQ ?_ | refine jR ?_ | refine jS ?_ | refine jT ?_ | refine jU (fun _ => ?_) | refine jV ?_ | refine jX ?_ | refine jY ?_ | refine jZ ?_ | refine ja ?_ | refine jb ?_ | refine jc ?_ | refine jd ?_ | refine je ?_ | refine jf ?_ | refine jg ?_ | refine jh ?_ | refine ji ?_ | refine jj ?_ | refine jk ?_ | refine jo ?_ | refine jp ?_ | refine jq ?_ | refine jr ?_ | refine js ?_ | refine callK_intro (cE) ?_ | refine headS_line hjl (by omega) ?_ | refine catK_of ef ?_ | exact ⟨n - 1, by omega, j + 1, es ++ [E], by omega, g1, by simp; omega, hsm', .inr ⟨by omega, rfl⟩⟩ | refine jt ?_ | refine jy ?_ | refine ju ?_ | refine sideK_intro (by first | (exact ⟨by omega, rfl⟩)) ?_ | refine jv ?_)) <;> (try (conv => whnf))
  · have : j = T.length := by omega
    subst this
    rw [List.take_length] at hes
    have cC := c_rdbCheck q0 es (m := T.length) hel.symm (by omega) (by omega) hsm
    have fin : loadI s = if dbC q0 es = 0 then ((q0, es), 0) else (([], []), 100) := by
      by_cases h : dbC q0 es = 0
      · rw [if_pos h]
        refine loadI_ok ?_
        rw [r2, hes]
        simp only [Option.bind_some]
        rw [if_pos h]
      · rw [if_neg h]
        refine loadI_no ?_
        rw [r2, hes]
        simp only [Option.bind_some]
        rw [if_neg h]
    clear r2 hes
    by_cases h : dbC q0 es = 0
    · rw [fin, if_pos h]
      rw [h] at cC
      clear fin
      generalize dbC q0 es = C at *
      rcases hst with ⟨h0, rfl⟩ | ⟨h0, rfl⟩
      · have e0 : es = [] := List.eq_nil_of_length_eq_zero (by omega)
        subst e0
        rw [h0] at cC
        (repeat' ((conv => whnf) <;> first | exact rfl | with_reducible refine boolK_dec (fun _ => ?_) (fun _ => ?_) <;> try (exfalso; omega) | refine boolK_beq (fun _ => ?_) (fun _ => ?_) <;> try (exfalso; first | omega | with_reducible contradiction) | refine boolK_bne (fun _ => ?_) (fun _ => ?_) <;> try (exfalso; first | omega | with_reducible contradiction) | (with_reducible first | refine boolK_not ?_ | refine boolK_and ?_ | refine boolK_or ?_ | refine boolK_true ?_ | refine boolK_false ?_) | refine boolK_intro (fun _ => ?_) (fun _ => ?_) <;> try (exfalso; simp_all; done) | refine jA ?_ | refine jB ?_ | refine jH ?_ | refine jI ?_ | refine jJ ?_ | refine jK ?_ | with_reducible refine natK_lit ?_ | refine natK_of rfl ?_ | refine natK_any ?_ | refine jP ?_ | refine jQ ?_ | refine jR ?_ | refine jS ?_ | refine jT ?_ | refine jU (fun _ => ?_) | refine jV ?_ | refine jX ?_ | refine jY ?_ | refine jZ ?_ | refine ja ?_ | refine jb ?_ | refine jc ?_ | refine jd ?_ | refine je ?_ | refine jf ?_ | refine jg ?_ | refine jh ?_ | refine ji ?_ | refine jj ?_ | refine jk ?_ | refine jo ?_ | refine jp ?_ | refine jq ?_ | refine jr ?_ | refine js ?_ | refine callK_intro (cC) ?_ | refine jt ?_ | refine jy ?_ | refine ju ?_ | refine jv ?_)) <;> (try (conv => whnf))
      · (repeat' ((conv => whnf) <;> first | exact rfl | with_reducible refine boolK_dec (fun _ => ?_) (fun _ => ?_) <;> try (exfalso; omega) | refine boolK_beq (fun _ => ?_) (fun _ => ?_) <;> try (exfalso; first | omega | with_reducible contradiction) | refine boolK_bne (fun _ => ?_) (fun _ => ?_) <;> try (exfalso; first | omega | with_reducible contradiction) | (with_reducible first | refine boolK_not ?_ | refine boolK_and ?_ | refine boolK_or ?_ | refine boolK_true ?_ | refine boolK_false ?_) | refine boolK_intro (fun _ => ?_) (fun _ => ?_) <;> try (exfalso; simp_all; done) | refine jA ?_ | refine jB ?_ | refine jH ?_ | refine jI ?_ | refine jJ ?_ | refine jK ?_ | with_reducible refine natK_lit ?_ | refine natK_of rfl ?_ | refine natK_any ?_ | refine jP ?_ | refine jQ ?_ | refine jR ?_ | refine jS ?_ | refine jT ?_ | refine jU (fun _ => ?_) | refine jV ?_ | refine jX ?_ | refine jY ?_ | refine jZ ?_ | refine ja ?_ | refine jb ?_ | refine jc ?_ | refine jd ?_ | refine je ?_ | refine jf ?_ | refine jg ?_ | refine jh ?_ | refine ji ?_ | refine jj ?_ | refine jk ?_ | refine jo ?_ | refine jp ?_ | refine jq ?_ | refine jr ?_ | refine js ?_ | refine callK_intro (cC) ?_ | refine jt ?_ | refine jy ?_ | refine ju ?_ | refine sideK_intro (by first | (exact ⟨by rw [hel], rfl⟩)) ?_ | refine jv ?_)) <;> (try (conv => whnf))
    · rw [fin, if_neg h]
      clear fin
      generalize dbC q0 es = C at *
      rcases hst with ⟨h0, rfl⟩ | ⟨h0, rfl⟩
      · have e0 : es = [] := List.eq_nil_of_length_eq_zero (by omega)
        subst e0
        rw [h0] at cC
        (repeat' ((conv => whnf) <;> first | exact rfl | with_reducible refine boolK_dec (fun _ => ?_) (fun _ => ?_) <;> try (exfalso; omega) | refine boolK_beq (fun _ => ?_) (fun _ => ?_) <;> try (exfalso; first | omega | with_reducible contradiction) | refine boolK_bne (fun _ => ?_) (fun _ => ?_) <;> try (exfalso; first | omega | with_reducible contradiction) | (with_reducible first | refine boolK_not ?_ | refine boolK_and ?_ | refine boolK_or ?_ | refine boolK_true ?_ | refine boolK_false ?_) | refine boolK_intro (fun _ => ?_) (fun _ => ?_) <;> try (exfalso; simp_all; done) | refine jA ?_ | refine jB ?_ | refine jH ?_ | refine jI ?_ | refine jJ ?_ | refine jK ?_ | with_reducible refine natK_lit ?_ | refine natK_of rfl ?_ | refine natK_any ?_ | refine jP ?_ | refine jQ ?_ | refine jR ?_ | refine jS ?_ | refine jT ?_ | refine jU (fun _ => ?_) | refine jV ?_ | refine jX ?_ | refine jY ?_ | refine jZ ?_ | refine ja ?_ | refine jb ?_ | refine jc ?_ | refine jd ?_ | refine je ?_ | refine jf ?_ | refine jg ?_ | refine jh ?_ | refine ji ?_ | refine jj ?_ | refine jk ?_ | refine jo ?_ | refine jp ?_ | refine jq ?_ | refine jr ?_ | refine js ?_ | refine callK_intro (cC) ?_ | refine jt ?_ | refine jy ?_ | refine ju ?_ | refine jv ?_)) <;> (try (conv => whnf))
      · (repeat' ((conv => whnf) <;> first | exact rfl | with_reducible refine boolK_dec (fun _ => ?_) (fun _ => ?_) <;> try (exfalso; omega) | refine boolK_beq (fun _ => ?_) (fun _ => ?_) <;> try (exfalso; first | omega | with_reducible contradiction) | refine boolK_bne (fun _ => ?_) (fun _ => ?_) <;> try (exfalso; first | omega | with_reducible contradiction) | (with_reducible first | refine boolK_not ?_ | refine boolK_and ?_ | refine boolK_or ?_ | refine boolK_true ?_ | refine boolK_false ?_) | refine boolK_intro (fun _ => ?_) (fun _ => ?_) <;> try (exfalso; simp_all; done) | refine jA ?_ | refine jB ?_ | refine jH ?_ | refine jI ?_ | refine jJ ?_ | refine jK ?_ | with_reducible refine natK_lit ?_ | refine natK_of rfl ?_ | refine natK_any ?_ | refine jP ?_ | refine jQ ?_ | refine jR ?_ | refine jS ?_ | refine jT ?_ | refine jU (fun _ => ?_) | refine jV ?_ | refine jX ?_ | refine jY ?_ | refine jZ ?_ | refine ja ?_ | refine jb ?_ | refine jc ?_ | refine jd ?_ | refine je ?_ | refine jf ?_ | refine jg ?_ | refine jh ?_ | refine ji ?_ | refine jj ?_ | refine jk ?_ | refine jo ?_ | refine jp ?_ | refine jq ?_ | refine jr ?_ | refine js ?_ | refine callK_intro (cC) ?_ | refine jt ?_ | refine jy ?_ | refine ju ?_ | refine jv ?_)) <;> (try (conv => whnf))
end Go.Sx

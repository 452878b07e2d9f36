/-
  The contract of the program's Load, from contracts of readEntry and of Dump.
-/
import Derived.Test.YtdpbmmmdmecfdaaGreatDoorCDumpR
set_option linter.all false
namespace Go.Sx
open Go.Proofs Go.RowKit
theorem cut_is (c : UInt8) (s : List UInt8) : frontS s c = (cutc c s).1 ∧ behindS s c = (cutc c s).2 := by
  rcases byte_cases c s with h | ⟨a, t, rfl, h⟩
  · have hp : placeS s c = s.length := place_no (k := s.length) (by omega) (fun i hi he => h (by rw [← he]; exact getD_mem (d := 0) hi))
    rw [cutc_no h, frontS, behindS, hp]
    simp
  · have hp : placeS (a ++ c :: t) c = a.length := place_at (k := a.length) (by simp) (fun i hi he => h (by
      rw [List.getD_eq_getElem?_getD, List.getElem?_append_left hi, ← List.getD_eq_getElem?_getD] at he
      rw [← he]; exact getD_mem (d := 0) hi)) (by simp)
    rw [cutc_app c a t h, frontS, behindS, hp]
    simp
def entQ (s : List UInt8) : DE × Bool := match entP s with | some e => (e, true) | none => (de0, false)
def loadQ (s : List UInt8) : (List UInt8 × List DE) × Int := match loadP s with | some q => (q, 0) | none => (([], []), 100)
theorem entQ_is {s : List UInt8} (h : (entQ s).2 = true) : entP s = some (entQ s).1 := by
  unfold entQ at h ⊢
  split at h
  · rename_i e he
    rw [he]
  · cases h
theorem entQ_non {s : List UInt8} (h : (entQ s).2 = false) : entP s = none := by
  unfold entQ at h
  split at h
  · cases h
  · assumption
/-- what is read from here on, behind what was read -/
theorem loadQ_1 {s : List UInt8} (h : entsP 60 (cutc 10 s).2 = none) : loadQ s = (([], []), 100) := by
  rw [loadQ, loadP, h]
  rfl
theorem loadQ_2 {s : List UInt8} {l : List DE} (h : entsP 60 (cutc 10 s).2 = some l) (h2 : ¬ dumpS (cutc 10 s).1 l = (s, 0)) : loadQ s = (([], []), 100) := by
  rw [loadQ, loadP, h]
  simp only [Option.bind_some]
  rw [if_neg h2]
theorem loadQ_3 {s : List UInt8} {l : List DE} (h : entsP 60 (cutc 10 s).2 = some l) (h2 : dumpS (cutc 10 s).1 l = (s, 0)) : loadQ s = (((cutc 10 s).1, l), 0) := by
  rw [loadQ, loadP, h]
  simp only [Option.bind_some]
  rw [if_pos h2]
theorem entsP_end (n : Nat) : entsP n [] = some [] := by cases n <;> rfl
theorem entsP_bad {n : Nat} {s : List UInt8} (hs : ¬ s = []) (h : entP (cutc 10 s).1 = none) : entsP (n + 1) s = none := by rw [entsP, if_neg hs, h]; rfl
theorem entsP_step {n : Nat} {s : List UInt8} {e : DE} (hs : ¬ s = []) (h : entP (cutc 10 s).1 = some e) : entsP (n + 1) s = (entsP n (cutc 10 s).2).bind fun l => some (e :: l) := by rw [entsP, if_neg hs, h]; rfl
theorem parseM_le {M : Nat} : ∀ {l : List UInt8} {acc u : Nat}, acc ≤ M → Go.Lib.parseUintM M acc l = .ok u → u ≤ M := by
  intro l
  induction l with
  | nil => intro acc u ha h; simp only [Go.Lib.parseUintM] at h; injection h with h; omega
  | cons c r ih =>
    intro acc u ha h
    simp only [Go.Lib.parseUintM] at h
    split at h
    · split at h
      · cases h
      · split at h
        · cases h
        · exact ih (by omega) h
    · cases h
theorem entP_sm {s : List UInt8} {e : DE} (h : entP s = some e) : deSm s.length e := by
  unfold entP at h
  split at h
  · rename_i h9
    have part : ∀ i, i < 9 → ((spl 9 s).getD i []).length ≤ s.length := fun i hi => spl_part (getD_mem (d := []) (by omega))
    split at h
    · rename_i k a b c d f g e2 e3 e4 e5 e6 e7 e8
      simp only [Option.some.injEq] at h
      subst h
      have hk : 0 ≤ k ∧ k ≤ 18446744073709551615 := by
        unfold natE at e2
        split at e2
        · rename_i n hn
          simp only [Option.some.injEq] at e2
          unfold Go.Lib.parseUintB at hn
          split at hn
          · cases hn
          · have := parseM_le (by decide) hn
            omega
        · cases e2
      exact ⟨part 0 (by omega), part 1 (by omega), hk⟩
    · cases h
  · cases h
noncomputable def g9 : Par := par 63 (nthLL [[0, 2], [0, 2, 4, 5], [0, 2, 5, 7], [0, 2, 5, 7, 28], [0, 2, 5, 7], [0, 2, 5, 7, 8], [0, 2, 5, 7, 9, 10], [0, 2, 5, 7, 9, 41], [2, 3], [0, 2, 5, 7], [0, 2, 7, 11, 12], [2, 7, 60], [2, 3], [2, 3]]) [2, 3, 100007] (nthLL [])
set_option maxRecDepth 10000
set_option maxHeartbeats 16000000
theorem c_LoadP (hE : ∀ s : List UInt8, s.length ≤ 80000 → Fn Tryz.prog 27 [.o (.s s)] [] (.tup [.c (.a (deR (entQ s).1)), .c (.o (.b (entQ s).2))]) []) (hD : ∀ (r : List UInt8) (l : List DE) (m : Nat), m = l.length → l.length ≤ 60 → r.length ≤ 80000 → (∀ s ∈ l, deSm 90000 s) → Fn Tryz.prog 7 [.a [.s r, .sl (flat deR l) m]] [] (.tup [.c (.o (.s (dumpS r l).1)), .c (.o (.i .i64 (dumpS r l).2))]) [])
    (s : List UInt8) (hs : s.length ≤ 80000) : Fn Tryz.prog 9 [.o (.s s)] [] (.tup [.c (.a [.s (loadQ s).1.1, .sl (flat deR (loadQ s).1.2) (loadQ s).1.2.length]), .c (.o (.i .i64 (loadQ s).2))]) [] := by
  have c0 := c_cut s 10 (by omega)
  rw [(cut_is 10 s).1, (cut_is 10 s).2] at c0
  obtain ⟨q1, q2, _⟩ := cutc_len 10 s
  have l1 := @loadQ_1 s
  have l2 := fun l => @loadQ_2 s l
  have l3 := fun l => @loadQ_3 s l
  refine Fn_intro (G := g9) (goodA rfl) (fn := Tryz.f9) rfl rfl rfl rfl rfl ?_
  (repeat' ((conv => whnf) <;> first | exact rfl | with_reducible refine boolK_dec (fun _ => ?_) (fun _ => ?_) <;> try (exfalso; omega) | refine boolK_beq (fun _ => ?_) (fun _ => ?_) <;> try (exfalso; first | omega | with_reducible contradiction) | refine boolK_bne (fun _ => ?_) (fun _ => ?_) <;> try (exfalso; first | omega | with_reducible contradiction) | (with_reducible first | refine boolK_not ?_ | refine boolK_and ?_ | refine boolK_or ?_ | refine boolK_true ?_ | refine boolK_false ?_) | refine boolK_intro (fun _ => ?_) (fun _ => ?_) <;> try (exfalso; simp_all; done) | with_reducible refine natK_lit ?_ | refine natK_of rfl ?_ | refine natK_any ?_ | refine jP ?_ | refine jQ ?_ | refine jR ?_ | refine jS ?_ | refine jT ?_ | refine jU (fun _ => ?_) | refine jV ?_ | refine jX ?_ | refine jY ?_ | refine jZ ?_ | refine ja ?_ | refine jb ?_ | refine jc ?_ | refine jd ?_ | refine je ?_ | refine jf ?_ | refine jg ?_ | refine jh ?_ | refine ji ?_ | refine jj ?_ | refine jk ?_ | refine jo ?_ | refine jp ?_ | refine jq ?_ | refine jr ?_ | refine js ?_ | refine callK_intro (c0) ?_ | refine jt ?_ | refine jy ?_ | refine ju ?_ | refine jv ?_)) <;> (try (conv => whnf))
  refine loopK_inv (G := g9) (fun n st => ∃ (es : List DE) (R : List UInt8), n + es.length = 60 ∧ R.length ≤ s.length ∧ (∀ e ∈ es, deSm 90000 e) ∧ entsP 60 (cutc 10 s).2 = (entsP n R).bind (fun l => some (es ++ l)) ∧ ((es = [] ∧ st = ⟨[(0, .c (.o (.s s))), (2, .c (.o (.p 2 0))), (5, .c (.o (.s R))), (7, .c (.o (.p 7 0)))], [(2, .st [.s [], .nl]), (7, .st [.s (cutc 10 s).1, .nl])]⟩) ∨ (0 < es.length ∧ st = ⟨[(0, .c (.o (.s s))), (2, .c (.o (.p 2 0))), (5, .c (.o (.s R))), (7, .c (.o (.p 7 0)))], [(2, .st [.s [], .nl]), (7, .st [.s (cutc 10 s).1, .gw 2113 es.length 9]), (2113, .ar (flat deR es))]⟩))) (n := 60) ⟨[], _, by simp, q2, by simp, by cases entsP 60 (cutc 10 s).2 <;> rfl, .inl ⟨rfl, rfl⟩⟩ ?_
  rintro n st ⟨es, R, hn, hR, hsm, hP, hst⟩
  have hfl := flat_len deR_len es
  by_cases hgo : ¬ R = [] ∧ es.length < 60
  · obtain ⟨n, rfl⟩ : ∃ k, n = k + 1 := ⟨n - 1, by omega⟩
    have c1 := c_cut R 10 (by omega)
    rw [(cut_is 10 R).1, (cut_is 10 R).2] at c1
    obtain ⟨r1, r2, _⟩ := cutc_len 10 R
    have c2 := hE (cutc 10 R).1 (by omega)
    have hI := @entQ_is (cutc 10 R).1
    have hN := @entQ_non (cutc 10 R).1
    have bad : (entQ (cutc 10 R).1).2 = false → loadQ s = (([], []), 100) := fun h => l1 (by rw [hP, entsP_bad hgo.1 (hN h)]; rfl)
    have good : (entQ (cutc 10 R).1).2 = true → entsP 60 (cutc 10 s).2 = (entsP n (cutc 10 R).2).bind (fun l => some ((es ++ [(entQ (cutc 10 R).1).1]) ++ l)) ∧ deSm 90000 (entQ (cutc 10 R).1).1 := fun h => by
      refine ⟨?_, de_grow (by omega) (entP_sm (hI h))⟩
      rw [hP, entsP_step hgo.1 (hI h)]
      cases entsP n (cutc 10 R).2 with
      | none => rfl
      | some l => simp
    generalize entQ (cutc 10 R).1 = E at *
    obtain ⟨E, ok⟩ := E
    dsimp only at bad good c2
    have ef : flat deR es ++ deR E = flat deR (es ++ [E]) := by rw [flat_append, flat_one]
    clear hI hN hP l1 l2 l3 hE hD
    obtain ⟨g1', g2'⟩ := hgo
    have g3' : ¬ R.length = 0 := fun h => g1' (List.eq_nil_of_length_eq_zero h)
    generalize cutc 10 R = RR at *
    cases ok
    · rw [bad rfl]
      clear bad good
      rcases hst with ⟨rfl, rfl⟩ | ⟨h0, rfl⟩
      · (repeat' ((conv => whnf) <;> first | exact rfl | with_reducible refine boolK_dec (fun _ => ?_) (fun _ => ?_) <;> try (exfalso; omega) | refine boolK_beq (fun _ => ?_) (fun _ => ?_) <;> try (exfalso; first | omega | with_reducible contradiction) | refine boolK_bne (fun _ => ?_) (fun _ => ?_) <;> try (exfalso; first | omega | with_reducible contradiction) | (with_reducible first | refine boolK_not ?_ | refine boolK_and ?_ | refine boolK_or ?_ | refine boolK_true ?_ | refine boolK_false ?_) | refine boolK_intro (fun _ => ?_) (fun _ => ?_) <;> try (exfalso; simp_all; done) | with_reducible refine natK_lit ?_ | refine natK_of rfl ?_ | refine natK_any ?_ | refine jP ?_ | refine jQ ?_ | refine jR ?_ | refine jS ?_ | refine jT ?_ | refine jU (fun _ => ?_) | refine jV ?_ | refine jX ?_ | refine jY ?_ | refine jZ ?_ | refine ja ?_ | refine jb ?_ | refine jc ?_ | refine jd ?_ | refine je ?_ | refine jf ?_ | refine jg ?_ | refine jh ?_ | refine ji ?_ | refine jj ?_ | refine jk ?_ | refine jo ?_ | refine jp ?_ | refine jq ?_ | refine jr ?_ | refine js ?_ | refine callK_intro (c1) ?_ | refine callK_intro (c2) ?_ | refine jt ?_ | refine jy ?_ | refine ju ?_ | refine jv ?_)) <;> (try (conv => whnf))
      · (repeat' ((conv => whnf) <;> first | exact rfl | with_reducible refine boolK_dec (fun _ => ?_) (fun _ => ?_) <;> try (exfalso; omega) | refine boolK_beq (fun _ => ?_) (fun _ => ?_) <;> try (exfalso; first | omega | with_reducible contradiction) | refine boolK_bne (fun _ => ?_) (fun _ => ?_) <;> try (exfalso; first | omega | with_reducible contradiction) | (with_reducible first | refine boolK_not ?_ | refine boolK_and ?_ | refine boolK_or ?_ | refine boolK_true ?_ | refine boolK_false ?_) | refine boolK_intro (fun _ => ?_) (fun _ => ?_) <;> try (exfalso; simp_all; done) | with_reducible refine natK_lit ?_ | refine natK_of rfl ?_ | refine natK_any ?_ | refine jP ?_ | refine jQ ?_ | refine jR ?_ | refine jS ?_ | refine jT ?_ | refine jU (fun _ => ?_) | refine jV ?_ | refine jX ?_ | refine jY ?_ | refine jZ ?_ | refine ja ?_ | refine jb ?_ | refine jc ?_ | refine jd ?_ | refine je ?_ | refine jf ?_ | refine jg ?_ | refine jh ?_ | refine ji ?_ | refine jj ?_ | refine jk ?_ | refine jo ?_ | refine jp ?_ | refine jq ?_ | refine jr ?_ | refine js ?_ | refine callK_intro (c1) ?_ | refine callK_intro (c2) ?_ | refine jt ?_ | refine jy ?_ | refine ju ?_ | refine jv ?_)) <;> (try (conv => whnf))
    · obtain ⟨u1, u2⟩ := good rfl
      have hsm' : ∀ e ∈ es ++ [E], deSm 90000 e := fun e he => by
        rcases List.mem_append.1 he with h | h
        · exact hsm e h
        · simp at h; subst h; exact u2
      clear bad good
      rcases hst with ⟨rfl, rfl⟩ | ⟨h0, rfl⟩
      · (repeat' ((conv => whnf) <;> first | exact rfl | with_reducible refine boolK_dec (fun _ => ?_) (fun _ => ?_) <;> try (exfalso; omega) | refine boolK_beq (fun _ => ?_) (fun _ => ?_) <;> try (exfalso; first | omega | with_reducible contradiction) | refine boolK_bne (fun _ => ?_) (fun _ => ?_) <;> try (exfalso; first | omega | with_reducible contradiction) | (with_reducible first | refine boolK_not ?_ | refine boolK_and ?_ | refine boolK_or ?_ | refine boolK_true ?_ | refine boolK_false ?_) | refine boolK_intro (fun _ => ?_) (fun _ => ?_) <;> try (exfalso; simp_all; done) | with_reducible refine natK_lit ?_ | refine natK_of rfl ?_ | refine natK_any ?_ | refine jP ?_ | refine jQ ?_ | refine jR ?_ | refine jS ?_ | refine jT ?_ | refine jU (fun _ => ?_) | refine jV ?_ | refine jX ?_ | refine jY ?_ | refine jZ ?_ | refine ja ?_ | refine jb ?_ | refine jc ?_ | refine jd ?_ | refine je ?_ | refine jf ?_ | refine jg ?_ | refine jh ?_ | refine ji ?_ | refine jj ?_ | refine jk ?_ | refine jo ?_ | refine jp ?_ | refine jq ?_ | refine jr ?_ | refine js ?_ | refine callK_intro (c1) ?_ | refine callK_intro (c2) ?_ | exact ⟨n, by omega, [E], RR.2, by simp at hn ⊢; omega, by omega, hsm', u1, .inr ⟨by simp, rfl⟩⟩ | refine jt ?_ | refine jy ?_ | refine ju ?_ | refine jv ?_)) <;> (try (conv => whnf))
      · (repeat' ((conv => whnf) <;> first | exact rfl | with_reducible refine boolK_dec (fun _ => ?_) (fun _ => ?_) <;> try (exfalso; omega) | refine boolK_beq (fun _ => ?_) (fun _ => ?_) <;> try (exfalso; first | omega | with_reducible contradiction) | refine boolK_bne (fun _ => ?_) (fun _ => ?_) <;> try (exfalso; first | omega | with_reducible contradiction) | (with_reducible first | refine boolK_not ?_ | refine boolK_and ?_ | refine boolK_or ?_ | refine boolK_true ?_ | refine boolK_false ?_) | refine boolK_intro (fun _ => ?_) (fun _ => ?_) <;> try (exfalso; simp_all; done) | with_reducible refine natK_lit ?_ | refine natK_of rfl ?_ | refine natK_any ?_ | refine jP ?_ | refine jQ ?_ | refine jR ?_ | refine jS ?_ | refine jT ?_ | refine jU (fun _ => ?_) | refine jV ?_ | refine jX ?_ | refine jY ?_ | refine jZ ?_ | refine ja ?_ | refine jb ?_ | refine jc ?_ | refine jd ?_ | refine je ?_ | refine jf ?_ | refine jg ?_ | refine jh ?_ | refine ji ?_ | refine jj ?_ | refine jk ?_ | refine jo ?_ | refine jp ?_ | refine jq ?_ | refine jr ?_ | refine js ?_ | refine callK_intro (c1) ?_ | refine callK_intro (c2) ?_ | refine catK_of ef ?_ | exact ⟨n, by omega, es ++ [E], RR.2, by rw [List.length_append, List.length_singleton]; omega, by omega, hsm', u1, .inr ⟨by rw [List.length_append]; omega, by rw [List.length_append]; rfl⟩⟩ | refine jt ?_ | refine jy ?_ | refine ju ?_ | refine sideK_intro (by first | (exact ⟨by omega, rfl⟩)) ?_ | refine jv ?_)) <;> (try (conv => whnf))
  · have hend : entsP n R = some [] := by
      by_cases h : R = []
      · rw [h]; exact entsP_end n
      · have : n = 0 := by
          by_cases h2 : es.length < 60
          · exact absurd ⟨h, h2⟩ hgo
          · omega
        subst this
        rfl
    have hall : entsP 60 (cutc 10 s).2 = some es := by rw [hP, hend]; simp
    have cD := hD (cutc 10 s).1 es es.length rfl (by omega) (by omega) hsm
    have l2 := l2 es hall
    have l3 := l3 es hall
    have hno : R = [] ∨ ¬ es.length < 60 := by
      by_cases h : R = []
      · exact .inl h
      · exact .inr fun h2 => hgo ⟨h, h2⟩
    clear hE hD l1 hP hend hall hgo
    generalize (cutc 10 s).1 = C1 at *
    generalize loadQ s = Q at *
    generalize dumpS C1 es = D at *
    obtain ⟨D, e⟩ := D
    dsimp only at cD
    by_cases hd : (D, e) = (s, 0)
    · rw [l3 hd]
      obtain ⟨rfl, rfl⟩ := Prod.mk.inj hd
      clear l2 l3 hd
      rcases hst with ⟨rfl, rfl⟩ | ⟨h0, rfl⟩
      · have hr : R = [] := by
          rcases hno with h | h
          · exact h
          · exact absurd (by simp) h
        subst hr
        (repeat' ((conv => whnf) <;> first | with_reducible refine boolK_refl ?_ | exact rfl | with_reducible refine boolK_dec (fun _ => ?_) (fun _ => ?_) <;> try (exfalso; omega) | refine boolK_beq (fun _ => ?_) (fun _ => ?_) <;> try (exfalso; first | omega | with_reducible contradiction) | refine boolK_bne (fun _ => ?_) (fun _ => ?_) <;> try (exfalso; first | omega | with_reducible contradiction) | (with_reducible first | refine boolK_not ?_ | refine boolK_and ?_ | refine boolK_or ?_ | refine boolK_true ?_ | refine boolK_false ?_) | refine boolK_intro (fun _ => ?_) (fun _ => ?_) <;> try (exfalso; simp_all; done) | with_reducible refine natK_lit ?_ | refine natK_of rfl ?_ | refine natK_any ?_ | refine jP ?_ | refine jQ ?_ | refine jR ?_ | refine jS ?_ | refine jT ?_ | refine jU (fun _ => ?_) | refine jV ?_ | refine jX ?_ | refine jY ?_ | refine jZ ?_ | refine ja ?_ | refine jb ?_ | refine jc ?_ | refine jd ?_ | refine je ?_ | refine jf ?_ | refine jg ?_ | refine jh ?_ | refine ji ?_ | refine jj ?_ | refine jk ?_ | refine jo ?_ | refine jp ?_ | refine jq ?_ | refine jr ?_ | refine js ?_ | refine callK_intro (cD) ?_ | refine jt ?_ | refine jy ?_ | refine ju ?_ | refine jv ?_)) <;> (try (conv => whnf))
      · (repeat' ((conv => whnf) <;> first | with_reducible refine boolK_refl ?_ | exact rfl | with_reducible refine boolK_dec (fun _ => ?_) (fun _ => ?_) <;> try (exfalso; omega) | refine boolK_beq (fun _ => ?_) (fun _ => ?_) <;> try (exfalso; first | omega | with_reducible contradiction) | refine boolK_bne (fun _ => ?_) (fun _ => ?_) <;> try (exfalso; first | omega | with_reducible contradiction) | (with_reducible first | refine boolK_not ?_ | refine boolK_and ?_ | refine boolK_or ?_ | refine boolK_true ?_ | refine boolK_false ?_) | refine boolK_intro (fun _ => ?_) (fun _ => ?_) <;> try (exfalso; simp_all; done) | with_reducible refine natK_lit ?_ | refine natK_of rfl ?_ | refine natK_any ?_ | refine jP ?_ | refine jQ ?_ | refine jR ?_ | refine jS ?_ | refine jT ?_ | refine jU (fun _ => ?_) | refine jV ?_ | refine jX ?_ | refine jY ?_ | refine jZ ?_ | refine ja ?_ | refine jb ?_ | refine jc ?_ | refine jd ?_ | refine je ?_ | refine jf ?_ | refine jg ?_ | refine jh ?_ | refine ji ?_ | refine jj ?_ | refine jk ?_ | refine jo ?_ | refine jp ?_ | refine jq ?_ | refine jr ?_ | refine js ?_ | refine callK_intro (cD) ?_ | refine jt ?_ | refine jy ?_ | refine ju ?_ | refine jv ?_)) <;> (try (conv => whnf))
        all_goals (exfalso; rcases hno with h | h <;> first | contradiction | omega)
    · rw [l2 hd]
      clear l2 l3
      rcases hst with ⟨rfl, rfl⟩ | ⟨h0, rfl⟩
      · have hr : R = [] := by
          rcases hno with h | h
          · exact h
          · exact absurd (by simp) h
        subst hr
        (repeat' ((conv => whnf) <;> first | with_reducible refine boolK_refl ?_ | exact rfl | with_reducible refine boolK_dec (fun _ => ?_) (fun _ => ?_) <;> try (exfalso; omega) | refine boolK_beq (fun _ => ?_) (fun _ => ?_) <;> try (exfalso; first | omega | with_reducible contradiction) | refine boolK_bne (fun _ => ?_) (fun _ => ?_) <;> try (exfalso; first | omega | with_reducible contradiction) | (with_reducible first | refine boolK_not ?_ | refine boolK_and ?_ | refine boolK_or ?_ | refine boolK_true ?_ | refine boolK_false ?_) | refine boolK_intro (fun _ => ?_) (fun _ => ?_) <;> try (exfalso; simp_all; done) | with_reducible refine natK_lit ?_ | refine natK_of rfl ?_ | refine natK_any ?_ | refine jP ?_ | refine jQ ?_ | refine jR ?_ | refine jS ?_ | refine jT ?_ | refine jU (fun _ => ?_) | refine jV ?_ | refine jX ?_ | refine jY ?_ | refine jZ ?_ | refine ja ?_ | refine jb ?_ | refine jc ?_ | refine jd ?_ | refine je ?_ | refine jf ?_ | refine jg ?_ | refine jh ?_ | refine ji ?_ | refine jj ?_ | refine jk ?_ | refine jo ?_ | refine jp ?_ | refine jq ?_ | refine jr ?_ | refine js ?_ | refine callK_intro (cD) ?_ | refine jt ?_ | refine jy ?_ | refine ju ?_ | refine jv ?_)) <;> (try (conv => whnf))
        all_goals (exfalso; apply hd; simp_all; done)
      · (repeat' ((conv => whnf) <;> first | with_reducible refine boolK_refl ?_ | exact rfl | with_reducible refine boolK_dec (fun _ => ?_) (fun _ => ?_) <;> try (exfalso; omega) | refine boolK_beq (fun _ => ?_) (fun _ => ?_) <;> try (exfalso; first | omega | with_reducible contradiction) | refine boolK_bne (fun _ => ?_) (fun _ => ?_) <;> try (exfalso; first | omega | with_reducible contradiction) | (with_reducible first | refine boolK_not ?_ | refine boolK_and ?_ | refine boolK_or ?_ | refine boolK_true ?_ | refine boolK_false ?_) | refine boolK_intro (fun _ => ?_) (fun _ => ?_) <;> try (exfalso; simp_all; done) | with_reducible refine natK_lit ?_ | refine natK_of rfl ?_ | refine natK_any ?_ | refine jP ?_ | refine jQ ?_ | refine jR ?_ | refine jS ?_ | refine jT ?_ | refine jU (fun _ => ?_) | refine jV ?_ | refine jX ?_ | refine jY ?_ | refine jZ ?_ | refine ja ?_ | refine jb ?_ | refine jc ?_ | refine jd ?_ | refine je ?_ | refine jf ?_ | refine jg ?_ | refine jh ?_ | refine ji ?_ | refine jj ?_ | refine jk ?_ | refine jo ?_ | refine jp ?_ | refine jq ?_ | refine jr ?_ | refine js ?_ | refine callK_intro (cD) ?_ | refine jt ?_ | refine jy ?_ | refine ju ?_ | refine jv ?_)) <;> (try (conv => whnf))
        all_goals (exfalso; first | (rcases hno with h | h <;> first | contradiction | omega) | (apply hd; simp_all; done))
end Go.Sx

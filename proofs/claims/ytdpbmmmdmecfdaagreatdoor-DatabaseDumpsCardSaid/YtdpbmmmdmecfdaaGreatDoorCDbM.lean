/-
  A contract of the laws' databases.
-/
import Derived.Test.YtdpbmmmdmecfdaaGreatDoorCDbD
set_option linter.all false
namespace Go.Sx
open Go.Proofs Go.RowKit
noncomputable def g6 : Par := par 81 (nthLL [[0, 1, 4], [1, 4, 5], [4, 5, 6], [4, 5, 6, 22], [4, 5, 6, 7], [4, 5, 6, 7, 8], [4, 5, 6, 7, 8, 62], [4, 5, 6, 7, 8], [4, 5, 6], [4]]) [4, 100004, 100006] (nthLL [[], [], [], [], [], [], [0, 0, 2, 6, 15, 31, 63, 127, 63, 511, 1023, 2047, 63, 4159, 16383, 32767, 65535, 131071, 65535, 524287, 1048575, 2097151, 65535, 4259839, 16777215, 33554431, 67108863, 134217727, 67108863, 536870911, 1073741823, 2147483647, 67108863, 4362076159, 17179869183, 34359738367, 68719476735, 137438953471], [], [0, 0, 2, 0, 14, 31, 0, 64, 255, 0, 512, 0, 3584, 8191, 16383, 32767]])
set_option maxRecDepth 10000
set_option maxHeartbeats 4000000
theorem c_Database (l : List UInt8) {m : Nat} (hm : m = l.length) (hl : l.length ≤ 100000) (w : Int) (hw : 0 ≤ w ∧ w ≤ 1000000) : ∃ O : List DE, dbC (realmN w) O = 0 ∧ Fn Tryz.prog 6 [.o (.sl (l.map u8) m), .o (.i .i64 w)] [] (.one (.sa [.s (realmN w)] (flat deR O) O.length 9 [])) [] := by
  subst hm
  obtain ⟨E, hE⟩ := Classical.axiomOfChoice (fun k => c_Entry l (by omega) k)
  obtain ⟨P, hP⟩ := Classical.axiomOfChoice hE
  have cR := c_Realm w (by omega)
  refine ⟨genO E P (genN P l.length), genO_ok (realm_valid w) (fun k => (hP k).2.1) _ (genN_le _), ?_⟩
  have hN := fun j => @genN_at P l.length j
  generalize realmN w = R at *
  generalize genN P l.length = N at *
  refine Fn_intro (G := g6) (goodA rfl) (fn := Tryz.f6) rfl rfl rfl rfl rfl ?_
  (repeat' ((conv => whnf) <;> first | exact rfl | with_reducible refine boolK_dec (fun _ => ?_) (fun _ => ?_) <;> try (exfalso; omega) | refine boolK_beq (fun _ => ?_) (fun _ => ?_) <;> try (exfalso; first | omega | with_reducible contradiction) | refine boolK_bne (fun _ => ?_) (fun _ => ?_) <;> try (exfalso; first | omega | with_reducible contradiction) | (with_reducible first | refine boolK_not ?_ | refine boolK_and ?_ | refine boolK_or ?_ | refine boolK_true ?_ | refine boolK_false ?_) | refine boolK_intro (fun _ => ?_) (fun _ => ?_) <;> try (exfalso; simp_all; done) | refine jA ?_ | refine jB ?_ | refine jH ?_ | refine jI ?_ | refine jJ ?_ | refine jK ?_ | with_reducible refine natK_lit ?_ | refine natK_of rfl ?_ | refine natK_any ?_ | refine jP ?_ | refine jQ ?_ | refine jR ?_ | refine jS ?_ | refine jT ?_ | refine jU (fun _ => ?_) | refine jV ?_ | refine jX ?_ | refine jY ?_ | refine jZ ?_ | refine ja ?_ | refine jb ?_ | refine jc ?_ | refine jd ?_ | refine je ?_ | refine jf ?_ | refine jg ?_ | refine jh ?_ | refine ji ?_ | refine jj ?_ | refine jk ?_ | refine jo ?_ | refine jp ?_ | refine jq ?_ | refine jr ?_ | refine js ?_ | refine callK_intro (cR) ?_ | refine jt ?_ | refine jx ?_ | refine jy ?_ | refine ju ?_ | refine jv ?_)) <;> (try (conv => whnf))
  have hP1 : ∀ j, genP P (j + 1) = P (genP P j) := fun j => rfl
  refine loopK_inv (G := g6) (fun n st => ∃ (j : Nat), n = l.length - genP P j ∧ j ≤ 60 ∧ (∀ i, i < j → genP P i < l.length) ∧
    ((j = 0 ∧ st = ⟨[(4, .c (.o (.p 4 0))), (5, .c (.o (.p 11 0))), (6, .c (.o (.p 6 0)))], [(4, .st [.s [], .nl]), (6, .st [.s R, .nl]), (11, .st [.sl (l.map u8) l.length, .i .i64 0])]⟩) ∨
    (0 < j ∧ st = ⟨[(4, .c (.o (.p 4 0))), (5, .c (.o (.p 11 0))), (6, .c (.o (.p 6 0)))], [(4, .st [.s [], .nl]), (6, .st [.s R, .gw 2097 j 9]), (11, .st [.sl (l.map u8) l.length, .i .i64 (atS l (genP P j))]), (2097, .ar (flat deR (genO E P j)))]⟩))) (n := l.length) ⟨0, by simp [genP], by omega, by simp, .inl ⟨rfl, rfl⟩⟩ ?_
  rintro n st ⟨j, hn, hj, hz, hst⟩
  have ha : atS l (genP P j) = ((min (genP P j) l.length : Nat) : Int) := rfl
  have hzn : genP P j < l.length → ∀ i, i < j + 1 → genP P i < l.length := fun h i hi => by
    by_cases e : i = j
    · subst e; exact h
    · exact hz i (by omega)
  obtain ⟨p1, p2, cE⟩ := hP (genP P j)
  rw [← hP1] at p1 cE
  have hO1 : genO E P (j + 1) = insD (E (genP P j)) (genO E P j) := rfl
  have hlen := genO_len (E := E) (P := P) j
  by_cases hlt : genP P j < l.length ∧ j < 60
  · have hzn := hzn hlt.1
    have hmea : l.length - genP P (j + 1) < n := by omega
    rcases hst with ⟨rfl, rfl⟩ | ⟨h0, rfl⟩
    · have e0 : genO E P (0 + 1) = [E (genP P 0)] := rfl
      have a0 : atS l (genP P 0) = 0 := by rw [ha]; simp [genP]
      rw [a0] at cE
      have f0 : flat deR (genO E P 1) = deR (E (genP P 0)) := by rw [show genO E P 1 = [E (genP P 0)] from rfl, flat_one]
      rw [deR] at f0
      have hp0 : genP P 0 = 0 := rfl
      generalize E (genP P 0) = S at *
      (repeat' ((conv => whnf) <;> first | exact rfl | with_reducible refine boolK_dec (fun _ => ?_) (fun _ => ?_) <;> try (exfalso; omega) | refine boolK_beq (fun _ => ?_) (fun _ => ?_) <;> try (exfalso; first | omega | with_reducible contradiction) | refine boolK_bne (fun _ => ?_) (fun _ => ?_) <;> try (exfalso; first | omega | with_reducible contradiction) | (with_reducible first | refine boolK_not ?_ | refine boolK_and ?_ | refine boolK_or ?_ | refine boolK_true ?_ | refine boolK_false ?_) | refine boolK_intro (fun _ => ?_) (fun _ => ?_) <;> try (exfalso; simp_all; done) | refine jA ?_ | refine jB ?_ | refine jH ?_ | refine jI ?_ | refine jJ ?_ | refine jK ?_ | with_reducible refine natK_lit ?_ | refine natK_of rfl ?_ | refine natK_any ?_ | refine jP ?_ | refine jQ ?_ | refine jR ?_ | refine jS ?_ | refine jT ?_ | refine jU (fun _ => ?_) | refine jV ?_ | refine jX ?_ | refine jY ?_ | refine jZ ?_ | refine ja ?_ | refine jb ?_ | refine jc ?_ | refine jd ?_ | refine je ?_ | refine jf ?_ | refine jg ?_ | refine jh ?_ | refine ji ?_ | refine jj ?_ | refine jk ?_ | refine jo ?_ | refine jp ?_ | refine jq ?_ | refine jr ?_ | refine js ?_ | refine callK_intro (c_more l rfl _) ?_ | refine callK_intro (cE) ?_ | refine loopK_step (G := g6) ?_ | exact ⟨l.length - genP P 1, hmea, 1, rfl, by omega, hzn, .inr ⟨by omega, by first | (rw [f0]; done) | (rw [f0]; rfl)⟩⟩ | refine jt ?_ | refine jx ?_ | refine jy ?_ | refine ju ?_ | refine jv ?_)) <;> (try (conv => whnf))
    · generalize hO : genO E P j = O at *
      generalize hS : E (genP P j) = S at *
      generalize hO2 : genO E P (j + 1) = O2 at *
      have hmore : atS l (genP P j) < (l.length : Int) := by omega
      (repeat' ((conv => whnf) <;> first | exact rfl | with_reducible refine boolK_dec (fun _ => ?_) (fun _ => ?_) <;> try (exfalso; omega) | refine boolK_beq (fun _ => ?_) (fun _ => ?_) <;> try (exfalso; first | omega | with_reducible contradiction) | refine boolK_bne (fun _ => ?_) (fun _ => ?_) <;> try (exfalso; first | omega | with_reducible contradiction) | (with_reducible first | refine boolK_not ?_ | refine boolK_and ?_ | refine boolK_or ?_ | refine boolK_true ?_ | refine boolK_false ?_) | refine boolK_intro (fun _ => ?_) (fun _ => ?_) <;> try (exfalso; simp_all; done) | refine jA ?_ | refine jB ?_ | refine jH ?_ | refine jI ?_ | refine jJ ?_ | refine jK ?_ | with_reducible refine natK_lit ?_ | refine natK_of rfl ?_ | refine natK_any ?_ | refine jP ?_ | refine jQ ?_ | refine jR ?_ | refine jS ?_ | refine jT ?_ | refine jU (fun _ => ?_) | refine jV ?_ | refine jX ?_ | refine jY ?_ | refine jZ ?_ | refine ja ?_ | refine jb ?_ | refine jc ?_ | refine jd ?_ | refine je ?_ | refine jf ?_ | refine jg ?_ | refine jh ?_ | refine ji ?_ | refine jj ?_ | refine jk ?_ | refine jo ?_ | refine jp ?_ | refine jq ?_ | refine jr ?_ | refine js ?_ | refine callK_intro (c_more l rfl _) ?_ | refine callK_intro (cE) ?_ | refine jt ?_ | refine jx ?_ | refine jy ?_ | refine ju ?_ | refine jv ?_)) <;> (try (conv => whnf))
      refine loopK_inv (G := g6) (fun k st => ∃ i : Nat, k + i = j ∧ (∀ q, q < i → ¬ 0 < deO (O.getD q de0) S) ∧
        st = ⟨[(4, .c (.o (.p 4 0))), (5, .c (.o (.p 11 0))), (6, .c (.o (.p 6 0))), (7, .c (.o (.p 7 0))), (8, .c (.o (.i .i64 (i : Int))))], [(4, .st [.s [], .nl]), (6, .st [.s R, .gw 2097 j 9]), (7, .st [.s S.x, .s S.y, .i .u64 S.k, .i .i64 S.kv, .i .i64 S.ex, .i .i64 S.ml, .i .i64 S.atr, .i .i64 S.fl, .i .i64 S.un]), (11, .st [.sl (l.map u8) l.length, .i .i64 (atS l (genP P (j + 1)))]), (2097, .ar (flat deR O))]⟩) (n := j) ⟨0, by omega, by simp, rfl⟩ ?_
      rintro k st ⟨i, hi, hq, rfl⟩
      have lf := flat_len deR_len O
      have lt1 := flat_len deR_len (O.take i)
      have ld1 := flat_len deR_len (O.drop i)
      rw [List.length_take] at lt1
      rw [List.length_drop] at ld1
      have hd := flat_drop deR_len O i
      have ht := flat_take deR_len O i
      have ta : List.take ((j - i) * 9) (flat deR (O.drop i)) = flat deR (O.drop i) := by rw [← hlen]; exact take_all
      have done : posD S O = i → flat deR (O.take i) ++ deR S ++ flat deR (O.drop i) = flat deR O2 := fun h => by rw [hO1]; exact ins_flat S O h
      rw [deR] at done
      by_cases hil : i < j
      · have hil' : i < O.length := by omega
        have n1 := fun h => miss_next' hq (less_iff (s := O.getD i de0) (t := S) h)
        have n2 := fun h h2 => miss_next' hq (less_iff2 (s := O.getD i de0) (t := S) h h2)
        have n3 := fun h h2 => miss_next' hq (less_iff3 (s := O.getD i de0) (t := S) h h2)
        have m1 := fun h h2 => done (posD_at hil' hq (more_iff (s := O.getD i de0) (t := S) h h2))
        have m2 := fun h h2 h3 => done (posD_at hil' hq (more_iff2 (s := O.getD i de0) (t := S) h h2 h3))
        clear done
        (repeat' ((conv => whnf) <;> first | refine natK_of (j := i) (by omega) ?_ | refine dropC_of (c := flat deR O) (by simp) ?_ | refine takeC_of ht ?_ | refine dropC_of hd ?_ | refine takeC_of ta ?_ | refine catK_of (m1 (by assumption) (by assumption)) ?_ | refine catK_of (m2 (by assumption) (by assumption) (by assumption)) ?_ | exact rfl | with_reducible refine boolK_dec (fun _ => ?_) (fun _ => ?_) <;> try (exfalso; omega) | refine boolK_beq (fun _ => ?_) (fun _ => ?_) <;> try (exfalso; first | omega | with_reducible contradiction) | refine boolK_bne (fun _ => ?_) (fun _ => ?_) <;> try (exfalso; first | omega | with_reducible contradiction) | (with_reducible first | refine boolK_not ?_ | refine boolK_and ?_ | refine boolK_or ?_ | refine boolK_true ?_ | refine boolK_false ?_) | refine boolK_intro (fun _ => ?_) (fun _ => ?_) <;> try (exfalso; simp_all; done) | refine jA ?_ | refine jB ?_ | refine jH ?_ | refine jI ?_ | refine jJ ?_ | refine jK ?_ | with_reducible refine natK_lit ?_ | refine natK_of rfl ?_ | refine natK_any ?_ | refine jP ?_ | refine jQ ?_ | refine jR ?_ | refine jS ?_ | refine jT ?_ | refine jU (fun _ => ?_) | refine jV ?_ | refine jX ?_ | refine jY ?_ | refine jZ ?_ | refine ja ?_ | refine jb ?_ | refine jc ?_ | refine jd ?_ | refine je ?_ | refine jf ?_ | refine jg ?_ | refine jh ?_ | refine ji ?_ | refine jj ?_ | refine jk ?_ | refine jo ?_ | refine jp ?_ | refine jq ?_ | refine jr ?_ | refine js ?_ | refine headS_deJ (j := i) (by first | omega | rfl) hil' ?_ | refine headS_deY (j := i) (by first | omega | rfl) hil' ?_ | exact ⟨k - 1, by omega, i + 1, by omega, n1 (by assumption), rfl⟩ | exact ⟨k - 1, by omega, i + 1, by omega, n2 (by assumption) (by assumption), rfl⟩ | exact ⟨k - 1, by omega, i + 1, by omega, n3 (by assumption) (by assumption), rfl⟩ | exact ⟨l.length - genP P (j + 1), hmea, j + 1, rfl, by omega, hzn, .inr ⟨by omega, by rw [show 0 + (i - 0) + 1 + (j - i) = j + 1 by omega, hO2]⟩⟩ | refine jt ?_ | refine jx ?_ | refine jy ?_ | refine ju ?_ | refine sideK_intro (by first | (exact ⟨by omega, by omega⟩)) ?_ | refine jv ?_)) <;> (try (conv => whnf))
      · have hij : i = O.length := by omega
        have m3 := done ((posD_no fun q hq' => hq q (by omega)).trans hij.symm)
        clear done
        (repeat' ((conv => whnf) <;> first | refine natK_of (j := i) (by omega) ?_ | refine dropC_of (c := flat deR O) (by simp) ?_ | refine takeC_of ht ?_ | refine dropC_of hd ?_ | refine takeC_of ta ?_ | refine catK_of m3 ?_ | exact rfl | with_reducible refine boolK_dec (fun _ => ?_) (fun _ => ?_) <;> try (exfalso; omega) | refine boolK_beq (fun _ => ?_) (fun _ => ?_) <;> try (exfalso; first | omega | with_reducible contradiction) | refine boolK_bne (fun _ => ?_) (fun _ => ?_) <;> try (exfalso; first | omega | with_reducible contradiction) | (with_reducible first | refine boolK_not ?_ | refine boolK_and ?_ | refine boolK_or ?_ | refine boolK_true ?_ | refine boolK_false ?_) | refine boolK_intro (fun _ => ?_) (fun _ => ?_) <;> try (exfalso; simp_all; done) | refine jA ?_ | refine jB ?_ | refine jH ?_ | refine jI ?_ | refine jJ ?_ | refine jK ?_ | with_reducible refine natK_lit ?_ | refine natK_of rfl ?_ | refine natK_any ?_ | refine jP ?_ | refine jQ ?_ | refine jR ?_ | refine jS ?_ | refine jT ?_ | refine jU (fun _ => ?_) | refine jV ?_ | refine jX ?_ | refine jY ?_ | refine jZ ?_ | refine ja ?_ | refine jb ?_ | refine jc ?_ | refine jd ?_ | refine je ?_ | refine jf ?_ | refine jg ?_ | refine jh ?_ | refine ji ?_ | refine jj ?_ | refine jk ?_ | refine jo ?_ | refine jp ?_ | refine jq ?_ | refine jr ?_ | refine js ?_ | exact ⟨l.length - genP P (j + 1), hmea, j + 1, rfl, by omega, hzn, .inr ⟨by omega, by rw [show 0 + (i - 0) + 1 + (j - i) = j + 1 by omega, hO2]⟩⟩ | refine jt ?_ | refine jx ?_ | refine jy ?_ | refine ju ?_ | refine sideK_intro (by first | (exact ⟨by omega, by omega⟩)) ?_ | refine jv ?_)) <;> (try (conv => whnf))
  · have eN := hN j hj hz hlt
    subst eN
    rcases hst with ⟨rfl, rfl⟩ | ⟨h0, rfl⟩
    · have h00 : ¬ (0 : Int) < (l.length : Int) := by have : genP P 0 = 0 := rfl; omega
      (repeat' ((conv => whnf) <;> first | exact rfl | with_reducible refine boolK_dec (fun _ => ?_) (fun _ => ?_) <;> try (exfalso; omega) | refine boolK_beq (fun _ => ?_) (fun _ => ?_) <;> try (exfalso; first | omega | with_reducible contradiction) | refine boolK_bne (fun _ => ?_) (fun _ => ?_) <;> try (exfalso; first | omega | with_reducible contradiction) | (with_reducible first | refine boolK_not ?_ | refine boolK_and ?_ | refine boolK_or ?_ | refine boolK_true ?_ | refine boolK_false ?_) | refine boolK_intro (fun _ => ?_) (fun _ => ?_) <;> try (exfalso; simp_all; done) | refine jA ?_ | refine jB ?_ | refine jH ?_ | refine jI ?_ | refine jJ ?_ | refine jK ?_ | with_reducible refine natK_lit ?_ | refine natK_of rfl ?_ | refine natK_any ?_ | refine jP ?_ | refine jQ ?_ | refine jR ?_ | refine jS ?_ | refine jT ?_ | refine jU (fun _ => ?_) | refine jV ?_ | refine jX ?_ | refine jY ?_ | refine jZ ?_ | refine ja ?_ | refine jb ?_ | refine jc ?_ | refine jd ?_ | refine je ?_ | refine jf ?_ | refine jg ?_ | refine jh ?_ | refine ji ?_ | refine jj ?_ | refine jk ?_ | refine jo ?_ | refine jp ?_ | refine jq ?_ | refine jr ?_ | refine js ?_ | refine callK_intro (c_more l rfl _) ?_ | refine jt ?_ | refine jx ?_ | refine jy ?_ | refine ju ?_ | refine sideK_intro (by first | (exact ⟨rfl, rfl⟩)) ?_ | refine jv ?_)) <;> (try (conv => whnf))
    · rw [hlen]
      generalize genO E P N = O at *
      (repeat' ((conv => whnf) <;> first | exact rfl | with_reducible refine boolK_dec (fun _ => ?_) (fun _ => ?_) <;> try (exfalso; omega) | refine boolK_beq (fun _ => ?_) (fun _ => ?_) <;> try (exfalso; first | omega | with_reducible contradiction) | refine boolK_bne (fun _ => ?_) (fun _ => ?_) <;> try (exfalso; first | omega | with_reducible contradiction) | (with_reducible first | refine boolK_not ?_ | refine boolK_and ?_ | refine boolK_or ?_ | refine boolK_true ?_ | refine boolK_false ?_) | refine boolK_intro (fun _ => ?_) (fun _ => ?_) <;> try (exfalso; simp_all; done) | refine jA ?_ | refine jB ?_ | refine jH ?_ | refine jI ?_ | refine jJ ?_ | refine jK ?_ | with_reducible refine natK_lit ?_ | refine natK_of rfl ?_ | refine natK_any ?_ | refine jP ?_ | refine jQ ?_ | refine jR ?_ | refine jS ?_ | refine jT ?_ | refine jU (fun _ => ?_) | refine jV ?_ | refine jX ?_ | refine jY ?_ | refine jZ ?_ | refine ja ?_ | refine jb ?_ | refine jc ?_ | refine jd ?_ | refine je ?_ | refine jf ?_ | refine jg ?_ | refine jh ?_ | refine ji ?_ | refine jj ?_ | refine jk ?_ | refine jo ?_ | refine jp ?_ | refine jq ?_ | refine jr ?_ | refine js ?_ | refine callK_intro (c_more l rfl _) ?_ | refine jt ?_ | refine jx ?_ | refine jy ?_ | refine ju ?_ | refine sideK_intro (by first | (exact ⟨rfl, rfl, rfl⟩)) ?_ | refine jv ?_)) <;> (try (conv => whnf))
end Go.Sx

/-
  Contracts of package database and of its reference: what is added and changed.
-/
import Derived.Test.YtdpbmmmdmecfdaaGreatDoorCDbB
set_option linter.all false
namespace Go.Sx
open Go.Proofs Go.RowKit
theorem ins_flat (e : DE) (l : List DE) {j : Nat} (h : posD e l = j) : flat deR (l.take j) ++ deR e ++ flat deR (l.drop j) = flat deR (insD e l) := by
  subst h; rw [insD, flat_append, flat_append, flat_one]
theorem miss_next' {l : List DE} {e : DE} {j : Nat} (h : ∀ i, i < j → ¬ 0 < deO (l.getD i de0) e) (h2 : ¬ 0 < deO (l.getD j de0) e) : ∀ i, i < j + 1 → ¬ 0 < deO (l.getD i de0) e := fun i hi => by
  by_cases q : i = j
  · subst q; exact h2
  · exact h i (by omega)
noncomputable def g55 : Par := par 27 (nthLL [[0, 1], [0, 1, 6], [0, 1], [0, 1], [0, 1, 16], [0], [4]]) [0, 4] (nthLL [])
noncomputable def g32 : Par := par 36 (nthLL [[0], [0, 3], [0, 3, 9, 10, 11], [0, 3, 9, 10, 11, 12], [0, 3, 5, 9, 10, 11], [0, 3, 9, 10, 11], [0, 3, 9, 10, 11, 20], [0, 3, 9, 10, 11], [0, 3, 9, 10, 11], [0, 6], [6, 25, 26, 27], [6, 25, 26, 27, 28], [6, 8, 25, 26, 27], [6, 25, 26, 27], [6, 25, 26, 27], [2]]) [2, 6] (nthLL [])
noncomputable def g13 : Par := par 60 (nthLL [[2, 3, 4], [2, 3, 4, 6], [2, 3, 4, 6, 13], [4, 5], [2, 3, 4, 7], [2, 3, 4, 7, 19], [4, 5], [2, 3, 4, 25], [4, 5], [2, 3, 4, 8], [2, 3, 4, 8, 41], [2, 3, 4, 8], [2, 4, 9], [4, 5]]) [4, 5, 6, 7] (nthLL [[], [], [], [], [], [], [], [], [], [], [0, 0, 2, 6, 15, 31, 63, 127, 63, 511, 1023, 63, 4095, 8191, 16383], [], [0, 1, 0, 7, 0, 16, 0, 64, 0, 448, 1023, 2047, 4095]])
set_option maxRecDepth 10000
set_option maxHeartbeats 4000000
theorem c_growE (k : Int) (h : 0 ≤ k ∧ k ≤ 1000000) : Fn Tryz.prog 55 [.o .nl, .o (.i .i64 k)] [] (.one (.fr [] 0 9)) [] := by
  refine Fn_intro (G := g55) (goodA rfl) (fn := Tryz.f55) rfl rfl rfl rfl rfl ?_
  (repeat' ((conv => whnf) <;> first | exact rfl | with_reducible refine boolK_dec (fun _ => ?_) (fun _ => ?_) <;> try (exfalso; omega) | refine boolK_beq (fun _ => ?_) (fun _ => ?_) <;> try (exfalso; first | omega | with_reducible contradiction) | refine boolK_bne (fun _ => ?_) (fun _ => ?_) <;> try (exfalso; first | omega | with_reducible contradiction) | (with_reducible first | refine boolK_not ?_ | refine boolK_and ?_ | refine boolK_or ?_ | refine boolK_true ?_ | refine boolK_false ?_) | refine boolK_intro (fun _ => ?_) (fun _ => ?_) <;> try (exfalso; simp_all; done) | refine jA ?_ | refine jB ?_ | refine jH ?_ | refine jI ?_ | refine jJ ?_ | refine jK ?_ | with_reducible refine natK_lit ?_ | refine natK_of rfl ?_ | refine natK_any ?_ | refine jP ?_ | refine jQ ?_ | refine jR ?_ | refine jS ?_ | refine jT ?_ | refine jU (fun _ => ?_) | refine jV ?_ | refine jX ?_ | refine jY ?_ | refine jZ ?_ | refine ja ?_ | refine jb ?_ | refine jc ?_ | refine jd ?_ | refine jn ?_ | refine jo ?_ | refine jp ?_ | refine jq ?_ | refine jr ?_ | refine js ?_ | refine takeC_of (c := []) (by simp) ?_ | (refine eitherK_r ?_; (conv => whnf); refine sideK_intro (by omega) ?_) | refine jt ?_ | refine jx ?_ | refine jy ?_ | refine sideK_intro (by first | omega | (exact ⟨rfl, rfl, rfl⟩) | (exact ⟨rfl, rfl⟩) | (simp; done)) ?_ | refine jv ?_)) <;> (try (conv => whnf))
theorem c_concatE (a b c : List DE) {m n k : Nat} (hm : m = a.length) (hn : n = b.length) (hk : k = c.length) (h : a.length + b.length + c.length ≤ 900000) : Fn Tryz.prog 32 [.o (.sl [.sl (flat deR a) m, .sl (flat deR b) n, .sl (flat deR c) k] 3)] [] (.one (.fr (flat deR a ++ flat deR b ++ flat deR c) (m + n + k) 9)) [] := by
  have la := flat_len deR_len a
  have lb := flat_len deR_len b
  have lc := flat_len deR_len c
  have cG := c_growE ((m : Int) + (n : Int) + (k : Int)) (by omega)
  generalize flat deR a = A at *
  generalize flat deR b = B at *
  generalize flat deR c = C at *
  refine Fn_intro (G := g32) (goodA rfl) (fn := Tryz.f32) rfl rfl rfl rfl rfl ?_
  (repeat' ((conv => whnf) <;> first | exact rfl | with_reducible refine boolK_dec (fun _ => ?_) (fun _ => ?_) <;> try (exfalso; omega) | refine boolK_beq (fun _ => ?_) (fun _ => ?_) <;> try (exfalso; first | omega | with_reducible contradiction) | refine boolK_bne (fun _ => ?_) (fun _ => ?_) <;> try (exfalso; first | omega | with_reducible contradiction) | (with_reducible first | refine boolK_not ?_ | refine boolK_and ?_ | refine boolK_or ?_ | refine boolK_true ?_ | refine boolK_false ?_) | refine boolK_intro (fun _ => ?_) (fun _ => ?_) <;> try (exfalso; simp_all; done) | refine jA ?_ | refine jB ?_ | refine jH ?_ | refine jI ?_ | refine jJ ?_ | refine jK ?_ | with_reducible refine natK_lit ?_ | refine natK_of rfl ?_ | refine natK_any ?_ | refine jP ?_ | refine jQ ?_ | refine jR ?_ | refine jS ?_ | refine jT ?_ | refine jU (fun _ => ?_) | refine jV ?_ | refine jX ?_ | refine jY ?_ | refine jZ ?_ | refine ja ?_ | refine jb ?_ | refine jc ?_ | refine jd ?_ | refine jn ?_ | refine jo ?_ | refine jp ?_ | refine jq ?_ | refine jr ?_ | refine js ?_ | refine callK_intro (cG) ?_ | refine callK_intro (c_growE _ (by omega)) ?_ | refine nlK_nl ?_ | refine loopK_step (G := g32) ?_ | refine jt ?_ | refine jy ?_ | refine ju ?_ | refine sideK_intro (by first | (exact ⟨rfl, by omega, rfl⟩) | (exact ⟨by omega, by omega⟩)) ?_ | refine jv ?_)) <;> (try (conv => whnf))
theorem c_dbAdd (r : List UInt8) (l : List DE) {m : Nat} (hm : m = l.length) (hl : l.length ≤ 900000) (hr : r.length ≤ 90000) (hs : ∀ s ∈ l, deSm 90000 s) (e : DE) (he : deSm 90000 e) : Fn Tryz.prog 13 [.a [.s r, .sl (flat deR l) m], .a [.s e.x, .s e.y, .i .u64 e.k, .i .i64 e.kv, .i .i64 e.ex, .i .i64 e.ml, .i .i64 e.atr, .i .i64 e.fl, .i .i64 e.un]] [] (.tup [.c (.a [.s (dbA r l e).1.1, .sl (flat deR (dbA r l e).1.2) (dbA r l e).1.2.length]), .c (.o (.i .i64 (dbA r l e).2))]) [] := by
  subst hm
  have cC := c_dbCheck r l rfl (by omega) hr hs
  have cE := c_dbCheckEntry e he
  refine Fn_intro (G := g13) (goodA rfl) (fn := Tryz.f13) rfl rfl rfl rfl rfl ?_
  by_cases hC : dbC r l = 0
  · rw [hC] at cC
    have h60 := (dbC_un hC).2.1
    by_cases hE : deC e = 0
    · rw [hE] at cE
      by_cases h3 : 60 ≤ l.length
      · rw [dbA_3 hC hE h3]
        (repeat' ((conv => whnf) <;> first | exact rfl | with_reducible refine boolK_dec (fun _ => ?_) (fun _ => ?_) <;> try (exfalso; omega) | refine boolK_beq (fun _ => ?_) (fun _ => ?_) <;> try (exfalso; first | omega | with_reducible contradiction) | refine boolK_bne (fun _ => ?_) (fun _ => ?_) <;> try (exfalso; first | omega | with_reducible contradiction) | (with_reducible first | refine boolK_not ?_ | refine boolK_and ?_ | refine boolK_or ?_ | refine boolK_true ?_ | refine boolK_false ?_) | refine boolK_intro (fun _ => ?_) (fun _ => ?_) <;> try (exfalso; simp_all; done) | refine jA ?_ | refine jB ?_ | refine jH ?_ | refine jI ?_ | refine jJ ?_ | refine jK ?_ | with_reducible refine natK_lit ?_ | refine natK_of rfl ?_ | refine natK_any ?_ | refine jP ?_ | refine jQ ?_ | refine jR ?_ | refine jS ?_ | refine jT ?_ | refine jU (fun _ => ?_) | refine jV ?_ | refine je ?_ | refine jf ?_ | refine jg ?_ | refine jh ?_ | refine ji ?_ | refine jj ?_ | refine jk ?_ | refine jo ?_ | refine jp ?_ | refine jq ?_ | refine jr ?_ | refine js ?_ | refine callK_intro (cC) ?_ | refine callK_intro (cE) ?_ | refine jx ?_ | refine jy ?_ | refine ju ?_ | refine jv ?_)) <;> (try (conv => whnf))
      · rw [dbA_4 hC hE h3]
        dsimp only
        rw [insD_len]
        (repeat' ((conv => whnf) <;> first | exact rfl | with_reducible refine boolK_dec (fun _ => ?_) (fun _ => ?_) <;> try (exfalso; omega) | refine boolK_beq (fun _ => ?_) (fun _ => ?_) <;> try (exfalso; first | omega | with_reducible contradiction) | refine boolK_bne (fun _ => ?_) (fun _ => ?_) <;> try (exfalso; first | omega | with_reducible contradiction) | (with_reducible first | refine boolK_not ?_ | refine boolK_and ?_ | refine boolK_or ?_ | refine boolK_true ?_ | refine boolK_false ?_) | refine boolK_intro (fun _ => ?_) (fun _ => ?_) <;> try (exfalso; simp_all; done) | refine jA ?_ | refine jB ?_ | refine jH ?_ | refine jI ?_ | refine jJ ?_ | refine jK ?_ | with_reducible refine natK_lit ?_ | refine natK_of rfl ?_ | refine natK_any ?_ | refine jP ?_ | refine jQ ?_ | refine jR ?_ | refine jS ?_ | refine jT ?_ | refine jU (fun _ => ?_) | refine jV ?_ | refine je ?_ | refine jf ?_ | refine jg ?_ | refine jh ?_ | refine ji ?_ | refine jj ?_ | refine jk ?_ | refine jo ?_ | refine jp ?_ | refine jq ?_ | refine jr ?_ | refine js ?_ | refine callK_intro (cC) ?_ | refine callK_intro (cE) ?_ | refine jx ?_ | refine jy ?_ | refine ju ?_ | refine jv ?_)) <;> (try (conv => whnf))
        have fin : ∀ j, j ≤ l.length → posD e l = j → flat deR (insD e l) = flat deR (l.take j) ++ flat deR [e] ++ flat deR (l.drop j) := fun j _ h => by rw [← ins_flat e l h, flat_one]
        refine loopK_inv (G := g13) (fun k st => ∃ j : Nat, k + j = l.length ∧ (∀ i, i < j → ¬ 0 < deO (l.getD i de0) e) ∧
          st = ⟨[(2, .c (.o (.p 2 0))), (3, .c (.o (.p 3 0))), (4, .c (.o (.p 4 0))), (8, .c (.o (.i .i64 (j : Int))))], [(2, .st [.s r, .sl (flat deR l) l.length]), (3, .st [.s e.x, .s e.y, .i .u64 e.k, .i .i64 e.kv, .i .i64 e.ex, .i .i64 e.ml, .i .i64 e.atr, .i .i64 e.fl, .i .i64 e.un]), (4, .st [.s [], .nl])]⟩) (n := l.length) ⟨0, by omega, by simp, rfl⟩ ?_
        rintro k st ⟨j, hj, hz, rfl⟩
        have lt1 := flat_len deR_len (l.take j)
        have ld1 := flat_len deR_len (l.drop j)
        rw [List.length_take] at lt1
        rw [List.length_drop] at ld1
        have hd := flat_drop deR_len l j
        have ht := flat_take deR_len l j
        have lf := flat_len deR_len l
        by_cases hjl : j < l.length
        · have cO := c_dbCompare (l.getD j de0) e
          by_cases hO : 0 < deO (l.getD j de0) e
          · have fin := fin j (by omega) (posD_at hjl hz hO)
            rw [fin]
            have cT := c_concatE (l.take j) [e] (l.drop j) (m := j) (n := 1) (k := l.length - j) (by rw [List.length_take]; omega) rfl (by rw [List.length_drop]) (by rw [List.length_take, List.length_drop]; simp; omega)
            rw [flat_one, show j + 1 + (l.length - j) = l.length + 1 by omega, ← flat_one (f := deR) e] at cT
            rw [flat_one] at cT ⊢
            rw [deR] at cT ⊢
            generalize deO (l.getD j de0) e = O at *
            generalize flat deR (l.take j) = A at *
            generalize flat deR (l.drop j) = B at *
            (repeat' ((conv => whnf) <;> first | refine natK_of (j := j) (by omega) ?_ | refine takeC_of ht ?_ | refine dropC_of hd ?_ | exact rfl | with_reducible refine boolK_dec (fun _ => ?_) (fun _ => ?_) <;> try (exfalso; omega) | refine boolK_beq (fun _ => ?_) (fun _ => ?_) <;> try (exfalso; first | omega | with_reducible contradiction) | refine boolK_bne (fun _ => ?_) (fun _ => ?_) <;> try (exfalso; first | omega | with_reducible contradiction) | (with_reducible first | refine boolK_not ?_ | refine boolK_and ?_ | refine boolK_or ?_ | refine boolK_true ?_ | refine boolK_false ?_) | refine boolK_intro (fun _ => ?_) (fun _ => ?_) <;> try (exfalso; simp_all; done) | refine jA ?_ | refine jB ?_ | refine jH ?_ | refine jI ?_ | refine jJ ?_ | refine jK ?_ | with_reducible refine natK_lit ?_ | refine natK_of rfl ?_ | refine natK_any ?_ | refine jP ?_ | refine jQ ?_ | refine jR ?_ | refine jS ?_ | refine jT ?_ | refine jU (fun _ => ?_) | refine jV ?_ | refine je ?_ | refine jf ?_ | refine jg ?_ | refine jh ?_ | refine ji ?_ | refine jj ?_ | refine jk ?_ | refine jo ?_ | refine jp ?_ | refine jq ?_ | refine jr ?_ | refine js ?_ | refine callK_intro (cO) ?_ | refine callK_intro (cT) ?_ | refine headS_de hjl ?_ | refine jx ?_ | refine jy ?_ | refine ju ?_ | refine sideK_intro (by first | (exact ⟨by omega, by omega⟩) | (exact ⟨rfl, by omega, rfl⟩) | (rw [List.append_assoc]; first | rfl | (congr 3; omega) | (congr 2; omega))) ?_ | refine jv ?_)) <;> (try (conv => whnf))
          · have hn := miss_next' hz hO
            generalize deO (l.getD j de0) e = O at *
            (repeat' ((conv => whnf) <;> first | refine natK_of (j := j) (by omega) ?_ | exact rfl | with_reducible refine boolK_dec (fun _ => ?_) (fun _ => ?_) <;> try (exfalso; omega) | refine boolK_beq (fun _ => ?_) (fun _ => ?_) <;> try (exfalso; first | omega | with_reducible contradiction) | refine boolK_bne (fun _ => ?_) (fun _ => ?_) <;> try (exfalso; first | omega | with_reducible contradiction) | (with_reducible first | refine boolK_not ?_ | refine boolK_and ?_ | refine boolK_or ?_ | refine boolK_true ?_ | refine boolK_false ?_) | refine boolK_intro (fun _ => ?_) (fun _ => ?_) <;> try (exfalso; simp_all; done) | refine jA ?_ | refine jB ?_ | refine jH ?_ | refine jI ?_ | refine jJ ?_ | refine jK ?_ | with_reducible refine natK_lit ?_ | refine natK_of rfl ?_ | refine natK_any ?_ | refine jP ?_ | refine jQ ?_ | refine jR ?_ | refine jS ?_ | refine jT ?_ | refine jU (fun _ => ?_) | refine jV ?_ | refine je ?_ | refine jf ?_ | refine jg ?_ | refine jh ?_ | refine ji ?_ | refine jj ?_ | refine jk ?_ | refine jo ?_ | refine jp ?_ | refine jq ?_ | refine jr ?_ | refine js ?_ | refine callK_intro (cO) ?_ | refine headS_de hjl ?_ | exact ⟨k - 1, by omega, j + 1, by omega, hn, rfl⟩ | refine jx ?_ | refine jy ?_ | refine ju ?_ | refine jv ?_)) <;> (try (conv => whnf))
        · have hje : j = l.length := by omega
          have fin := fin j (by omega) ((posD_no fun i hi => hz i (by omega)).trans hje.symm)
          rw [fin]
          have cT := c_concatE (l.take j) [e] (l.drop j) (m := j) (n := 1) (k := l.length - j) (by rw [List.length_take]; omega) rfl (by rw [List.length_drop]) (by rw [List.length_take, List.length_drop]; simp; omega)
          rw [flat_one, show j + 1 + (l.length - j) = l.length + 1 by omega, ← flat_one (f := deR) e] at cT
          rw [flat_one] at cT ⊢
          rw [deR] at cT ⊢
          generalize flat deR (l.take j) = A at *
          generalize flat deR (l.drop j) = B at *
          (repeat' ((conv => whnf) <;> first | refine natK_of (j := j) (by omega) ?_ | refine takeC_of ht ?_ | refine dropC_of hd ?_ | exact rfl | with_reducible refine boolK_dec (fun _ => ?_) (fun _ => ?_) <;> try (exfalso; omega) | refine boolK_beq (fun _ => ?_) (fun _ => ?_) <;> try (exfalso; first | omega | with_reducible contradiction) | refine boolK_bne (fun _ => ?_) (fun _ => ?_) <;> try (exfalso; first | omega | with_reducible contradiction) | (with_reducible first | refine boolK_not ?_ | refine boolK_and ?_ | refine boolK_or ?_ | refine boolK_true ?_ | refine boolK_false ?_) | refine boolK_intro (fun _ => ?_) (fun _ => ?_) <;> try (exfalso; simp_all; done) | refine jA ?_ | refine jB ?_ | refine jH ?_ | refine jI ?_ | refine jJ ?_ | refine jK ?_ | with_reducible refine natK_lit ?_ | refine natK_of rfl ?_ | refine natK_any ?_ | refine jP ?_ | refine jQ ?_ | refine jR ?_ | refine jS ?_ | refine jT ?_ | refine jU (fun _ => ?_) | refine jV ?_ | refine je ?_ | refine jf ?_ | refine jg ?_ | refine jh ?_ | refine ji ?_ | refine jj ?_ | refine jk ?_ | refine jo ?_ | refine jp ?_ | refine jq ?_ | refine jr ?_ | refine js ?_ | refine callK_intro (cT) ?_ | refine jx ?_ | refine jy ?_ | refine ju ?_ | refine sideK_intro (by first | (exact ⟨by omega, by omega⟩) | (exact ⟨rfl, by omega, rfl⟩) | (rw [List.append_assoc]; first | rfl | (congr 3; omega) | (congr 2; omega))) ?_ | refine jv ?_)) <;> (try (conv => whnf))
    · rw [dbA_2 hC hE]
      generalize deC e = E at *
      (repeat' ((conv => whnf) <;> first | exact rfl | with_reducible refine boolK_dec (fun _ => ?_) (fun _ => ?_) <;> try (exfalso; omega) | refine boolK_beq (fun _ => ?_) (fun _ => ?_) <;> try (exfalso; first | omega | with_reducible contradiction) | refine boolK_bne (fun _ => ?_) (fun _ => ?_) <;> try (exfalso; first | omega | with_reducible contradiction) | (with_reducible first | refine boolK_not ?_ | refine boolK_and ?_ | refine boolK_or ?_ | refine boolK_true ?_ | refine boolK_false ?_) | refine boolK_intro (fun _ => ?_) (fun _ => ?_) <;> try (exfalso; simp_all; done) | refine jA ?_ | refine jB ?_ | refine jH ?_ | refine jI ?_ | refine jJ ?_ | refine jK ?_ | with_reducible refine natK_lit ?_ | refine natK_of rfl ?_ | refine natK_any ?_ | refine jP ?_ | refine jQ ?_ | refine jR ?_ | refine jS ?_ | refine jT ?_ | refine jU (fun _ => ?_) | refine jV ?_ | refine je ?_ | refine jf ?_ | refine jg ?_ | refine jh ?_ | refine ji ?_ | refine jj ?_ | refine jk ?_ | refine jo ?_ | refine jp ?_ | refine jq ?_ | refine jr ?_ | refine js ?_ | refine callK_intro (cC) ?_ | refine callK_intro (cE) ?_ | refine jx ?_ | refine jy ?_ | refine ju ?_ | refine jv ?_)) <;> (try (conv => whnf))
  · rw [dbA_1 hC]
    generalize dbC r l = C at *
    (repeat' ((conv => whnf) <;> first | exact rfl | with_reducible refine boolK_dec (fun _ => ?_) (fun _ => ?_) <;> try (exfalso; omega) | refine boolK_beq (fun _ => ?_) (fun _ => ?_) <;> try (exfalso; first | omega | with_reducible contradiction) | refine boolK_bne (fun _ => ?_) (fun _ => ?_) <;> try (exfalso; first | omega | with_reducible contradiction) | (with_reducible first | refine boolK_not ?_ | refine boolK_and ?_ | refine boolK_or ?_ | refine boolK_true ?_ | refine boolK_false ?_) | refine boolK_intro (fun _ => ?_) (fun _ => ?_) <;> try (exfalso; simp_all; done) | refine jA ?_ | refine jB ?_ | refine jH ?_ | refine jI ?_ | refine jJ ?_ | refine jK ?_ | with_reducible refine natK_lit ?_ | refine natK_of rfl ?_ | refine natK_any ?_ | refine jP ?_ | refine jQ ?_ | refine jR ?_ | refine jS ?_ | refine jT ?_ | refine jU (fun _ => ?_) | refine jV ?_ | refine je ?_ | refine jf ?_ | refine jg ?_ | refine jh ?_ | refine ji ?_ | refine jj ?_ | refine jk ?_ | refine jo ?_ | refine jp ?_ | refine jq ?_ | refine jr ?_ | refine js ?_ | refine callK_intro (cC) ?_ | refine jx ?_ | refine jy ?_ | refine ju ?_ | refine jv ?_)) <;> (try (conv => whnf))
end Go.Sx

/-
  Contracts of the document's functions that take a dump apart.
-/
import Derived.Test.YtdpbmmmdmecfdaaGreatDoorCDumpR
set_option linter.all false
namespace Go.Sx
open Go.Proofs Go.RowKit
theorem take_byte {s : List UInt8} {j : Nat} (h : j < s.length) : s.take (j + 1) = s.take j ++ [s.getD j 0] := by
  rw [List.take_succ_eq_append_getElem h, show s.getD j 0 = s[j] from by rw [List.getD_eq_getElem?_getD, List.getElem?_eq_getElem h]; rfl]
def numI (s : List UInt8) : Int × Bool := match numR s with | some n => ((n : Int), true) | none => (0, false)
theorem numI_no {s : List UInt8} (h : numR s = none) : numI s = (0, false) := by rw [numI, h]
theorem numI_ok {s : List UInt8} {A : Int} (h0 : 0 ≤ A) (h : numR s = some A.toNat) : numI s = (A, true) := by
  rw [numI, h]
  simp only [Prod.mk.injEq, and_true]
  omega
theorem numR_no1 {s : List UInt8} (h : s.length = 0) : numR s = none := by rw [numR, if_pos (.inl (List.eq_nil_of_length_eq_zero h))]
theorem numR_no2 {s : List UInt8} (h : 19 < s.length) : numR s = none := by rw [numR, if_pos (.inr (.inl h))]
theorem head_getD {s : List UInt8} (h : 0 < s.length) : s.head? = some (s.getD 0 0) := by
  cases s with
  | nil => simp at h
  | cons a b => rfl
theorem numR_no3 {s : List UInt8} (h : 1 < s.length) (h2 : s.getD 0 0 = 48) : numR s = none := by rw [numR, if_pos (.inr (.inr ⟨h, by rw [head_getD (by omega), h2]⟩))]
theorem numR_go {s : List UInt8} (h : ¬ s.length = 0) (h1 : s.length ≤ 19) (h2 : s.length ≤ 1 ∨ ¬ s.getD 0 0 = 48) : numR s = numF 0 s := by
  rw [numR, if_neg]
  rintro (e | e | ⟨e, e2⟩)
  · exact h (by rw [e]; rfl)
  · omega
  · rw [head_getD (by omega)] at e2
    rcases h2 with h2 | h2
    · omega
    · exact h2 (Option.some.inj e2)
theorem numI_le {s : List UInt8} : 0 ≤ (numI s).1 ∧ (numI s).1 < 10000000000000000000 := by
  unfold numI
  split
  · rename_i n h
    have := (numR_is h).2.2
    simp only
    omega
  · decide
theorem headS_last {Q : List (List UInt8)} {z : List UInt8} {n : Nat} (hn : n = Q.length) {K : List UInt8 → List L → Prop} (hk : K z []) : headS ((Q.map L.s ++ [L.s z]).drop n) K := by
  subst hn
  refine ⟨z, [], ?_, hk⟩
  rw [List.drop_append]
  simp
theorem put_last' {Q : List (List UInt8)} {z : List UInt8} {x : L} : putAt (Q.map L.s ++ [L.s z]) Q.length [x] = Q.map L.s ++ [x] := by
  unfold putAt
  rw [List.take_append_of_le_length (by simp), List.take_of_length_le (by simp), List.drop_of_length_le (by simp), List.append_nil]
theorem headS_part {P : List (List UInt8)} {j n : Nat} (hn : n = j) (hj : j < P.length) {K : List UInt8 → List L → Prop} (hk : K (P.getD j []) ((P.drop (j + 1)).map L.s)) : headS ((P.map L.s).drop n) K := by
  subst hn
  refine ⟨P.getD n [], (P.drop (n + 1)).map L.s, ?_, hk⟩
  rw [← List.map_drop, List.drop_eq_getElem_cons hj, List.map_cons, show P.getD n [] = P[n] from by rw [List.getD_eq_getElem?_getD, List.getElem?_eq_getElem hj]; rfl]
theorem pow_19 {j : Nat} (h : j ≤ 18) : (10 : Int) ^ j ≤ 1000000000000000000 := by
  have := Nat.pow_le_pow_right (n := 10) (by decide) h
  have e : ((10 ^ j : Nat) : Int) = (10 : Int) ^ j := by simp
  rw [← e]
  have e2 : (10 : Nat) ^ 18 = 1000000000000000000 := by decide
  omega
noncomputable def g28 : Par := par 40 (nthLL [[0, 1], [0, 1, 5], [0, 1, 5, 6], [0, 1, 5, 6, 11], [0, 1, 5, 6], [0, 1, 5, 6, 18], [0, 1, 5, 6], [0, 1, 5, 6], [4]]) [4, 5] (nthLL [[], [], [], [], [], [], [], [0, 0, 2, 6, 0, 0, 32, 96, 240, 496, 0, 0, 0, 4096, 15360, 32752, 65535, 131071]])
noncomputable def g48 : Par := par 49 (nthLL [[0], [0, 23], [2, 3], [0, 4], [0, 4, 5], [0, 4, 5, 27], [0, 4, 5], [0, 4, 5, 39], [2, 3], [0, 4, 5], [2, 3]]) [2, 3, 4] (nthLL [])
set_option maxRecDepth 10000
set_option maxHeartbeats 8000000
theorem c_rSplit (s : List UInt8) (c : UInt8) (hs : s.length ≤ 90000) : Fn Tryz.prog 28 [.o (.s s), .o (.i .u8 (c.toNat : Int))] [] (.one (.fr ((spl c s).map L.s) (spl c s).length 1)) [] := by
  refine Fn_intro (G := g28) (goodA rfl) (fn := Tryz.f28) rfl rfl rfl rfl rfl ?_
  (repeat' ((conv => whnf) <;> first | exact rfl | with_reducible refine boolK_dec (fun _ => ?_) (fun _ => ?_) <;> try (exfalso; omega) | refine boolK_beq (fun _ => ?_) (fun _ => ?_) <;> try (exfalso; first | omega | with_reducible contradiction) | refine boolK_bne (fun _ => ?_) (fun _ => ?_) <;> try (exfalso; first | omega | with_reducible contradiction) | (with_reducible first | refine boolK_not ?_ | refine boolK_and ?_ | refine boolK_or ?_ | refine boolK_true ?_ | refine boolK_false ?_) | refine boolK_intro (fun _ => ?_) (fun _ => ?_) <;> try (exfalso; simp_all; done) | refine jA ?_ | refine jB ?_ | refine jH ?_ | refine jI ?_ | refine jJ ?_ | refine jK ?_ | with_reducible refine natK_lit ?_ | refine natK_of rfl ?_ | refine natK_any ?_ | refine jP ?_ | refine jQ ?_ | refine jR ?_ | refine jS ?_ | refine jT ?_ | refine jU (fun _ => ?_) | refine jV ?_ | refine jX ?_ | refine jY ?_ | refine jZ ?_ | refine ja ?_ | refine jb ?_ | refine jc ?_ | refine jd ?_ | refine je ?_ | refine jf ?_ | refine jg ?_ | refine jh ?_ | refine ji ?_ | refine jj ?_ | refine jk ?_ | refine jn ?_ | refine jo ?_ | refine jp ?_ | refine jq ?_ | refine jr ?_ | refine js ?_ | refine jt ?_ | refine jx ?_ | refine jy ?_ | refine ju ?_ | refine jv ?_)) <;> (try (conv => whnf))
  refine loopK_inv (G := g28) (fun n st => ∃ (j : Nat) (Q : List (List UInt8)) (z : List UInt8), n + j = s.length ∧ spl c (s.take j) = Q ++ [z] ∧ Q.length ≤ j ∧ z.length ≤ j ∧
    st = ⟨[(0, .c (.o (.s s))), (1, .c (.o (.i .u8 (c.toNat : Int)))), (5, .c (.o (.gw 5 (Q.length + 1) 1))), (6, .c (.o (.i .i64 (j : Int))))], [(5, .ar (Q.map L.s ++ [L.s z]))]⟩) (n := s.length) ⟨0, [], [], by omega, rfl, by simp, by simp, rfl⟩ ?_
  rintro n st ⟨j, Q, z, hj, hQ, hq, hz, rfl⟩
  by_cases hjl : j < s.length
  · have ht := take_byte hjl
    by_cases hx : s.getD j 0 = c
    · have hxn : (s.getD j 0).toNat = c.toNat := congrArg UInt8.toNat hx
      have h1 : spl c (s.take (j + 1)) = (Q ++ [z]) ++ [[]] := by rw [ht, hx, spl_snoc_eq, hQ]
      (repeat' ((conv => whnf) <;> first | refine natK_of (j := j) (by omega) ?_ | exact rfl | with_reducible refine boolK_dec (fun _ => ?_) (fun _ => ?_) <;> try (exfalso; omega) | refine boolK_beq (fun _ => ?_) (fun _ => ?_) <;> try (exfalso; first | omega | with_reducible contradiction) | refine boolK_bne (fun _ => ?_) (fun _ => ?_) <;> try (exfalso; first | omega | with_reducible contradiction) | (with_reducible first | refine boolK_not ?_ | refine boolK_and ?_ | refine boolK_or ?_ | refine boolK_true ?_ | refine boolK_false ?_) | refine boolK_intro (fun _ => ?_) (fun _ => ?_) <;> try (exfalso; simp_all; done) | refine jA ?_ | refine jB ?_ | refine jH ?_ | refine jI ?_ | refine jJ ?_ | refine jK ?_ | with_reducible refine natK_lit ?_ | refine natK_of rfl ?_ | refine natK_any ?_ | refine jP ?_ | refine jQ ?_ | refine jR ?_ | refine jS ?_ | refine jT ?_ | refine jU (fun _ => ?_) | refine jV ?_ | refine jX ?_ | refine jY ?_ | refine jZ ?_ | refine ja ?_ | refine jb ?_ | refine jc ?_ | refine jd ?_ | refine je ?_ | refine jf ?_ | refine jg ?_ | refine jh ?_ | refine ji ?_ | refine jj ?_ | refine jk ?_ | refine jn ?_ | refine jo ?_ | refine jp ?_ | refine jq ?_ | refine jr ?_ | refine js ?_ | exact ⟨n - 1, by omega, j + 1, Q ++ [z], [], by omega, h1, by simp; omega, by simp, by rw [List.map_append, List.length_append]; rfl⟩ | refine jt ?_ | refine jx ?_ | refine jy ?_ | refine ju ?_ | refine jv ?_)) <;> (try (conv => whnf))
    · have hxn : ¬ (s.getD j 0).toNat = c.toNat := fun e => hx (UInt8.toNat.inj e)
      have h1 : spl c (s.take (j + 1)) = Q ++ [z ++ [s.getD j 0]] := by rw [ht]; exact spl_snoc_ne hx hQ
      have hdr : (s.take (j + 1)).drop j = [s.getD j 0] := by rw [ht]; exact List.drop_left' (by simp; omega)
      (repeat' ((conv => whnf) <;> first | refine natK_of (j := j) (by omega) ?_ | refine natK_of (j := Q.length) (by omega) ?_ | exact rfl | with_reducible refine boolK_dec (fun _ => ?_) (fun _ => ?_) <;> try (exfalso; omega) | refine boolK_beq (fun _ => ?_) (fun _ => ?_) <;> try (exfalso; first | omega | with_reducible contradiction) | refine boolK_bne (fun _ => ?_) (fun _ => ?_) <;> try (exfalso; first | omega | with_reducible contradiction) | (with_reducible first | refine boolK_not ?_ | refine boolK_and ?_ | refine boolK_or ?_ | refine boolK_true ?_ | refine boolK_false ?_) | refine boolK_intro (fun _ => ?_) (fun _ => ?_) <;> try (exfalso; simp_all; done) | refine jA ?_ | refine jB ?_ | refine jH ?_ | refine jI ?_ | refine jJ ?_ | refine jK ?_ | with_reducible refine natK_lit ?_ | refine natK_of rfl ?_ | refine natK_any ?_ | refine jP ?_ | refine jQ ?_ | refine jR ?_ | refine jS ?_ | refine jT ?_ | refine jU (fun _ => ?_) | refine jV ?_ | refine jX ?_ | refine jY ?_ | refine jZ ?_ | refine ja ?_ | refine jb ?_ | refine jc ?_ | refine jd ?_ | refine je ?_ | refine jf ?_ | refine jg ?_ | refine jh ?_ | refine ji ?_ | refine jj ?_ | refine jk ?_ | refine jn ?_ | refine jo ?_ | refine jp ?_ | refine jq ?_ | refine jr ?_ | refine js ?_ | refine headS_last (by omega) ?_ | exact ⟨n - 1, by omega, j + 1, Q, z ++ [s.getD j 0], by omega, h1, by omega, by rw [List.length_append]; exact Nat.succ_le_succ hz, by rw [Nat.mul_one, put_last', hdr]; rfl⟩ | refine jt ?_ | refine jx ?_ | refine jy ?_ | refine ju ?_ | refine jv ?_)) <;> (try (conv => whnf))
  · have : j = s.length := by omega
    subst this
    rw [List.take_length] at hQ
    rw [hQ]
    (repeat' ((conv => whnf) <;> first | exact rfl | with_reducible refine boolK_dec (fun _ => ?_) (fun _ => ?_) <;> try (exfalso; omega) | refine boolK_beq (fun _ => ?_) (fun _ => ?_) <;> try (exfalso; first | omega | with_reducible contradiction) | refine boolK_bne (fun _ => ?_) (fun _ => ?_) <;> try (exfalso; first | omega | with_reducible contradiction) | (with_reducible first | refine boolK_not ?_ | refine boolK_and ?_ | refine boolK_or ?_ | refine boolK_true ?_ | refine boolK_false ?_) | refine boolK_intro (fun _ => ?_) (fun _ => ?_) <;> try (exfalso; simp_all; done) | refine jA ?_ | refine jB ?_ | refine jH ?_ | refine jI ?_ | refine jJ ?_ | refine jK ?_ | with_reducible refine natK_lit ?_ | refine natK_of rfl ?_ | refine natK_any ?_ | refine jP ?_ | refine jQ ?_ | refine jR ?_ | refine jS ?_ | refine jT ?_ | refine jU (fun _ => ?_) | refine jV ?_ | refine jX ?_ | refine jY ?_ | refine jZ ?_ | refine ja ?_ | refine jb ?_ | refine jc ?_ | refine jd ?_ | refine je ?_ | refine jf ?_ | refine jg ?_ | refine jh ?_ | refine ji ?_ | refine jj ?_ | refine jk ?_ | refine jn ?_ | refine jo ?_ | refine jp ?_ | refine jq ?_ | refine jr ?_ | refine js ?_ | refine jt ?_ | refine jx ?_ | refine jy ?_ | refine ju ?_ | refine jv ?_)) <;> (try (conv => whnf))
theorem c_number (s : List UInt8) (hs : s.length ≤ 90000) : Fn Tryz.prog 48 [.o (.s s)] [] (.tup [.c (.o (.i .u64 (numI s).1)), .c (.o (.b (numI s).2))]) [] := by
  have e1 := fun h => numI_no (numR_no1 (s := s) h)
  have e2 := fun h => numI_no (numR_no2 (s := s) h)
  have e3 := fun h (h2 : (s.getD 0 0).toNat = 48) => numI_no (numR_no3 (s := s) h (UInt8.toNat.inj h2))
  have go := @numR_go s
  have e4 := fun (h : numR s = none) => numI_no h
  have e5 := fun A h0 h => @numI_ok s A h0 h
  generalize numI s = N at *
  refine Fn_intro (G := g48) (goodA rfl) (fn := Tryz.f48) rfl rfl rfl rfl rfl ?_
  by_cases hz : s.length = 0 ∨ 19 < s.length ∨ (1 < s.length ∧ s.getD 0 0 = 48)
  · (repeat' ((conv => whnf) <;> first | refine natK_of (j := 0) (by omega) ?_ | exact rfl | with_reducible refine boolK_dec (fun _ => ?_) (fun _ => ?_) <;> try (exfalso; omega) | refine boolK_beq (fun _ => ?_) (fun _ => ?_) <;> try (exfalso; first | omega | with_reducible contradiction) | refine boolK_bne (fun _ => ?_) (fun _ => ?_) <;> try (exfalso; first | omega | with_reducible contradiction) | (with_reducible first | refine boolK_not ?_ | refine boolK_and ?_ | refine boolK_or ?_ | refine boolK_true ?_ | refine boolK_false ?_) | refine boolK_intro (fun _ => ?_) (fun _ => ?_) <;> try (exfalso; simp_all; done) | refine jA ?_ | refine jB ?_ | refine jC ?_ | refine jD ?_ | refine jE ?_ | refine jF ?_ | refine jG ?_ | refine jH ?_ | refine jI ?_ | refine jJ ?_ | refine jK ?_ | with_reducible refine natK_lit ?_ | refine natK_of rfl ?_ | refine natK_any ?_ | refine jP ?_ | refine jQ ?_ | refine jR ?_ | refine jS ?_ | refine jT ?_ | refine jU (fun _ => ?_) | refine jV ?_ | refine jW ?_ | refine jy ?_ | refine ju ?_ | refine sideK_intro (by first | (rw [e1 (by omega)] <;> first | rfl | exact ⟨rfl, rfl⟩ | exact ⟨rfl, rfl, rfl⟩) | (rw [e2 (by omega)] <;> first | rfl | exact ⟨rfl, rfl⟩ | exact ⟨rfl, rfl, rfl⟩) | (rw [e3 (by omega) (by omega)] <;> first | rfl | exact ⟨rfl, rfl⟩ | exact ⟨rfl, rfl, rfl⟩)) ?_ | refine jv ?_)) <;> (try (conv => whnf))
    all_goals (exfalso; rcases hz with h | h | ⟨h, h2⟩ <;> first | omega | contradiction | (have h3 := congrArg UInt8.toNat h2; rw [show (48 : UInt8).toNat = 48 from rfl] at h3; omega))
  have hlen : ¬ s.length = 0 ∧ s.length ≤ 19 := by omega
  have h48 : s.length ≤ 1 ∨ ¬ s.getD 0 0 = 48 := by
    by_cases h : 1 < s.length
    · exact .inr fun h2 => hz (.inr (.inr ⟨h, h2⟩))
    · exact .inl (by omega)
  have go := go hlen.1 hlen.2 h48
  have h48n : s.length ≤ 1 ∨ ¬ (s.getD 0 0).toNat = 48 := h48.imp id (fun h h2 => h (UInt8.toNat.inj h2))
  (repeat' ((conv => whnf) <;> first | refine natK_of (j := 0) (by omega) ?_ | exact rfl | with_reducible refine boolK_dec (fun _ => ?_) (fun _ => ?_) <;> try (exfalso; omega) | refine boolK_beq (fun _ => ?_) (fun _ => ?_) <;> try (exfalso; first | omega | with_reducible contradiction) | refine boolK_bne (fun _ => ?_) (fun _ => ?_) <;> try (exfalso; first | omega | with_reducible contradiction) | (with_reducible first | refine boolK_not ?_ | refine boolK_and ?_ | refine boolK_or ?_ | refine boolK_true ?_ | refine boolK_false ?_) | refine boolK_intro (fun _ => ?_) (fun _ => ?_) <;> try (exfalso; simp_all; done) | refine jA ?_ | refine jB ?_ | refine jC ?_ | refine jD ?_ | refine jE ?_ | refine jF ?_ | refine jG ?_ | refine jH ?_ | refine jI ?_ | refine jJ ?_ | refine jK ?_ | with_reducible refine natK_lit ?_ | refine natK_of rfl ?_ | refine natK_any ?_ | refine jP ?_ | refine jQ ?_ | refine jR ?_ | refine jS ?_ | refine jT ?_ | refine jU (fun _ => ?_) | refine jV ?_ | refine jW ?_ | refine jy ?_ | refine ju ?_ | refine jv ?_)) <;> (try (conv => whnf))
  all_goals try (exfalso; first | omega | (rcases h48 with h | h <;> first | omega | contradiction); done)
  all_goals (
    refine loopK_inv (G := g48) (fun n st => ∃ (j : Nat) (A : Int), n + j = s.length ∧ 0 ≤ A ∧ A < 10 ^ j ∧ numF 0 (s.take j) = some A.toNat ∧ st = ⟨[(0, .c (.o (.s s))), (4, .c (.o (.i .u64 A))), (5, .c (.o (.i .i64 (j : Int))))], []⟩) (n := s.length) ⟨0, 0, by omega, by omega, by decide, rfl, rfl⟩ ?_
    rintro n st ⟨j, A, hj, hA, hA2, hF, rfl⟩
    by_cases hjl : j < s.length
    · have ht := take_byte hjl
      have hp : (10 : Int) ^ j ≤ 1000000000000000000 := pow_19 (by omega)
      have hx := byte_lt (s.getD j 0)
      by_cases hd : 48 ≤ (s.getD j 0).toNat ∧ (s.getD j 0).toNat ≤ 57
      · have h1 : numF 0 (s.take (j + 1)) = some (10 * A + (((s.getD j 0).toNat : Int) - 48)).toNat := by
          rw [ht, numF_snoc hF, if_pos hd]
          congr 1
          omega
        have h2 : 10 * A + (((s.getD j 0).toNat : Int) - 48) < 10 ^ (j + 1) := by rw [Int.pow_succ]; omega
        (repeat' ((conv => whnf) <;> first | refine natK_of (j := j) (by omega) ?_ | exact rfl | with_reducible refine boolK_dec (fun _ => ?_) (fun _ => ?_) <;> try (exfalso; omega) | refine boolK_beq (fun _ => ?_) (fun _ => ?_) <;> try (exfalso; first | omega | with_reducible contradiction) | refine boolK_bne (fun _ => ?_) (fun _ => ?_) <;> try (exfalso; first | omega | with_reducible contradiction) | (with_reducible first | refine boolK_not ?_ | refine boolK_and ?_ | refine boolK_or ?_ | refine boolK_true ?_ | refine boolK_false ?_) | refine boolK_intro (fun _ => ?_) (fun _ => ?_) <;> try (exfalso; simp_all; done) | refine jA ?_ | refine jB ?_ | refine jC ?_ | refine jD ?_ | refine jE ?_ | refine jF ?_ | refine jG ?_ | refine jH ?_ | refine jI ?_ | refine jJ ?_ | refine jK ?_ | with_reducible refine natK_lit ?_ | refine natK_of rfl ?_ | refine natK_any ?_ | refine jP ?_ | refine jQ ?_ | refine jR ?_ | refine jS ?_ | refine jT ?_ | refine jU (fun _ => ?_) | refine jV ?_ | refine jW ?_ | exact ⟨n - 1, by omega, j + 1, _, by omega, by omega, h2, h1, rfl⟩ | refine jy ?_ | refine ju ?_ | refine jv ?_)) <;> (try (conv => whnf))
      · have h1 : numR s = none := by
          rw [go]
          have e : s = s.take j ++ s.getD j 0 :: s.drop (j + 1) := by
            rw [show s.getD j 0 = s[j] from by rw [List.getD_eq_getElem?_getD, List.getElem?_eq_getElem hjl]; rfl, List.getElem_cons_drop, List.take_append_drop]
          rw [e]
          exact numF_bad hd
        have e4 := e4 h1
        (repeat' ((conv => whnf) <;> first | refine natK_of (j := j) (by omega) ?_ | exact rfl | with_reducible refine boolK_dec (fun _ => ?_) (fun _ => ?_) <;> try (exfalso; omega) | refine boolK_beq (fun _ => ?_) (fun _ => ?_) <;> try (exfalso; first | omega | with_reducible contradiction) | refine boolK_bne (fun _ => ?_) (fun _ => ?_) <;> try (exfalso; first | omega | with_reducible contradiction) | (with_reducible first | refine boolK_not ?_ | refine boolK_and ?_ | refine boolK_or ?_ | refine boolK_true ?_ | refine boolK_false ?_) | refine boolK_intro (fun _ => ?_) (fun _ => ?_) <;> try (exfalso; simp_all; done) | refine jA ?_ | refine jB ?_ | refine jC ?_ | refine jD ?_ | refine jE ?_ | refine jF ?_ | refine jG ?_ | refine jH ?_ | refine jI ?_ | refine jJ ?_ | refine jK ?_ | with_reducible refine natK_lit ?_ | refine natK_of rfl ?_ | refine natK_any ?_ | refine jP ?_ | refine jQ ?_ | refine jR ?_ | refine jS ?_ | refine jT ?_ | refine jU (fun _ => ?_) | refine jV ?_ | refine jW ?_ | refine jy ?_ | refine ju ?_ | refine sideK_intro (by first | (rw [e4] <;> first | rfl | exact ⟨rfl, rfl⟩ | exact ⟨rfl, rfl, rfl⟩)) ?_ | refine jv ?_)) <;> (try (conv => whnf))
        all_goals (exfalso; omega)
    · have : j = s.length := by omega
      subst this
      rw [List.take_length] at hF
      have e5 := e5 A hA (go.trans hF)
      (repeat' ((conv => whnf) <;> first | exact rfl | with_reducible refine boolK_dec (fun _ => ?_) (fun _ => ?_) <;> try (exfalso; omega) | refine boolK_beq (fun _ => ?_) (fun _ => ?_) <;> try (exfalso; first | omega | with_reducible contradiction) | refine boolK_bne (fun _ => ?_) (fun _ => ?_) <;> try (exfalso; first | omega | with_reducible contradiction) | (with_reducible first | refine boolK_not ?_ | refine boolK_and ?_ | refine boolK_or ?_ | refine boolK_true ?_ | refine boolK_false ?_) | refine boolK_intro (fun _ => ?_) (fun _ => ?_) <;> try (exfalso; simp_all; done) | refine jA ?_ | refine jB ?_ | refine jC ?_ | refine jD ?_ | refine jE ?_ | refine jF ?_ | refine jG ?_ | refine jH ?_ | refine jI ?_ | refine jJ ?_ | refine jK ?_ | with_reducible refine natK_lit ?_ | refine natK_of rfl ?_ | refine natK_any ?_ | refine jP ?_ | refine jQ ?_ | refine jR ?_ | refine jS ?_ | refine jT ?_ | refine jU (fun _ => ?_) | refine jV ?_ | refine jW ?_ | refine jy ?_ | refine ju ?_ | refine sideK_intro (by first | (rw [e5] <;> first | rfl | exact ⟨rfl, rfl⟩ | exact ⟨rfl, rfl, rfl⟩)) ?_ | refine jv ?_)) <;> (try (conv => whnf)))
end Go.Sx

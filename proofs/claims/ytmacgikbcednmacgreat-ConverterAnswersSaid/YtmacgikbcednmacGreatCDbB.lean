/-
  Contracts of package database and of its reference: checks, finds, what is added and changed.
-/
import Derived.Test.YtmacgikbcednmacGreatPX1
import Derived.Test.YtmacgikbcednmacGreatCDb
set_option linter.all false
namespace Go.Sx
open Go.Proofs Go.RowKit
theorem headS_deJ {l : List DE} {j z : Nat} (hz : z = j * 9) {K : List UInt8 → List L → Prop} (h : j < l.length) (hk : K (l.getD j de0).x (.s (l.getD j de0).y :: .i .u64 (l.getD j de0).k :: .i .i64 (l.getD j de0).kv :: .i .i64 (l.getD j de0).ex :: .i .i64 (l.getD j de0).ml :: .i .i64 (l.getD j de0).atr :: .i .i64 (l.getD j de0).fl :: .i .i64 (l.getD j de0).un :: flat deR (l.drop (j + 1)))) : headS ((flat deR l).drop z) K := by
  subst hz
  exact ⟨_, _, by rw [flat_at deR_len de0 h]; rfl, hk⟩
theorem headS_deY {l : List DE} {j z : Nat} (hz : z = j * 9 + 1) {K : List UInt8 → List L → Prop} (h : j < l.length) (hk : K (l.getD j de0).y (.i .u64 (l.getD j de0).k :: .i .i64 (l.getD j de0).kv :: .i .i64 (l.getD j de0).ex :: .i .i64 (l.getD j de0).ml :: .i .i64 (l.getD j de0).atr :: .i .i64 (l.getD j de0).fl :: .i .i64 (l.getD j de0).un :: flat deR (l.drop (j + 1)))) : headS ((flat deR l).drop z) K := by
  subst hz
  exact ⟨_, _, by rw [← List.drop_drop, flat_at deR_len de0 h]; rfl, hk⟩
noncomputable def g138 : Par := par 36 (nthLL [[1, 2, 3], [1, 2, 3, 8, 9], [1, 2, 8, 9, 13, 14, 15], [1, 2, 8, 9, 13, 14, 15, 16], [1, 2, 8, 9, 10, 11, 13, 14, 15], [1, 2, 8, 9, 10, 13, 14, 15, 29], [1, 2, 10, 13, 14, 15, 30], [6, 7], [1, 2, 8, 9, 13, 14, 15], [1, 2, 8, 9, 13, 14, 15], [8, 34], [6, 7], [6, 7]]) [6, 7, 8, 10, 15] (nthLL [])
noncomputable def g125 : Par := par 44 (nthLL [[1, 2, 3], [1, 2, 3, 8, 9], [1, 2, 3, 8, 9, 10], [1, 2, 3, 8, 9, 10, 15], [1, 2, 3, 8, 9, 10], [1, 2, 3, 8, 9, 10, 35], [1, 2, 3, 8, 9, 10], [1, 2, 3, 8, 9, 10], [8, 9, 40], [6, 7], [8, 42], [6, 7], [6, 7]]) [6, 7, 8, 10] (nthLL [])
noncomputable def g107 : Par := par 58 (nthLL [[1, 2, 3, 4, 5, 6, 7], [3, 4, 5, 6, 7, 16, 17], [3, 4, 5, 6, 7, 16, 17, 27], [14, 15], [3, 4, 5, 6, 16, 18], [3, 4, 5, 6, 16, 18, 34], [14, 15], [4, 5, 6, 16, 18, 39], [14, 15], [6, 16, 50], [14, 15], [14, 15]]) [5, 6, 14, 15, 16, 17] (nthLL [])
noncomputable def g62 : Par := par 17 (nthLL [[1, 2, 3, 4], [8, 9]]) [8, 9] (nthLL [])
noncomputable def g75 : Par := par 55 (nthLL [[1, 2, 3, 4, 5, 6, 7], [3, 4, 5, 6, 7, 16, 17], [3, 4, 5, 6, 7, 16, 17, 27], [14, 15], [3, 4, 5, 6, 16, 18], [3, 4, 5, 6, 16, 18, 37], [14, 15], [4, 5, 6, 16, 18, 46], [14, 15], [6, 16, 52], [14, 15], [14, 15]]) [5, 6, 14, 15, 16, 17] (nthLL [])
noncomputable def g33 : Par := par 17 (nthLL [[1, 2, 3, 4], [8, 9]]) [8, 9] (nthLL [])
set_option maxRecDepth 10000
set_option maxHeartbeats 4000000
theorem c_dbFind (r : List UInt8) (l : List DE) {m : Nat} (hm : m = l.length) (hl : l.length ≤ 1000000) (x y : List UInt8) : Fn Tryz.prog 138 [.a [.s r, .sl (flat deR l) m], .o (.s x), .o (.s y)] [] (.tup [.c (.o (.i .i64 (dbF x y l).1)), .c (.o (.i .i64 (dbF x y l).2))]) [] := by
  subst hm
  have e0 := @dbF_no x y l
  have e1 := @dbF_one x y l
  have e2 := fun j => @dbF_two x y l j
  generalize dbF x y l = R at *
  refine Fn_intro (G := g138) (goodA rfl) (fn := Tryz.f138) rfl rfl rfl rfl rfl ?_
  (repeat' ((conv => whnf) <;> first | exact rfl | with_reducible refine boolK_dec (fun _ => ?_) (fun _ => ?_) <;> try (exfalso; omega) | refine boolK_beq (fun _ => ?_) (fun _ => ?_) <;> try (exfalso; first | omega | with_reducible contradiction) | refine boolK_bne (fun _ => ?_) (fun _ => ?_) <;> try (exfalso; first | omega | with_reducible contradiction) | (with_reducible first | refine boolK_not ?_ | refine boolK_and ?_ | refine boolK_or ?_ | refine boolK_true ?_ | refine boolK_false ?_) | refine boolK_intro (fun _ => ?_) (fun _ => ?_) <;> try (exfalso; simp_all; done) | refine jA ?_ | refine jB ?_ | refine jH ?_ | refine jI ?_ | refine jJ ?_ | refine jK ?_ | with_reducible refine natK_lit ?_ | refine natK_of rfl ?_ | refine natK_any ?_ | refine jP ?_ | refine jQ ?_ | refine jR ?_ | refine jS ?_ | refine jT ?_ | refine jU (fun _ => ?_) | refine jV ?_ | refine jy ?_ | refine ju ?_ | refine jv ?_)) <;> (try (conv => whnf))
  refine loopK_inv (G := g138) (fun k st => ∃ (j : Nat) (A : Int × Nat), k + j = l.length ∧ dbK x y l j = A ∧
    ((A = (0, 0) ∧ st = ⟨[(1, .c (.o (.s x))), (2, .c (.o (.s y))), (8, .c (.o (.i .i64 0))), (9, .c (.o (.ff))), (13, .c (.o (.sl (flat deR l) l.length))), (14, .c (.o (.i .i64 (l.length : Int)))), (15, .c (.o (.i .i64 (j : Int))))], []⟩) ∨
    (A.2 = 1 ∧ st = ⟨[(1, .c (.o (.s x))), (2, .c (.o (.s y))), (8, .c (.o (.i .i64 A.1))), (9, .c (.o (.tt))), (13, .c (.o (.sl (flat deR l) l.length))), (14, .c (.o (.i .i64 (l.length : Int)))), (15, .c (.o (.i .i64 (j : Int))))], []⟩))) (n := l.length) ⟨0, (0, 0), by omega, rfl, .inl ⟨rfl, rfl⟩⟩ ?_
  rintro k st ⟨j, A, hj, hA, hst⟩
  by_cases hjl : j < l.length
  · have y1 := fun h => (dbK_yes (x := x) (y := y) (l := l) (n := j) h)
    have n1 := fun h => (dbK_no (x := x) (y := y) (l := l) (n := j) h).trans hA
    rw [hA] at y1
    rcases hst with ⟨rfl, rfl⟩ | ⟨h1, rfl⟩
    · (repeat' ((conv => whnf) <;> first | exact rfl | with_reducible refine boolK_dec (fun _ => ?_) (fun _ => ?_) <;> try (exfalso; omega) | refine boolK_beq (fun _ => ?_) (fun _ => ?_) <;> try (exfalso; first | omega | with_reducible contradiction) | refine boolK_bne (fun _ => ?_) (fun _ => ?_) <;> try (exfalso; first | omega | with_reducible contradiction) | (with_reducible first | refine boolK_not ?_ | refine boolK_and ?_ | refine boolK_or ?_ | refine boolK_true ?_ | refine boolK_false ?_) | refine boolK_intro (fun _ => ?_) (fun _ => ?_) <;> try (exfalso; simp_all; done) | refine jA ?_ | refine jB ?_ | refine jH ?_ | refine jI ?_ | refine jJ ?_ | refine jK ?_ | with_reducible refine natK_lit ?_ | refine natK_of rfl ?_ | refine natK_any ?_ | refine jP ?_ | refine jQ ?_ | refine jR ?_ | refine jS ?_ | refine jT ?_ | refine jU (fun _ => ?_) | refine jV ?_ | refine headS_de hjl ?_ | exact ⟨k - 1, by omega, j + 1, _, by omega, n1 (deIs_no (by rintro ⟨_, _⟩; contradiction)), .inl ⟨rfl, rfl⟩⟩ | exact ⟨k - 1, by omega, j + 1, _, by omega, y1 (deIs_yes (by assumption) (by assumption)), .inr ⟨rfl, rfl⟩⟩ | refine jy ?_ | refine ju ?_ | refine jv ?_)) <;> (try (conv => whnf))
    · have t2 := fun h => e2 j hjl (by rw [hA]; exact h1) h
      (repeat' ((conv => whnf) <;> first | exact rfl | with_reducible refine boolK_dec (fun _ => ?_) (fun _ => ?_) <;> try (exfalso; omega) | refine boolK_beq (fun _ => ?_) (fun _ => ?_) <;> try (exfalso; first | omega | with_reducible contradiction) | refine boolK_bne (fun _ => ?_) (fun _ => ?_) <;> try (exfalso; first | omega | with_reducible contradiction) | (with_reducible first | refine boolK_not ?_ | refine boolK_and ?_ | refine boolK_or ?_ | refine boolK_true ?_ | refine boolK_false ?_) | refine boolK_intro (fun _ => ?_) (fun _ => ?_) <;> try (exfalso; simp_all; done) | refine jA ?_ | refine jB ?_ | refine jH ?_ | refine jI ?_ | refine jJ ?_ | refine jK ?_ | with_reducible refine natK_lit ?_ | refine natK_of rfl ?_ | refine natK_any ?_ | refine jP ?_ | refine jQ ?_ | refine jR ?_ | refine jS ?_ | refine jT ?_ | refine jU (fun _ => ?_) | refine jV ?_ | refine headS_de hjl ?_ | exact ⟨k - 1, by omega, j + 1, _, by omega, n1 (deIs_no (by rintro ⟨_, _⟩; contradiction)), .inr ⟨h1, rfl⟩⟩ | refine jy ?_ | refine ju ?_ | refine sideK_intro (by first | (rw [t2 (deIs_yes (by assumption) (by assumption))] <;> first | rfl | exact ⟨rfl, rfl⟩ | exact ⟨rfl, rfl, rfl⟩)) ?_ | refine jv ?_)) <;> (try (conv => whnf))
  · have hjl : j = l.length := by omega
    subst hjl
    rcases hst with ⟨rfl, rfl⟩ | ⟨h1, rfl⟩
    · have e0 := e0 (by rw [hA])
      (repeat' ((conv => whnf) <;> first | exact rfl | with_reducible refine boolK_dec (fun _ => ?_) (fun _ => ?_) <;> try (exfalso; omega) | refine boolK_beq (fun _ => ?_) (fun _ => ?_) <;> try (exfalso; first | omega | with_reducible contradiction) | refine boolK_bne (fun _ => ?_) (fun _ => ?_) <;> try (exfalso; first | omega | with_reducible contradiction) | (with_reducible first | refine boolK_not ?_ | refine boolK_and ?_ | refine boolK_or ?_ | refine boolK_true ?_ | refine boolK_false ?_) | refine boolK_intro (fun _ => ?_) (fun _ => ?_) <;> try (exfalso; simp_all; done) | refine jA ?_ | refine jB ?_ | refine jH ?_ | refine jI ?_ | refine jJ ?_ | refine jK ?_ | with_reducible refine natK_lit ?_ | refine natK_of rfl ?_ | refine natK_any ?_ | refine jP ?_ | refine jQ ?_ | refine jR ?_ | refine jS ?_ | refine jT ?_ | refine jU (fun _ => ?_) | refine jV ?_ | refine jy ?_ | refine ju ?_ | refine sideK_intro (by first | (rw [e0] <;> first | rfl | exact ⟨rfl, rfl⟩ | exact ⟨rfl, rfl, rfl⟩)) ?_ | refine jv ?_)) <;> (try (conv => whnf))
    · have e1 := e1 (by rw [hA]; exact h1)
      rw [hA] at e1
      (repeat' ((conv => whnf) <;> first | exact rfl | with_reducible refine boolK_dec (fun _ => ?_) (fun _ => ?_) <;> try (exfalso; omega) | refine boolK_beq (fun _ => ?_) (fun _ => ?_) <;> try (exfalso; first | omega | with_reducible contradiction) | refine boolK_bne (fun _ => ?_) (fun _ => ?_) <;> try (exfalso; first | omega | with_reducible contradiction) | (with_reducible first | refine boolK_not ?_ | refine boolK_and ?_ | refine boolK_or ?_ | refine boolK_true ?_ | refine boolK_false ?_) | refine boolK_intro (fun _ => ?_) (fun _ => ?_) <;> try (exfalso; simp_all; done) | refine jA ?_ | refine jB ?_ | refine jH ?_ | refine jI ?_ | refine jJ ?_ | refine jK ?_ | with_reducible refine natK_lit ?_ | refine natK_of rfl ?_ | refine natK_any ?_ | refine jP ?_ | refine jQ ?_ | refine jR ?_ | refine jS ?_ | refine jT ?_ | refine jU (fun _ => ?_) | refine jV ?_ | refine jy ?_ | refine ju ?_ | refine sideK_intro (by first | (rw [e1] <;> first | rfl | exact ⟨rfl, rfl⟩ | exact ⟨rfl, rfl, rfl⟩)) ?_ | refine jv ?_)) <;> (try (conv => whnf))
theorem c_rdbFind (r : List UInt8) (l : List DE) {m : Nat} (hm : m = l.length) (hl : l.length ≤ 1000000) (x y : List UInt8) : Fn Tryz.prog 125 [.a [.s r, .sl (flat deR l) m], .o (.s x), .o (.s y)] [] (.tup [.c (.o (.i .i64 (dbF x y l).1)), .c (.o (.i .i64 (dbF x y l).2))]) [] := by
  subst hm
  have e0 := @dbF_no x y l
  have e1 := @dbF_one x y l
  have e2 := @dbF_many x y l
  generalize dbF x y l = R at *
  refine Fn_intro (G := g125) (goodA rfl) (fn := Tryz.f125) rfl rfl rfl rfl rfl ?_
  (repeat' ((conv => whnf) <;> first | exact rfl | with_reducible refine boolK_dec (fun _ => ?_) (fun _ => ?_) <;> try (exfalso; omega) | refine boolK_beq (fun _ => ?_) (fun _ => ?_) <;> try (exfalso; first | omega | with_reducible contradiction) | refine boolK_bne (fun _ => ?_) (fun _ => ?_) <;> try (exfalso; first | omega | with_reducible contradiction) | (with_reducible first | refine boolK_not ?_ | refine boolK_and ?_ | refine boolK_or ?_ | refine boolK_true ?_ | refine boolK_false ?_) | refine boolK_intro (fun _ => ?_) (fun _ => ?_) <;> try (exfalso; simp_all; done) | refine jA ?_ | refine jB ?_ | refine jH ?_ | refine jI ?_ | refine jJ ?_ | refine jK ?_ | with_reducible refine natK_lit ?_ | refine natK_of rfl ?_ | refine natK_any ?_ | refine jP ?_ | refine jQ ?_ | refine jR ?_ | refine jS ?_ | refine jT ?_ | refine jU (fun _ => ?_) | refine jV ?_ | refine jy ?_ | refine ju ?_ | refine jv ?_)) <;> (try (conv => whnf))
  refine loopK_inv (G := g125) (fun k st => ∃ (j : Nat) (A : Int × Nat), k + j = l.length ∧ dbK x y l j = A ∧ A.2 ≤ j ∧
    st = ⟨[(1, .c (.o (.s x))), (2, .c (.o (.s y))), (3, .c (.o (.p 3 0))), (8, .c (.o (.i .i64 A.1))), (9, .c (.o (.i .i64 (A.2 : Int)))), (10, .c (.o (.i .i64 (j : Int))))], [(3, .st [.s r, .sl (flat deR l) l.length])]⟩) (n := l.length) ⟨0, (0, 0), by omega, rfl, Nat.le_refl _, rfl⟩ ?_
  rintro k st ⟨j, A, hj, hA, hAj, rfl⟩
  by_cases hjl : j < l.length
  · have y1 := fun h => (dbK_yes (x := x) (y := y) (l := l) (n := j) h)
    have n1 := fun h => (dbK_no (x := x) (y := y) (l := l) (n := j) h).trans hA
    rw [hA] at y1
    (repeat' ((conv => whnf) <;> first | exact rfl | with_reducible refine boolK_dec (fun _ => ?_) (fun _ => ?_) <;> try (exfalso; omega) | refine boolK_beq (fun _ => ?_) (fun _ => ?_) <;> try (exfalso; first | omega | with_reducible contradiction) | refine boolK_bne (fun _ => ?_) (fun _ => ?_) <;> try (exfalso; first | omega | with_reducible contradiction) | (with_reducible first | refine boolK_not ?_ | refine boolK_and ?_ | refine boolK_or ?_ | refine boolK_true ?_ | refine boolK_false ?_) | refine boolK_intro (fun _ => ?_) (fun _ => ?_) <;> try (exfalso; simp_all; done) | refine jA ?_ | refine jB ?_ | refine jH ?_ | refine jI ?_ | refine jJ ?_ | refine jK ?_ | with_reducible refine natK_lit ?_ | refine natK_of rfl ?_ | refine natK_any ?_ | refine jP ?_ | refine jQ ?_ | refine jR ?_ | refine jS ?_ | refine jT ?_ | refine jU (fun _ => ?_) | refine jV ?_ | refine headS_de0 hjl ?_ | refine headS_deJ (j := j) (by omega) hjl ?_ | refine headS_de1 hjl ?_ | exact ⟨k - 1, by omega, j + 1, _, by omega, n1 (deIs_no (by rintro ⟨_, _⟩; contradiction)), by omega, rfl⟩ | exact ⟨k - 1, by omega, j + 1, _, by omega, y1 (deIs_yes (by assumption) (by assumption)), by dsimp only; omega, rfl⟩ | refine jy ?_ | refine ju ?_ | refine jv ?_)) <;> (try (conv => whnf))
  · have hjl : j = l.length := by omega
    subst hjl
    rw [hA] at e0 e1 e2
    (repeat' ((conv => whnf) <;> first | exact rfl | with_reducible refine boolK_dec (fun _ => ?_) (fun _ => ?_) <;> try (exfalso; omega) | refine boolK_beq (fun _ => ?_) (fun _ => ?_) <;> try (exfalso; first | omega | with_reducible contradiction) | refine boolK_bne (fun _ => ?_) (fun _ => ?_) <;> try (exfalso; first | omega | with_reducible contradiction) | (with_reducible first | refine boolK_not ?_ | refine boolK_and ?_ | refine boolK_or ?_ | refine boolK_true ?_ | refine boolK_false ?_) | refine boolK_intro (fun _ => ?_) (fun _ => ?_) <;> try (exfalso; simp_all; done) | refine jA ?_ | refine jB ?_ | refine jH ?_ | refine jI ?_ | refine jJ ?_ | refine jK ?_ | with_reducible refine natK_lit ?_ | refine natK_of rfl ?_ | refine natK_any ?_ | refine jP ?_ | refine jQ ?_ | refine jR ?_ | refine jS ?_ | refine jT ?_ | refine jU (fun _ => ?_) | refine jV ?_ | refine jy ?_ | refine ju ?_ | refine sideK_intro (by first | (rw [e0 (by omega)] <;> first | rfl | exact ⟨rfl, rfl⟩ | exact ⟨rfl, rfl, rfl⟩) | (rw [e1 (by omega)] <;> first | rfl | exact ⟨rfl, rfl⟩ | exact ⟨rfl, rfl, rfl⟩) | (rw [e2 (by omega)] <;> first | rfl | exact ⟨rfl, rfl⟩ | exact ⟨rfl, rfl, rfl⟩)) ?_ | refine jv ?_)) <;> (try (conv => whnf))
theorem c_dbUseB (r : List UInt8) (l : List DE) {m : Nat} (hm : m = l.length) (hl : l.length ≤ 1000000) (x y : List UInt8) (hs : ∀ s ∈ l, deSm 9223372036854775807 s) (now bit z1 z2 : Int) : Fn Tryz.prog 107 [.a [.s r, .sl (flat deR l) m], .o (.s x), .o (.s y), .o (.i .i64 now), .o (.i .i64 bit), .o (.i .i64 z1), .o (.i .i64 z2)] [] (.tup [.c (.o (.i .i64 (dbU x y l now (bitOn bit) z1 z2).1)), .c (.o (.i .i64 (dbU x y l now (bitOn bit) z1 z2).2))]) [] := by
  subst hm
  have cF := c_dbFind r l rfl hl x y
  have u1 := @dbU_1 x y l now bit z1 z2
  have u2 := @dbU_2 x y l now bit z1 z2
  have u3 := @dbU_3 x y l now bit z1 z2
  have u4 := @dbU_4 x y l now bit z1 z2
  have u5 := @dbU_5 x y l now bit z1 z2
  have hF := @dbF_lt x y l
  generalize dbU x y l now (bitOn bit) z1 z2 = R at *
  generalize dbF x y l = F at *
  refine Fn_intro (G := g107) (goodA rfl) (fn := Tryz.f107) rfl rfl rfl rfl rfl ?_
  by_cases hz : F.2 = 0
  · obtain ⟨f1, f2⟩ := hF hz
    have hj : F.1.toNat < l.length := by omega
    have cK := c_keyValid (l.getD F.1.toNat de0).k (hs _ (getD_mem (d := de0) hj)).2.2
    have u2 := u2 hz
    have u3 := u3 hz
    have u4 := u4 hz
    have u5 := u5 hz
    clear u1
    generalize keyOk (l.getD F.1.toNat de0).k = O at *
    (repeat' ((conv => whnf) <;> first | refine natK_of (j := F.1.toNat) (by omega) ?_ | exact rfl | with_reducible refine boolK_dec (fun _ => ?_) (fun _ => ?_) <;> try (exfalso; omega) | refine boolK_beq (fun _ => ?_) (fun _ => ?_) <;> try (exfalso; first | omega | with_reducible contradiction) | refine boolK_bne (fun _ => ?_) (fun _ => ?_) <;> try (exfalso; first | omega | with_reducible contradiction) | (with_reducible first | refine boolK_not ?_ | refine boolK_and ?_ | refine boolK_or ?_ | refine boolK_true ?_ | refine boolK_false ?_) | refine boolK_intro (fun _ => ?_) (fun _ => ?_) <;> try (exfalso; simp_all; done) | with_reducible refine natK_lit ?_ | refine natK_of rfl ?_ | refine natK_any ?_ | refine jP ?_ | refine jQ ?_ | refine jR ?_ | refine jS ?_ | refine jT ?_ | refine jU (fun _ => ?_) | refine jV ?_ | refine jm ?_ | refine callK_intro (cF) ?_ | refine callK_intro (cK) ?_ | refine headS_de hj ?_ | refine bitK.mk ?_ | refine jy ?_ | refine ju ?_ | refine sideK_intro (by first | (rw [u2 (by assumption)] <;> first | rfl | exact ⟨rfl, rfl⟩ | exact ⟨rfl, rfl, rfl⟩) | (rw [u3 (by assumption) (by omega)] <;> first | rfl | exact ⟨rfl, rfl⟩ | exact ⟨rfl, rfl, rfl⟩) | (rw [u4 (by assumption) (by omega) (by assumption)] <;> first | rfl | exact ⟨rfl, rfl⟩ | exact ⟨rfl, rfl, rfl⟩) | (rw [u5 (by assumption) (by omega) (by assumption)] <;> first | rfl | exact ⟨rfl, rfl⟩ | exact ⟨rfl, rfl, rfl⟩)) ?_ | refine jv ?_)) <;> (try (conv => whnf))
  · (repeat' ((conv => whnf) <;> first | exact rfl | with_reducible refine boolK_dec (fun _ => ?_) (fun _ => ?_) <;> try (exfalso; omega) | refine boolK_beq (fun _ => ?_) (fun _ => ?_) <;> try (exfalso; first | omega | with_reducible contradiction) | refine boolK_bne (fun _ => ?_) (fun _ => ?_) <;> try (exfalso; first | omega | with_reducible contradiction) | (with_reducible first | refine boolK_not ?_ | refine boolK_and ?_ | refine boolK_or ?_ | refine boolK_true ?_ | refine boolK_false ?_) | refine boolK_intro (fun _ => ?_) (fun _ => ?_) <;> try (exfalso; simp_all; done) | with_reducible refine natK_lit ?_ | refine natK_of rfl ?_ | refine natK_any ?_ | refine jP ?_ | refine jQ ?_ | refine jR ?_ | refine jS ?_ | refine jT ?_ | refine jU (fun _ => ?_) | refine jV ?_ | refine jm ?_ | refine callK_intro (cF) ?_ | refine jy ?_ | refine ju ?_ | refine sideK_intro (by first | (rw [u1 (by assumption)] <;> first | rfl | exact ⟨rfl, rfl⟩ | exact ⟨rfl, rfl, rfl⟩)) ?_ | refine jv ?_)) <;> (try (conv => whnf))
theorem c_dbServiceB (r : List UInt8) (l : List DE) {m : Nat} (hm : m = l.length) (hl : l.length ≤ 1000000) (x y : List UInt8) (hs : ∀ s ∈ l, deSm 9223372036854775807 s) (now : Int) : Fn Tryz.prog 62 [.a [.s r, .sl (flat deR l) m], .o (.s x), .o (.s y), .o (.i .i64 now)] [] (.tup [.c (.o (.i .i64 (dbU x y l now (bitOn 2) 2 6).1)), .c (.o (.i .i64 (dbU x y l now (bitOn 2) 2 6).2))]) [] := by
  have c := c_dbUseB r l hm hl x y hs now 2 2 6
  generalize dbU x y l now (bitOn 2) 2 6 = R at *
  refine Fn_intro (G := g62) (goodA rfl) (fn := Tryz.f62) rfl rfl rfl rfl rfl ?_
  (repeat' ((conv => whnf) <;> first | exact rfl | with_reducible refine boolK_dec (fun _ => ?_) (fun _ => ?_) <;> try (exfalso; omega) | refine boolK_beq (fun _ => ?_) (fun _ => ?_) <;> try (exfalso; first | omega | with_reducible contradiction) | refine boolK_bne (fun _ => ?_) (fun _ => ?_) <;> try (exfalso; first | omega | with_reducible contradiction) | (with_reducible first | refine boolK_not ?_ | refine boolK_and ?_ | refine boolK_or ?_ | refine boolK_true ?_ | refine boolK_false ?_) | refine boolK_intro (fun _ => ?_) (fun _ => ?_) <;> try (exfalso; simp_all; done) | with_reducible refine natK_lit ?_ | refine natK_of rfl ?_ | refine natK_any ?_ | refine callK_intro (c) ?_ | refine jy ?_ | refine ju ?_ | refine jv ?_)) <;> (try (conv => whnf))
theorem c_dbService (r : List UInt8) (l : List DE) {m : Nat} (hm : m = l.length) (hl : l.length ≤ 1000000) (x y : List UInt8) (hs : ∀ s ∈ l, deSm 90000 s) (now : Int) : Fn Tryz.prog 62 [.a [.s r, .sl (flat deR l) m], .o (.s x), .o (.s y), .o (.i .i64 now)] [] (.tup [.c (.o (.i .i64 (dbU x y l now (bitOn 2) 2 6).1)), .c (.o (.i .i64 (dbU x y l now (bitOn 2) 2 6).2))]) [] :=
  c_dbServiceB r l hm hl x y (fun s h => de_grow (by decide) (hs s h)) now
theorem c_rdbUseB (r : List UInt8) (l : List DE) {m : Nat} (hm : m = l.length) (hl : l.length ≤ 1000000) (x y : List UInt8) (hs : ∀ s ∈ l, deSm 9223372036854775807 s) (now bit z1 z2 : Int) : Fn Tryz.prog 75 [.a [.s r, .sl (flat deR l) m], .o (.s x), .o (.s y), .o (.i .i64 now), .o (.i .i64 bit), .o (.i .i64 z1), .o (.i .i64 z2)] [] (.tup [.c (.o (.i .i64 (dbU x y l now (bitOn bit) z1 z2).1)), .c (.o (.i .i64 (dbU x y l now (bitOn bit) z1 z2).2))]) [] := by
  subst hm
  have cF := c_rdbFind r l rfl hl x y
  have u1 := @dbU_1 x y l now bit z1 z2
  have u2 := @dbU_2 x y l now bit z1 z2
  have u3 := @dbU_3 x y l now bit z1 z2
  have u4 := @dbU_4 x y l now bit z1 z2
  have u5 := @dbU_5 x y l now bit z1 z2
  have hF := @dbF_lt x y l
  generalize dbU x y l now (bitOn bit) z1 z2 = R at *
  generalize dbF x y l = F at *
  refine Fn_intro (G := g75) (goodA rfl) (fn := Tryz.f75) rfl rfl rfl rfl rfl ?_
  by_cases hz : F.2 = 0
  · obtain ⟨f1, f2⟩ := hF hz
    have hj : F.1.toNat < l.length := by omega
    have cK := c_rkeyValid (l.getD F.1.toNat de0).k (hs _ (getD_mem (d := de0) hj)).2.2
    have u2 := u2 hz
    have u3 := u3 hz
    have u4 := u4 hz
    have u5 := u5 hz
    clear u1
    generalize keyOk (l.getD F.1.toNat de0).k = O at *
    (repeat' ((conv => whnf) <;> first | refine natK_of (j := F.1.toNat) (by omega) ?_ | exact rfl | with_reducible refine boolK_dec (fun _ => ?_) (fun _ => ?_) <;> try (exfalso; omega) | refine boolK_beq (fun _ => ?_) (fun _ => ?_) <;> try (exfalso; first | omega | with_reducible contradiction) | refine boolK_bne (fun _ => ?_) (fun _ => ?_) <;> try (exfalso; first | omega | with_reducible contradiction) | (with_reducible first | refine boolK_not ?_ | refine boolK_and ?_ | refine boolK_or ?_ | refine boolK_true ?_ | refine boolK_false ?_) | refine boolK_intro (fun _ => ?_) (fun _ => ?_) <;> try (exfalso; simp_all; done) | with_reducible refine natK_lit ?_ | refine natK_of rfl ?_ | refine natK_any ?_ | refine jP ?_ | refine jQ ?_ | refine jR ?_ | refine jS ?_ | refine jT ?_ | refine jU (fun _ => ?_) | refine jV ?_ | refine jm ?_ | refine callK_intro (cF) ?_ | refine callK_intro (cK) ?_ | refine headS_de hj ?_ | refine bitK.mk ?_ | refine jy ?_ | refine ju ?_ | refine sideK_intro (by first | (rw [u2 (by assumption)] <;> first | rfl | exact ⟨rfl, rfl⟩ | exact ⟨rfl, rfl, rfl⟩) | (rw [u3 (by assumption) (by omega)] <;> first | rfl | exact ⟨rfl, rfl⟩ | exact ⟨rfl, rfl, rfl⟩) | (rw [u4 (by assumption) (by omega) (by assumption)] <;> first | rfl | exact ⟨rfl, rfl⟩ | exact ⟨rfl, rfl, rfl⟩) | (rw [u5 (by assumption) (by omega) (by assumption)] <;> first | rfl | exact ⟨rfl, rfl⟩ | exact ⟨rfl, rfl, rfl⟩)) ?_ | refine jv ?_)) <;> (try (conv => whnf))
  · (repeat' ((conv => whnf) <;> first | exact rfl | with_reducible refine boolK_dec (fun _ => ?_) (fun _ => ?_) <;> try (exfalso; omega) | refine boolK_beq (fun _ => ?_) (fun _ => ?_) <;> try (exfalso; first | omega | with_reducible contradiction) | refine boolK_bne (fun _ => ?_) (fun _ => ?_) <;> try (exfalso; first | omega | with_reducible contradiction) | (with_reducible first | refine boolK_not ?_ | refine boolK_and ?_ | refine boolK_or ?_ | refine boolK_true ?_ | refine boolK_false ?_) | refine boolK_intro (fun _ => ?_) (fun _ => ?_) <;> try (exfalso; simp_all; done) | with_reducible refine natK_lit ?_ | refine natK_of rfl ?_ | refine natK_any ?_ | refine jP ?_ | refine jQ ?_ | refine jR ?_ | refine jS ?_ | refine jT ?_ | refine jU (fun _ => ?_) | refine jV ?_ | refine jm ?_ | refine callK_intro (cF) ?_ | refine jy ?_ | refine ju ?_ | refine sideK_intro (by first | (rw [u1 (by assumption)] <;> first | rfl | exact ⟨rfl, rfl⟩ | exact ⟨rfl, rfl, rfl⟩)) ?_ | refine jv ?_)) <;> (try (conv => whnf))
theorem c_rdbServiceB (r : List UInt8) (l : List DE) {m : Nat} (hm : m = l.length) (hl : l.length ≤ 1000000) (x y : List UInt8) (hs : ∀ s ∈ l, deSm 9223372036854775807 s) (now : Int) : Fn Tryz.prog 33 [.a [.s r, .sl (flat deR l) m], .o (.s x), .o (.s y), .o (.i .i64 now)] [] (.tup [.c (.o (.i .i64 (dbU x y l now (bitOn 2) 2 6).1)), .c (.o (.i .i64 (dbU x y l now (bitOn 2) 2 6).2))]) [] := by
  have c := c_rdbUseB r l hm hl x y hs now 2 2 6
  generalize dbU x y l now (bitOn 2) 2 6 = R at *
  refine Fn_intro (G := g33) (goodA rfl) (fn := Tryz.f33) rfl rfl rfl rfl rfl ?_
  (repeat' ((conv => whnf) <;> first | exact rfl | with_reducible refine boolK_dec (fun _ => ?_) (fun _ => ?_) <;> try (exfalso; omega) | refine boolK_beq (fun _ => ?_) (fun _ => ?_) <;> try (exfalso; first | omega | with_reducible contradiction) | refine boolK_bne (fun _ => ?_) (fun _ => ?_) <;> try (exfalso; first | omega | with_reducible contradiction) | (with_reducible first | refine boolK_not ?_ | refine boolK_and ?_ | refine boolK_or ?_ | refine boolK_true ?_ | refine boolK_false ?_) | refine boolK_intro (fun _ => ?_) (fun _ => ?_) <;> try (exfalso; simp_all; done) | with_reducible refine natK_lit ?_ | refine natK_of rfl ?_ | refine natK_any ?_ | refine callK_intro (c) ?_ | refine jy ?_ | refine ju ?_ | refine jv ?_)) <;> (try (conv => whnf))
theorem c_rdbService (r : List UInt8) (l : List DE) {m : Nat} (hm : m = l.length) (hl : l.length ≤ 1000000) (x y : List UInt8) (hs : ∀ s ∈ l, deSm 90000 s) (now : Int) : Fn Tryz.prog 33 [.a [.s r, .sl (flat deR l) m], .o (.s x), .o (.s y), .o (.i .i64 now)] [] (.tup [.c (.o (.i .i64 (dbU x y l now (bitOn 2) 2 6).1)), .c (.o (.i .i64 (dbU x y l now (bitOn 2) 2 6).2))]) [] :=
  c_rdbServiceB r l hm hl x y (fun s h => de_grow (by decide) (hs s h)) now
end Go.Sx

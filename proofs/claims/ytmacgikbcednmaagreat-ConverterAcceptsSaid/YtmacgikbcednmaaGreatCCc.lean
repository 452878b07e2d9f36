/-
  Contracts of the functions that look through caches of credentials, and of their reference.
-/
import Derived.Test.YtmacgikbcednmaaGreatPX2
import Derived.Test.YtmacgikbcednmaaGreatCKey
import Derived.Test.YtmacgikbcednmaaGreatCFieldP
set_option linter.all false
namespace Go.Sx
open Go.Proofs Go.RowKit
theorem headS_cr {l : List CR} {j : Nat} {K : List UInt8 → List L → Prop} (h : j < l.length) (hk : K (l.getD j cr0).x (.s (l.getD j cr0).y :: .s (l.getD j cr0).z :: .i .u64 (l.getD j cr0).k :: .i .i64 (l.getD j cr0).lf :: .i .i64 (l.getD j cr0).kv :: .i .i64 (l.getD j cr0).is :: .sl ((l.getD j cr0).t.map u8) (l.getD j cr0).t.length :: flat crR (l.drop (j + 1)))) : headS ((flat crR l).drop (j * 8)) K :=
  ⟨_, _, by rw [flat_at crR_len cr0 h]; rfl, hk⟩
theorem headS_cr0 {l : List CR} {j : Nat} {K : List UInt8 → List L → Prop} (h : j < l.length) (hk : K (l.getD j cr0).x (.s (l.getD j cr0).y :: .s (l.getD j cr0).z :: .i .u64 (l.getD j cr0).k :: .i .i64 (l.getD j cr0).lf :: .i .i64 (l.getD j cr0).kv :: .i .i64 (l.getD j cr0).is :: .sl ((l.getD j cr0).t.map u8) (l.getD j cr0).t.length :: flat crR (l.drop (j + 1)))) : headS (((flat crR l).drop (j * 8)).drop 0) K :=
  ⟨_, _, by rw [flat_at crR_len cr0 h]; rfl, hk⟩
noncomputable def g118 : Par := par 12 (nthLL [[0, 1], [4]]) [4] (nthLL [])
noncomputable def g138 : Par := par 12 (nthLL [[0, 1], [4]]) [4] (nthLL [])
noncomputable def g119 : Par := par 22 (nthLL [[0, 3], [0, 3, 7, 8, 9], [0, 3, 7, 8, 9, 10], [0, 3, 5, 6, 7, 8, 9], [0, 3, 5, 7, 8, 9, 17], [4], [0, 3, 7, 8, 9], [4]]) [4, 5, 9] (nthLL [])
noncomputable def g94 : Par := par 8 (nthLL [[1, 2], [1, 2], [2]]) [2] (nthLL [])
noncomputable def g139 : Par := par 28 (nthLL [[2, 3, 4], [2, 3, 4, 6], [2, 3, 4, 6, 11], [2, 3, 4, 6], [2, 3, 4, 6, 21], [4, 5], [4, 5]]) [4, 5] (nthLL [[], [], [], [], [0, 1, 0, 7, 15, 31, 0, 127]])
set_option maxRecDepth 10000
set_option maxHeartbeats 4000000
theorem c_crWithin (n k : Int) : Fn Tryz.prog 118 [.o (.i .i64 n), .o (.i .i64 k)] [] (.one (.c (.o (.b (decide (0 ≤ n ∧ n ≤ k)))))) [] := by
  refine Fn_intro (G := g118) (goodA rfl) (fn := Tryz.f118) rfl rfl rfl rfl rfl ?_
  (repeat' ((conv => whnf) <;> first | exact rfl | with_reducible refine boolK_dec (fun _ => ?_) (fun _ => ?_) <;> try (exfalso; omega) | refine boolK_beq (fun _ => ?_) (fun _ => ?_) <;> try (exfalso; first | omega | with_reducible contradiction) | refine boolK_bne (fun _ => ?_) (fun _ => ?_) <;> try (exfalso; first | omega | with_reducible contradiction) | (with_reducible first | refine boolK_not ?_ | refine boolK_and ?_ | refine boolK_or ?_ | refine boolK_true ?_ | refine boolK_false ?_) | refine boolK_intro (fun _ => ?_) (fun _ => ?_) <;> try (exfalso; simp_all; done) | with_reducible refine natK_lit ?_ | refine natK_of rfl ?_ | refine natK_any ?_ | refine jy ?_ | refine ju ?_ | refine sideK_intro (by first | (exact congrArg (fun x => [L.b x]) (Eq.symm (decide_eq_false (by omega)))) | (exact congrArg (fun x => [L.b x]) (decide_eq_decide.mpr (by omega))) | (exact congrArg (fun x => [L.b x]) (Eq.symm (decide_eq_true (by omega))))) ?_ | refine jv ?_)) <;> (try (conv => whnf))
theorem c_rcrWithin (n k : Int) : Fn Tryz.prog 138 [.o (.i .i64 n), .o (.i .i64 k)] [] (.one (.c (.o (.b (decide (0 ≤ n ∧ n ≤ k)))))) [] := by
  refine Fn_intro (G := g138) (goodA rfl) (fn := Tryz.f138) rfl rfl rfl rfl rfl ?_
  (repeat' ((conv => whnf) <;> first | exact rfl | with_reducible refine boolK_dec (fun _ => ?_) (fun _ => ?_) <;> try (exfalso; omega) | refine boolK_beq (fun _ => ?_) (fun _ => ?_) <;> try (exfalso; first | omega | with_reducible contradiction) | refine boolK_bne (fun _ => ?_) (fun _ => ?_) <;> try (exfalso; first | omega | with_reducible contradiction) | (with_reducible first | refine boolK_not ?_ | refine boolK_and ?_ | refine boolK_or ?_ | refine boolK_true ?_ | refine boolK_false ?_) | refine boolK_intro (fun _ => ?_) (fun _ => ?_) <;> try (exfalso; simp_all; done) | with_reducible refine natK_lit ?_ | refine natK_of rfl ?_ | refine natK_any ?_ | refine jy ?_ | refine ju ?_ | refine sideK_intro (by first | (exact congrArg (fun x => [L.b x]) (Eq.symm (decide_eq_false (by omega)))) | (exact congrArg (fun x => [L.b x]) (decide_eq_decide.mpr (by omega))) | (exact congrArg (fun x => [L.b x]) (Eq.symm (decide_eq_true (by omega))))) ?_ | refine jv ?_)) <;> (try (conv => whnf))
theorem c_crSearch (l : List CR) {m : Nat} (hm : m = l.length) (hl : l.length ≤ 1000000) (x y z : List UInt8) : Fn Tryz.prog 119 [.o (.sl (flat crR l) m), .a [.s x, .s y, .s z]] [] (.one (.c (.o (.i .i64 (crAt l x y z : Int))))) [] := by
  subst hm
  have e1 := fun j h1 h2 h3 => find_at (p := crIs x y z) (l := l) (j := j) cr0 h1 h2 h3
  have e2 := find_no (p := crIs x y z) (l := l) cr0
  rw [show List.findIdx (crIs x y z) l = crAt l x y z from rfl] at e1 e2
  refine Fn_intro (G := g119) (goodA rfl) (fn := Tryz.f119) rfl rfl rfl rfl rfl ?_
  conv => whnf
  refine loopK_inv (G := g119) (fun k st => ∃ j : Nat, k + j = l.length ∧ (∀ i, i < j → crIs x y z (l.getD i cr0) = false) ∧
    st = ⟨[(0, .c (.o (.sl (flat crR l) l.length))), (3, .c (.o (.p 3 0))), (7, .c (.o (.sl (flat crR l) l.length))), (8, .c (.o (.i .i64 (l.length : Int)))), (9, .c (.o (.i .i64 (j : Int))))], [(3, .st [.s x, .s y, .s z])]⟩) (n := l.length) ⟨0, by omega, by simp, rfl⟩ ?_
  rintro k st ⟨j, hj, hz, rfl⟩
  (repeat' ((conv => whnf) <;> first | exact rfl | with_reducible refine boolK_dec (fun _ => ?_) (fun _ => ?_) <;> try (exfalso; omega) | refine boolK_beq (fun _ => ?_) (fun _ => ?_) <;> try (exfalso; first | omega | with_reducible contradiction) | refine boolK_bne (fun _ => ?_) (fun _ => ?_) <;> try (exfalso; first | omega | with_reducible contradiction) | (with_reducible first | refine boolK_not ?_ | refine boolK_and ?_ | refine boolK_or ?_ | refine boolK_true ?_ | refine boolK_false ?_) | refine boolK_intro (fun _ => ?_) (fun _ => ?_) <;> try (exfalso; simp_all; done) | refine jA ?_ | refine jB ?_ | refine jH ?_ | refine jI ?_ | refine jJ ?_ | refine jK ?_ | with_reducible refine natK_lit ?_ | refine natK_of rfl ?_ | refine natK_any ?_ | refine jP ?_ | refine jQ ?_ | refine jR ?_ | refine jS ?_ | refine jT ?_ | refine jU (fun _ => ?_) | refine jV ?_ | refine headS_cr (by omega) ?_ | exact ⟨k - 1, by omega, j + 1, by omega, miss_next hz (crIs_no (by rintro ⟨_, _, _⟩; contradiction)), rfl⟩ | refine jy ?_ | refine ju ?_ | refine sideK_intro (by first | (rw [e1 j (by omega) hz (crIs_yes (by assumption) (by assumption) (by assumption))] <;> first | rfl | exact ⟨rfl, rfl⟩ | exact ⟨rfl, rfl, rfl⟩) | (rw [e2 (fun i hi => hz i (by omega))] <;> first | rfl | exact ⟨rfl, rfl⟩ | exact ⟨rfl, rfl, rfl⟩)) ?_ | refine jv ?_)) <;> (try (conv => whnf))
theorem c_fresh (x y z : List UInt8) (k lf kv is : Int) (t : List UInt8) {m : Nat} (hm : m = t.length) (ht : t.length ≤ 100000) : Fn Tryz.prog 94 [.a [.s x, .s y, .s z, .i .u64 k, .i .i64 lf, .i .i64 kv, .i .i64 is, .sl (t.map u8) m]] [] (.one (.c (.a [.s x, .s y, .s z, .i .u64 k, .i .i64 lf, .i .i64 kv, .i .i64 is, .sl (t.map u8) t.length]))) [] := by
  subst hm
  refine Fn_intro (G := g94) (goodA rfl) (fn := Tryz.f94) rfl rfl rfl rfl rfl ?_
  (repeat' ((conv => whnf) <;> first | exact rfl | with_reducible refine boolK_dec (fun _ => ?_) (fun _ => ?_) <;> try (exfalso; omega) | refine boolK_beq (fun _ => ?_) (fun _ => ?_) <;> try (exfalso; first | omega | with_reducible contradiction) | refine boolK_bne (fun _ => ?_) (fun _ => ?_) <;> try (exfalso; first | omega | with_reducible contradiction) | (with_reducible first | refine boolK_not ?_ | refine boolK_and ?_ | refine boolK_or ?_ | refine boolK_true ?_ | refine boolK_false ?_) | refine boolK_intro (fun _ => ?_) (fun _ => ?_) <;> try (exfalso; simp_all; done) | with_reducible refine natK_lit ?_ | refine natK_of rfl ?_ | refine natK_any ?_ | refine callK_intro (c_clone t rfl (by omega)) ?_ | refine jy ?_ | refine ju ?_ | refine jv ?_)) <;> (try (conv => whnf))
theorem c_rcrGet (o1 o2 o3 : List UInt8) (l : List CR) {m : Nat} (hm : m = l.length) (hl : l.length ≤ 1000000) (x y z : List UInt8) : Fn Tryz.prog 139 [.a [.s o1, .s o2, .s o3, .sl (flat crR l) m], .a [.s x, .s y, .s z]] [] (.tup [.c (.a (crR (crG l x y z).1)), .c (.o (.b (crG l x y z).2))]) [] := by
  subst hm
  have e1 := fun j h1 h2 h3 => find_at (p := crIs x y z) (l := l) (j := j) cr0 h1 h2 h3
  have e2 := find_no (p := crIs x y z) (l := l) cr0
  rw [show List.findIdx (crIs x y z) l = crAt l x y z from rfl] at e1 e2
  have h2 := @crG_no l x y z
  have h3 := @crG_yes l x y z
  generalize crG l x y z = R at *
  generalize crAt l x y z = J at *
  refine Fn_intro (G := g139) (goodA rfl) (fn := Tryz.f139) rfl rfl rfl rfl rfl ?_
  conv => whnf
  refine loopK_inv (G := g139) (fun k st => ∃ j : Nat, k + j = l.length ∧ (∀ i, i < j → crIs x y z (l.getD i cr0) = false) ∧
    st = ⟨[(2, .c (.o (.p 2 0))), (3, .c (.o (.p 3 0))), (4, .c (.o (.p 4 0))), (6, .c (.o (.i .i64 (j : Int))))], [(2, .st [.s o1, .s o2, .s o3, .sl (flat crR l) l.length]), (3, .st [.s x, .s y, .s z]), (4, .st [.s [], .s [], .s [], .i .u64 0, .i .i64 0, .i .i64 0, .i .i64 0, .nl])]⟩) (n := l.length) ⟨0, by omega, by simp, rfl⟩ ?_
  rintro k st ⟨j, hj, hz, rfl⟩
  (repeat' ((conv => whnf) <;> first | exact rfl | with_reducible refine boolK_dec (fun _ => ?_) (fun _ => ?_) <;> try (exfalso; omega) | refine boolK_beq (fun _ => ?_) (fun _ => ?_) <;> try (exfalso; first | omega | with_reducible contradiction) | refine boolK_bne (fun _ => ?_) (fun _ => ?_) <;> try (exfalso; first | omega | with_reducible contradiction) | (with_reducible first | refine boolK_not ?_ | refine boolK_and ?_ | refine boolK_or ?_ | refine boolK_true ?_ | refine boolK_false ?_) | refine boolK_intro (fun _ => ?_) (fun _ => ?_) <;> try (exfalso; simp_all; done) | refine jA ?_ | refine jB ?_ | refine jH ?_ | refine jI ?_ | refine jJ ?_ | refine jK ?_ | with_reducible refine natK_lit ?_ | refine natK_of rfl ?_ | refine natK_any ?_ | refine jP ?_ | refine jQ ?_ | refine jR ?_ | refine jS ?_ | refine jT ?_ | refine jU (fun _ => ?_) | refine jV ?_ | refine headS_cr0 (by omega) ?_ | refine headS_cr (by omega) ?_ | exact ⟨k - 1, by omega, j + 1, by omega, miss_next hz (crIs_no (by rintro ⟨_, _, _⟩; contradiction)), rfl⟩ | refine jy ?_ | refine ju ?_ | refine sideK_intro (by first | (rw [h3 (e1 j (by omega) hz (crIs_yes (by assumption) (by assumption) (by assumption))) (by omega)] <;> first | rfl | exact ⟨rfl, rfl⟩ | exact ⟨rfl, rfl, rfl⟩) | (rw [h2 (e2 (fun i hi => hz i (by omega)))] <;> first | rfl | exact ⟨rfl, rfl⟩ | exact ⟨rfl, rfl, rfl⟩)) ?_ | refine jv ?_)) <;> (try (conv => whnf))
end Go.Sx

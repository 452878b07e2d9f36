/-
  Contracts of Check of clients, and of what a client makes of an answer of the converter, and of their references.
-/
import Derived.Test.YtmacgikbcednmaaGreatPX2
import Derived.Test.YtmacgikbcednmaaGreatCConvA
import Derived.Test.YtmacgikbcednmaaGreatCKdcD
import Derived.Test.YtmacgikbcednmaaGreatCCcB
set_option linter.all false
namespace Go.Sx
open Go.Proofs Go.RowKit
noncomputable def g78 : Par := par 12 (nthLL [[0, 1], [4]]) [4] (nthLL [])
noncomputable def g21 : Par := par 12 (nthLL [[0, 1], [4]]) [4] (nthLL [])
noncomputable def g38 : Par := par 38 (nthLL [[1], [1, 7], [2], [1, 17], [2], [1, 25], [2], [1, 3], [1, 3, 30], [2], [37], [2], [2]]) [2, 3] (nthLL [])
noncomputable def g6 : Par := par 36 (nthLL [[1, 2, 3, 4, 8], [1, 2, 3, 4, 8, 10, 11], [1, 2, 3, 4, 8, 10, 11, 18], [8, 9], [1, 2, 3, 4, 8, 10, 28], [8, 9], [8, 9]]) [8, 9, 11] (nthLL [])
noncomputable def g43 : Par := par 40 (nthLL [[1], [1, 4], [1, 4, 18], [2], [1, 27], [2], [1, 4], [1, 4, 32], [2], [39], [2], [2]]) [2, 4] (nthLL [])
noncomputable def g15 : Par := par 107 (nthLL [[2, 3, 4, 6, 7], [2, 3, 4, 6, 7, 18], [6, 7, 8], [3, 4, 6, 7, 9, 10], [3, 4, 6, 7, 9, 10, 27], [6, 7, 8], [3, 4, 6, 7, 9, 40], [6, 7, 8], [3, 4, 6, 7, 11, 12], [3, 4, 6, 7, 11, 52], [6, 7, 8], [3, 4, 6, 7, 10, 13], [3, 6, 7, 13, 75], [6, 7, 8], [3, 6, 7, 14], [3, 6, 7, 10, 14, 15], [3, 6, 7, 10, 14, 15, 99], [6, 7, 8], [3, 6, 7, 14], [6, 7, 8]]) [6, 7, 8, 10] (nthLL [[], [], [], [], [], [], [], [], [], [], [], [], [], [], [], [], [], [], [], [0, 0, 1, 7, 15]])
noncomputable def g16 : Par := par 109 (nthLL [[2, 3, 4, 6, 7], [2, 3, 4, 6, 7, 19], [6, 7, 8], [3, 4, 6, 7, 9, 10], [3, 4, 6, 7, 9, 10, 28], [6, 7, 8], [3, 4, 6, 7, 9, 41], [6, 7, 8], [3, 4, 6, 7, 11, 12], [3, 4, 6, 7, 11, 53], [6, 7, 8], [3, 4, 6, 7, 10, 13], [3, 6, 7, 13, 76], [6, 7, 8], [3, 6, 7, 14], [3, 6, 7, 10, 14, 15], [3, 6, 7, 10, 14, 15, 100], [6, 7, 8], [6, 7, 14, 15, 16], [6, 7, 14, 16], [6, 7, 8]]) [6, 7, 8, 10] (nthLL [[], [], [], [], [], [], [], [], [], [], [], [], [], [], [], [], [], [], [], [], [0, 0, 1, 7, 15]])
noncomputable def g17 : Par := par 87 (nthLL [[2, 3], [4]]) [4] (nthLL [])
set_option maxRecDepth 10000
set_option maxHeartbeats 16000000
theorem c_upToC (n m : Int) : Fn Tryz.prog 78 [.o (.i .i64 n), .o (.i .i64 m)] [] (.one (.c (.o (.b (decide (0 ≤ n ∧ n ≤ m)))))) [] := by
  refine Fn_intro (G := g78) (goodA rfl) (fn := Tryz.f78) rfl rfl rfl rfl rfl ?_
  (repeat' ((conv => whnf) <;> first | exact rfl | with_reducible refine boolK_dec (fun _ => ?_) (fun _ => ?_) <;> try (exfalso; omega) | refine boolK_beq (fun _ => ?_) (fun _ => ?_) <;> try (exfalso; first | omega | with_reducible contradiction) | refine boolK_bne (fun _ => ?_) (fun _ => ?_) <;> try (exfalso; first | omega | with_reducible contradiction) | (with_reducible first | refine boolK_not ?_ | refine boolK_and ?_ | refine boolK_or ?_ | refine boolK_true ?_ | refine boolK_false ?_) | refine boolK_intro (fun _ => ?_) (fun _ => ?_) <;> try (exfalso; simp_all; done) | with_reducible refine natK_lit ?_ | refine natK_of rfl ?_ | refine natK_any ?_ | refine jy ?_ | refine ju ?_ | refine sideK_intro (by first | (exact congrArg (fun x => [L.b x]) (decide_eq_decide.mpr (by omega))) | (exact congrArg (fun x => [L.b x]) (Eq.symm (decide_eq_true (by omega)))) | (exact congrArg (fun x => [L.b x]) (Eq.symm (decide_eq_false (by omega))))) ?_ | refine jv ?_)) <;> (try (conv => whnf))
theorem c_rwithinC (n m : Int) : Fn Tryz.prog 21 [.o (.i .i64 n), .o (.i .i64 m)] [] (.one (.c (.o (.b (decide (0 ≤ n ∧ n ≤ m)))))) [] := by
  refine Fn_intro (G := g21) (goodA rfl) (fn := Tryz.f21) rfl rfl rfl rfl rfl ?_
  (repeat' ((conv => whnf) <;> first | exact rfl | with_reducible refine boolK_dec (fun _ => ?_) (fun _ => ?_) <;> try (exfalso; omega) | refine boolK_beq (fun _ => ?_) (fun _ => ?_) <;> try (exfalso; first | omega | with_reducible contradiction) | refine boolK_bne (fun _ => ?_) (fun _ => ?_) <;> try (exfalso; first | omega | with_reducible contradiction) | (with_reducible first | refine boolK_not ?_ | refine boolK_and ?_ | refine boolK_or ?_ | refine boolK_true ?_ | refine boolK_false ?_) | refine boolK_intro (fun _ => ?_) (fun _ => ?_) <;> try (exfalso; simp_all; done) | with_reducible refine natK_lit ?_ | refine natK_of rfl ?_ | refine natK_any ?_ | refine jy ?_ | refine ju ?_ | refine sideK_intro (by first | (exact congrArg (fun x => [L.b x]) (decide_eq_decide.mpr (by omega))) | (exact congrArg (fun x => [L.b x]) (Eq.symm (decide_eq_true (by omega)))) | (exact congrArg (fun x => [L.b x]) (Eq.symm (decide_eq_false (by omega))))) ?_ | refine jv ?_)) <;> (try (conv => whnf))
theorem c_clCheck (m1 m2 m3 : List UInt8) (ad sk : Int) (li : Bool) (o1 o2 o3 : List UInt8) (l : List CR) {m : Nat} (hm : m = l.length) (wt : Int) (w1 w2 w3 : List UInt8) (se tm lf ck tk : Int) (hs : clSm ⟨m1, m2, m3, ad, sk, li, o1, o2, o3, l, wt, w1, w2, w3, se, tm, lf, ck, tk⟩) : Fn Tryz.prog 38 [.a [.s m1, .s m2, .s m3, .i .i64 ad, .i .i64 sk, .b li, .s o1, .s o2, .s o3, .sl (flat crR l) m, .i .i64 wt, .s w1, .s w2, .s w3, .i .u64 se, .i .i64 tm, .i .i64 lf, .i .i64 ck, .i .i64 tk]] [] (.one (.c (.o (.i .i64 (clC ⟨m1, m2, m3, ad, sk, li, o1, o2, o3, l, wt, w1, w2, w3, se, tm, lf, ck, tk⟩))))) [] := by
  subst hm
  obtain ⟨⟨a1, a2, a3⟩, ⟨b1, b2, b3⟩, hl, hc⟩ := hs
  dsimp only at a1 a2 a3 b1 b2 b3 hl hc
  have v1 := c_Valid m1 m2 m3 (by omega) (by omega) (by omega)
  have c1 := c_crCheckB o1 o2 o3 l rfl (by omega) ⟨by omega, by omega, by omega⟩ hc
  have d0 := @clC_0 ⟨m1, m2, m3, ad, sk, li, o1, o2, o3, l, wt, w1, w2, w3, se, tm, lf, ck, tk⟩
  have d1 := @clC_1 ⟨m1, m2, m3, ad, sk, li, o1, o2, o3, l, wt, w1, w2, w3, se, tm, lf, ck, tk⟩
  have d2 := @clC_2 ⟨m1, m2, m3, ad, sk, li, o1, o2, o3, l, wt, w1, w2, w3, se, tm, lf, ck, tk⟩
  have d3 := @clC_3 ⟨m1, m2, m3, ad, sk, li, o1, o2, o3, l, wt, w1, w2, w3, se, tm, lf, ck, tk⟩
  have d4 := @clC_4 ⟨m1, m2, m3, ad, sk, li, o1, o2, o3, l, wt, w1, w2, w3, se, tm, lf, ck, tk⟩
  have d5 := @clC_5 ⟨m1, m2, m3, ad, sk, li, o1, o2, o3, l, wt, w1, w2, w3, se, tm, lf, ck, tk⟩
  dsimp only at d0 d1 d2 d3 d4 d5
  generalize clC ⟨m1, m2, m3, ad, sk, li, o1, o2, o3, l, wt, w1, w2, w3, se, tm, lf, ck, tk⟩ = Z at *
  generalize validS m1 m2 m3 = V1 at *
  generalize ccC o1 o2 o3 l = CC at *
  refine Fn_intro (G := g38) (goodA rfl) (fn := Tryz.f38) rfl rfl rfl rfl rfl ?_
  (repeat' ((conv => whnf) <;> first | exact rfl | with_reducible refine boolK_dec (fun _ => ?_) (fun _ => ?_) <;> try (exfalso; omega) | refine boolK_beq (fun _ => ?_) (fun _ => ?_) <;> try (exfalso; first | omega | with_reducible contradiction) | refine boolK_bne (fun _ => ?_) (fun _ => ?_) <;> try (exfalso; first | omega | with_reducible contradiction) | (with_reducible first | refine boolK_not ?_ | refine boolK_and ?_ | refine boolK_or ?_ | refine boolK_true ?_ | refine boolK_false ?_) | refine boolK_intro (fun _ => ?_) (fun _ => ?_) <;> try (exfalso; simp_all; done) | with_reducible refine natK_lit ?_ | refine natK_of rfl ?_ | refine natK_any ?_ | refine callK_intro (v1) ?_ | refine callK_intro (c1) ?_ | refine callK_intro (c_upToC _ _) ?_ | refine jy ?_ | refine ju ?_ | refine sideK_intro (by first | (rw [d0 (by assumption)] <;> first | rfl | exact ⟨rfl, rfl⟩ | exact ⟨rfl, rfl, rfl⟩) | (rw [d1 (by assumption) (by omega)] <;> first | rfl | exact ⟨rfl, rfl⟩ | exact ⟨rfl, rfl, rfl⟩) | (rw [d2 (by assumption) (by omega) (by omega)] <;> first | rfl | exact ⟨rfl, rfl⟩ | exact ⟨rfl, rfl, rfl⟩) | (rw [d3 (by assumption) (by omega) (by omega) (by assumption)] <;> first | rfl | exact ⟨rfl, rfl⟩ | exact ⟨rfl, rfl, rfl⟩) | (rw [d4 (by assumption) (by omega) (by omega) (by assumption) (fun hh => absurd hh.1 (by assumption))] <;> first | rfl | exact ⟨rfl, rfl⟩ | exact ⟨rfl, rfl, rfl⟩) | (rw [d4 (by assumption) (by omega) (by omega) (by assumption) (fun hh => absurd hh.2.1 (by assumption))] <;> first | rfl | exact ⟨rfl, rfl⟩ | exact ⟨rfl, rfl, rfl⟩) | (rw [d4 (by assumption) (by omega) (by omega) (by assumption) (fun hh => absurd hh.2.2 (by assumption))] <;> first | rfl | exact ⟨rfl, rfl⟩ | exact ⟨rfl, rfl, rfl⟩) | (rw [d5 (by assumption) (by omega) (by omega) (by assumption) ⟨by assumption, by assumption, by assumption⟩] <;> first | rfl | exact ⟨rfl, rfl⟩ | exact ⟨rfl, rfl, rfl⟩)) ?_ | refine jv ?_)) <;> (try (conv => whnf))
theorem c_rclNew (x y z : List UInt8) (ad sk : Int) (li : Bool) (hx : x.length ≤ 9223372036854775807 ∧ y.length ≤ 9223372036854775807 ∧ z.length ≤ 9223372036854775807) : Fn Tryz.prog 6 [.a [.s x, .s y, .s z], .o (.i .i64 ad), .o (.i .i64 sk), .o (.b li)] [] (.tup [.c (.a (clR (newS x y z ad sk li).1 0)), .c (.o (.i .i64 (newS x y z ad sk li).2))]) [] := by
  have v1 := c_rcrInitB x y z hx
  have i1 := @initS_yes x y z
  have i2 := @initS_no x y z
  have d0 := @newS_0 x y z ad sk li
  have d1 := @newS_1 x y z ad sk li
  have d2 := @newS_2 x y z ad sk li
  rw [cl0] at d0 d1
  generalize newS x y z ad sk li = Z at *
  refine Fn_intro (G := g6) (goodA rfl) (fn := Tryz.f6) rfl rfl rfl rfl rfl ?_
  by_cases hv : validS x y z = true
  · rw [i1 hv] at v1
    clear i1 i2
    replace d1 := d1 hv
    replace d2 := d2 hv
    generalize validS x y z = V1 at *
    (repeat' ((conv => whnf) <;> first | exact rfl | with_reducible refine boolK_dec (fun _ => ?_) (fun _ => ?_) <;> try (exfalso; omega) | refine boolK_beq (fun _ => ?_) (fun _ => ?_) <;> try (exfalso; first | omega | with_reducible contradiction) | refine boolK_bne (fun _ => ?_) (fun _ => ?_) <;> try (exfalso; first | omega | with_reducible contradiction) | (with_reducible first | refine boolK_not ?_ | refine boolK_and ?_ | refine boolK_or ?_ | refine boolK_true ?_ | refine boolK_false ?_) | refine boolK_intro (fun _ => ?_) (fun _ => ?_) <;> try (exfalso; simp_all; done) | with_reducible refine natK_lit ?_ | refine natK_of rfl ?_ | refine natK_any ?_ | refine callK_intro (v1) ?_ | refine callK_intro (c_rwithinC _ _) ?_ | refine jy ?_ | refine ju ?_ | refine sideK_intro (by first | (rw [d1 (by omega)] <;> first | rfl | exact ⟨rfl, rfl⟩ | exact ⟨rfl, rfl, rfl⟩) | (rw [d2 (by omega)] <;> first | rfl | exact ⟨rfl, rfl⟩ | exact ⟨rfl, rfl, rfl⟩)) ?_ | refine jv ?_)) <;> (try (conv => whnf))
  · have hv : validS x y z = false := by cases h : validS x y z; rfl; exact absurd h hv
    rw [i2 hv] at v1
    clear i1 i2
    rw [d0 hv]
    (repeat' ((conv => whnf) <;> first | exact rfl | with_reducible refine boolK_dec (fun _ => ?_) (fun _ => ?_) <;> try (exfalso; omega) | refine boolK_beq (fun _ => ?_) (fun _ => ?_) <;> try (exfalso; first | omega | with_reducible contradiction) | refine boolK_bne (fun _ => ?_) (fun _ => ?_) <;> try (exfalso; first | omega | with_reducible contradiction) | (with_reducible first | refine boolK_not ?_ | refine boolK_and ?_ | refine boolK_or ?_ | refine boolK_true ?_ | refine boolK_false ?_) | refine boolK_intro (fun _ => ?_) (fun _ => ?_) <;> try (exfalso; simp_all; done) | with_reducible refine natK_lit ?_ | refine natK_of rfl ?_ | refine natK_any ?_ | refine callK_intro (v1) ?_ | refine callK_intro (c_rwithinC _ _) ?_ | refine jy ?_ | refine ju ?_ | refine jv ?_)) <;> (try (conv => whnf))
theorem c_rclCheck (m1 m2 m3 : List UInt8) (ad sk : Int) (li : Bool) (o1 o2 o3 : List UInt8) (l : List CR) {m : Nat} (hm : m = l.length) (wt : Int) (w1 w2 w3 : List UInt8) (se tm lf ck tk : Int) (hs : clSm ⟨m1, m2, m3, ad, sk, li, o1, o2, o3, l, wt, w1, w2, w3, se, tm, lf, ck, tk⟩) : Fn Tryz.prog 43 [.a [.s m1, .s m2, .s m3, .i .i64 ad, .i .i64 sk, .b li, .s o1, .s o2, .s o3, .sl (flat crR l) m, .i .i64 wt, .s w1, .s w2, .s w3, .i .u64 se, .i .i64 tm, .i .i64 lf, .i .i64 ck, .i .i64 tk]] [] (.one (.c (.o (.i .i64 (clC ⟨m1, m2, m3, ad, sk, li, o1, o2, o3, l, wt, w1, w2, w3, se, tm, lf, ck, tk⟩))))) [] := by
  subst hm
  obtain ⟨⟨a1, a2, a3⟩, ⟨b1, b2, b3⟩, hl, hc⟩ := hs
  dsimp only at a1 a2 a3 b1 b2 b3 hl hc
  have v1 := c_rclNew m1 m2 m3 ad sk li ⟨by omega, by omega, by omega⟩
  have c1 := c_rcrCheckB o1 o2 o3 l rfl (by omega) ⟨by omega, by omega, by omega⟩ hc
  have d0 := @clC_0 ⟨m1, m2, m3, ad, sk, li, o1, o2, o3, l, wt, w1, w2, w3, se, tm, lf, ck, tk⟩
  have d1 := @clC_1 ⟨m1, m2, m3, ad, sk, li, o1, o2, o3, l, wt, w1, w2, w3, se, tm, lf, ck, tk⟩
  have d2 := @clC_2 ⟨m1, m2, m3, ad, sk, li, o1, o2, o3, l, wt, w1, w2, w3, se, tm, lf, ck, tk⟩
  have d3 := @clC_3 ⟨m1, m2, m3, ad, sk, li, o1, o2, o3, l, wt, w1, w2, w3, se, tm, lf, ck, tk⟩
  have d4 := @clC_4 ⟨m1, m2, m3, ad, sk, li, o1, o2, o3, l, wt, w1, w2, w3, se, tm, lf, ck, tk⟩
  have d5 := @clC_5 ⟨m1, m2, m3, ad, sk, li, o1, o2, o3, l, wt, w1, w2, w3, se, tm, lf, ck, tk⟩
  have e0 := @newS_0 m1 m2 m3 ad sk li
  have e1 := @newS_1 m1 m2 m3 ad sk li
  have e2 := @newS_2 m1 m2 m3 ad sk li
  dsimp only at d0 d1 d2 d3 d4 d5
  generalize clC ⟨m1, m2, m3, ad, sk, li, o1, o2, o3, l, wt, w1, w2, w3, se, tm, lf, ck, tk⟩ = Z at *
  generalize ccC o1 o2 o3 l = CC at *
  refine Fn_intro (G := g43) (goodA rfl) (fn := Tryz.f43) rfl rfl rfl rfl rfl ?_
  by_cases hv : validS m1 m2 m3 = true
  · replace d1 := d1 hv
    replace d2 := d2 hv
    replace d3 := d3 hv
    replace d4 := d4 hv
    replace d5 := d5 hv
    by_cases h1 : (0 ≤ ad ∧ ad ≤ 4294967295) ∧ (0 ≤ sk ∧ sk ≤ 4294967295)
    · rw [e2 hv h1] at v1
      dsimp only [clR] at v1
      clear e0 e1 e2 d0 d1
      replace d2 := d2 h1
      replace d3 := d3 h1
      replace d4 := d4 h1
      replace d5 := d5 h1
      (repeat' ((conv => whnf) <;> first | exact rfl | with_reducible refine boolK_dec (fun _ => ?_) (fun _ => ?_) <;> try (exfalso; omega) | refine boolK_beq (fun _ => ?_) (fun _ => ?_) <;> try (exfalso; first | omega | with_reducible contradiction) | refine boolK_bne (fun _ => ?_) (fun _ => ?_) <;> try (exfalso; first | omega | with_reducible contradiction) | (with_reducible first | refine boolK_not ?_ | refine boolK_and ?_ | refine boolK_or ?_ | refine boolK_true ?_ | refine boolK_false ?_) | refine boolK_intro (fun _ => ?_) (fun _ => ?_) <;> try (exfalso; simp_all; done) | with_reducible refine natK_lit ?_ | refine natK_of rfl ?_ | refine natK_any ?_ | refine callK_intro (v1) ?_ | refine callK_intro (c1) ?_ | refine jy ?_ | refine ju ?_ | refine sideK_intro (by first | (rw [d2 (by omega)] <;> first | rfl | exact ⟨rfl, rfl⟩ | exact ⟨rfl, rfl, rfl⟩) | (rw [d3 (by omega) (by assumption)] <;> first | rfl | exact ⟨rfl, rfl⟩ | exact ⟨rfl, rfl, rfl⟩) | (rw [d4 (by omega) (by assumption) (fun hh => absurd hh.1 (by assumption))] <;> first | rfl | exact ⟨rfl, rfl⟩ | exact ⟨rfl, rfl, rfl⟩) | (rw [d4 (by omega) (by assumption) (fun hh => absurd hh.2.1 (by assumption))] <;> first | rfl | exact ⟨rfl, rfl⟩ | exact ⟨rfl, rfl, rfl⟩) | (rw [d4 (by omega) (by assumption) (fun hh => absurd hh.2.2 (by assumption))] <;> first | rfl | exact ⟨rfl, rfl⟩ | exact ⟨rfl, rfl, rfl⟩) | (rw [d5 (by omega) (by assumption) ⟨by assumption, by assumption, by assumption⟩] <;> first | rfl | exact ⟨rfl, rfl⟩ | exact ⟨rfl, rfl, rfl⟩)) ?_ | refine jv ?_)) <;> (try (conv => whnf))
    · rw [e1 hv h1] at v1
      rw [d1 h1]
      dsimp only [clR, cl0] at v1
      (repeat' ((conv => whnf) <;> first | exact rfl | with_reducible refine boolK_dec (fun _ => ?_) (fun _ => ?_) <;> try (exfalso; omega) | refine boolK_beq (fun _ => ?_) (fun _ => ?_) <;> try (exfalso; first | omega | with_reducible contradiction) | refine boolK_bne (fun _ => ?_) (fun _ => ?_) <;> try (exfalso; first | omega | with_reducible contradiction) | (with_reducible first | refine boolK_not ?_ | refine boolK_and ?_ | refine boolK_or ?_ | refine boolK_true ?_ | refine boolK_false ?_) | refine boolK_intro (fun _ => ?_) (fun _ => ?_) <;> try (exfalso; simp_all; done) | with_reducible refine natK_lit ?_ | refine natK_of rfl ?_ | refine natK_any ?_ | refine callK_intro (v1) ?_ | refine jy ?_ | refine ju ?_ | refine jv ?_)) <;> (try (conv => whnf))
  · have hv : validS m1 m2 m3 = false := by cases h : validS m1 m2 m3; rfl; exact absurd h hv
    rw [e0 hv] at v1
    rw [d0 hv]
    dsimp only [clR, cl0] at v1
    (repeat' ((conv => whnf) <;> first | exact rfl | with_reducible refine boolK_dec (fun _ => ?_) (fun _ => ?_) <;> try (exfalso; omega) | refine boolK_beq (fun _ => ?_) (fun _ => ?_) <;> try (exfalso; first | omega | with_reducible contradiction) | refine boolK_bne (fun _ => ?_) (fun _ => ?_) <;> try (exfalso; first | omega | with_reducible contradiction) | (with_reducible first | refine boolK_not ?_ | refine boolK_and ?_ | refine boolK_or ?_ | refine boolK_true ?_ | refine boolK_false ?_) | refine boolK_intro (fun _ => ?_) (fun _ => ?_) <;> try (exfalso; simp_all; done) | with_reducible refine natK_lit ?_ | refine natK_of rfl ?_ | refine natK_any ?_ | refine callK_intro (v1) ?_ | refine jy ?_ | refine ju ?_ | refine jv ?_)) <;> (try (conv => whnf))
theorem c_Accept26 (m1 m2 m3 : List UInt8) (ad sk : Int) (li : Bool) (o1 o2 o3 : List UInt8) (l : List CR) {m : Nat} (hm : m = l.length) (wt : Int) (w1 w2 w3 : List UInt8) (se tm lf ck tk : Int) (hs : clSm ⟨m1, m2, m3, ad, sk, li, o1, o2, o3, l, wt, w1, w2, w3, se, tm, lf, ck, tk⟩) (s1 s2 s3 : List UInt8) (k st en : Int) (rc : List UInt8) {n : Nat} (b : List UInt8) {q : Nat} (hq : q = b.length) (hb : b.length ≤ 90000) : Fn Tryz.prog 15 [.a [.s m1, .s m2, .s m3, .i .i64 ad, .i .i64 sk, .b li, .s o1, .s o2, .s o3, .sl (flat crR l) m, .i .i64 wt, .s w1, .s w2, .s w3, .i .u64 se, .i .i64 tm, .i .i64 lf, .i .i64 ck, .i .i64 tk], .a [.s s1, .s s2, .s s3, .i .u64 k, .i .i64 st, .i .i64 en, .sl (rc.map u8) n], .o (.sl (b.map u8) q)] [] (.tup [.c (.a [.s (yA ⟨⟨m1, m2, m3, ad, sk, li, o1, o2, o3, l, wt, w1, w2, w3, se, tm, lf, ck, tk⟩, s1, s2, s3, k, b⟩).1.1.m1, .s (yA ⟨⟨m1, m2, m3, ad, sk, li, o1, o2, o3, l, wt, w1, w2, w3, se, tm, lf, ck, tk⟩, s1, s2, s3, k, b⟩).1.1.m2, .s (yA ⟨⟨m1, m2, m3, ad, sk, li, o1, o2, o3, l, wt, w1, w2, w3, se, tm, lf, ck, tk⟩, s1, s2, s3, k, b⟩).1.1.m3, .i .i64 (yA ⟨⟨m1, m2, m3, ad, sk, li, o1, o2, o3, l, wt, w1, w2, w3, se, tm, lf, ck, tk⟩, s1, s2, s3, k, b⟩).1.1.ad, .i .i64 (yA ⟨⟨m1, m2, m3, ad, sk, li, o1, o2, o3, l, wt, w1, w2, w3, se, tm, lf, ck, tk⟩, s1, s2, s3, k, b⟩).1.1.sk, .b (yA ⟨⟨m1, m2, m3, ad, sk, li, o1, o2, o3, l, wt, w1, w2, w3, se, tm, lf, ck, tk⟩, s1, s2, s3, k, b⟩).1.1.li, .s (yA ⟨⟨m1, m2, m3, ad, sk, li, o1, o2, o3, l, wt, w1, w2, w3, se, tm, lf, ck, tk⟩, s1, s2, s3, k, b⟩).1.1.o1, .s (yA ⟨⟨m1, m2, m3, ad, sk, li, o1, o2, o3, l, wt, w1, w2, w3, se, tm, lf, ck, tk⟩, s1, s2, s3, k, b⟩).1.1.o2, .s (yA ⟨⟨m1, m2, m3, ad, sk, li, o1, o2, o3, l, wt, w1, w2, w3, se, tm, lf, ck, tk⟩, s1, s2, s3, k, b⟩).1.1.o3, .sl (flat crR (yA ⟨⟨m1, m2, m3, ad, sk, li, o1, o2, o3, l, wt, w1, w2, w3, se, tm, lf, ck, tk⟩, s1, s2, s3, k, b⟩).1.1.l) (yA ⟨⟨m1, m2, m3, ad, sk, li, o1, o2, o3, l, wt, w1, w2, w3, se, tm, lf, ck, tk⟩, s1, s2, s3, k, b⟩).1.1.l.length, .i .i64 (yA ⟨⟨m1, m2, m3, ad, sk, li, o1, o2, o3, l, wt, w1, w2, w3, se, tm, lf, ck, tk⟩, s1, s2, s3, k, b⟩).1.1.wt, .s (yA ⟨⟨m1, m2, m3, ad, sk, li, o1, o2, o3, l, wt, w1, w2, w3, se, tm, lf, ck, tk⟩, s1, s2, s3, k, b⟩).1.1.w1, .s (yA ⟨⟨m1, m2, m3, ad, sk, li, o1, o2, o3, l, wt, w1, w2, w3, se, tm, lf, ck, tk⟩, s1, s2, s3, k, b⟩).1.1.w2, .s (yA ⟨⟨m1, m2, m3, ad, sk, li, o1, o2, o3, l, wt, w1, w2, w3, se, tm, lf, ck, tk⟩, s1, s2, s3, k, b⟩).1.1.w3, .i .u64 (yA ⟨⟨m1, m2, m3, ad, sk, li, o1, o2, o3, l, wt, w1, w2, w3, se, tm, lf, ck, tk⟩, s1, s2, s3, k, b⟩).1.1.se, .i .i64 (yA ⟨⟨m1, m2, m3, ad, sk, li, o1, o2, o3, l, wt, w1, w2, w3, se, tm, lf, ck, tk⟩, s1, s2, s3, k, b⟩).1.1.tm, .i .i64 (yA ⟨⟨m1, m2, m3, ad, sk, li, o1, o2, o3, l, wt, w1, w2, w3, se, tm, lf, ck, tk⟩, s1, s2, s3, k, b⟩).1.1.lf, .i .i64 (yA ⟨⟨m1, m2, m3, ad, sk, li, o1, o2, o3, l, wt, w1, w2, w3, se, tm, lf, ck, tk⟩, s1, s2, s3, k, b⟩).1.1.ck, .i .i64 (yA ⟨⟨m1, m2, m3, ad, sk, li, o1, o2, o3, l, wt, w1, w2, w3, se, tm, lf, ck, tk⟩, s1, s2, s3, k, b⟩).1.1.tk]), .c (.a [.s (yA ⟨⟨m1, m2, m3, ad, sk, li, o1, o2, o3, l, wt, w1, w2, w3, se, tm, lf, ck, tk⟩, s1, s2, s3, k, b⟩).1.2.x, .s (yA ⟨⟨m1, m2, m3, ad, sk, li, o1, o2, o3, l, wt, w1, w2, w3, se, tm, lf, ck, tk⟩, s1, s2, s3, k, b⟩).1.2.y, .s (yA ⟨⟨m1, m2, m3, ad, sk, li, o1, o2, o3, l, wt, w1, w2, w3, se, tm, lf, ck, tk⟩, s1, s2, s3, k, b⟩).1.2.z, .i .u64 (yA ⟨⟨m1, m2, m3, ad, sk, li, o1, o2, o3, l, wt, w1, w2, w3, se, tm, lf, ck, tk⟩, s1, s2, s3, k, b⟩).1.2.k, .i .i64 (yA ⟨⟨m1, m2, m3, ad, sk, li, o1, o2, o3, l, wt, w1, w2, w3, se, tm, lf, ck, tk⟩, s1, s2, s3, k, b⟩).1.2.lf, .i .i64 (yA ⟨⟨m1, m2, m3, ad, sk, li, o1, o2, o3, l, wt, w1, w2, w3, se, tm, lf, ck, tk⟩, s1, s2, s3, k, b⟩).1.2.kv, .i .i64 (yA ⟨⟨m1, m2, m3, ad, sk, li, o1, o2, o3, l, wt, w1, w2, w3, se, tm, lf, ck, tk⟩, s1, s2, s3, k, b⟩).1.2.is, .sl ((yA ⟨⟨m1, m2, m3, ad, sk, li, o1, o2, o3, l, wt, w1, w2, w3, se, tm, lf, ck, tk⟩, s1, s2, s3, k, b⟩).1.2.t.map u8) (yA ⟨⟨m1, m2, m3, ad, sk, li, o1, o2, o3, l, wt, w1, w2, w3, se, tm, lf, ck, tk⟩, s1, s2, s3, k, b⟩).1.2.t.length]), .c (.o (.i .i64 (yA ⟨⟨m1, m2, m3, ad, sk, li, o1, o2, o3, l, wt, w1, w2, w3, se, tm, lf, ck, tk⟩, s1, s2, s3, k, b⟩).2))]) [] := by
  have c0 := c_clCheck m1 m2 m3 ad sk li o1 o2 o3 l hm wt w1 w2 w3 se tm lf ck tk hs
  subst hm
  subst hq
  obtain ⟨_, ⟨b1, b2, b3⟩, hl, hc⟩ := hs
  dsimp only at b1 b2 b3 hl hc
  have c1 := c_DecM b rfl hb
  have hl0 := fmD_len b
  have c2 := c_boxOpen (fmD b).1.bx (m := (fmD b).1.bx.length) rfl (by omega) 3 k
  have hl2 := boxO_len (fmD b).1.bx 3 k
  rw [show boxO (fmD b).1.bx 3 k = yB b k from rfl] at c2 hl2
  have c3 := c_DecK (yB b k).1 (m := (yB b k).1.length) rfl (by omega) false
  have hl3 := kpD_len (l := false) (b := (yB b k).1) (by omega)
  rw [show kpD false (yB b k).1 = yP b k from rfl] at c3 hl3
  have c4 := c_crStoreB o1 o2 o3 l rfl (by omega) ⟨b1, b2, b3⟩ hc (yP b k).1.s1 (yP b k).1.s2 (yP b k).1.s3 (yP b k).1.k (yP b k).1.lf (yP b k).1.kv (yP b k).1.tm (yP b k).1.tk (m2 := (yP b k).1.tk.length) rfl (yP_sm b k (by omega))
  rw [show ccS o1 o2 o3 l ⟨(yP b k).1.s1, (yP b k).1.s2, (yP b k).1.s3, (yP b k).1.k, (yP b k).1.lf, (yP b k).1.kv, (yP b k).1.tm, (yP b k).1.tk⟩ = yS ⟨m1, m2, m3, ad, sk, li, o1, o2, o3, l, wt, w1, w2, w3, se, tm, lf, ck, tk⟩ b k from rfl] at c4
  have a0 := @yA_0 ⟨⟨m1, m2, m3, ad, sk, li, o1, o2, o3, l, wt, w1, w2, w3, se, tm, lf, ck, tk⟩, s1, s2, s3, k, b⟩
  have a1 := @yA_1 ⟨⟨m1, m2, m3, ad, sk, li, o1, o2, o3, l, wt, w1, w2, w3, se, tm, lf, ck, tk⟩, s1, s2, s3, k, b⟩
  have a2 := @yA_2 ⟨⟨m1, m2, m3, ad, sk, li, o1, o2, o3, l, wt, w1, w2, w3, se, tm, lf, ck, tk⟩, s1, s2, s3, k, b⟩
  have a3 := @yA_3 ⟨⟨m1, m2, m3, ad, sk, li, o1, o2, o3, l, wt, w1, w2, w3, se, tm, lf, ck, tk⟩, s1, s2, s3, k, b⟩
  have a4 := @yA_4 ⟨⟨m1, m2, m3, ad, sk, li, o1, o2, o3, l, wt, w1, w2, w3, se, tm, lf, ck, tk⟩, s1, s2, s3, k, b⟩
  have a5 := @yA_5 ⟨⟨m1, m2, m3, ad, sk, li, o1, o2, o3, l, wt, w1, w2, w3, se, tm, lf, ck, tk⟩, s1, s2, s3, k, b⟩
  have a6 := @yA_ok ⟨⟨m1, m2, m3, ad, sk, li, o1, o2, o3, l, wt, w1, w2, w3, se, tm, lf, ck, tk⟩, s1, s2, s3, k, b⟩
  dsimp only [cr0] at a0 a1 a2 a3 a4 a5
  dsimp only [clW, yCr] at a6
  generalize yA ⟨⟨m1, m2, m3, ad, sk, li, o1, o2, o3, l, wt, w1, w2, w3, se, tm, lf, ck, tk⟩, s1, s2, s3, k, b⟩ = R at *
  generalize clC ⟨m1, m2, m3, ad, sk, li, o1, o2, o3, l, wt, w1, w2, w3, se, tm, lf, ck, tk⟩ = CC at *
  generalize yS ⟨m1, m2, m3, ad, sk, li, o1, o2, o3, l, wt, w1, w2, w3, se, tm, lf, ck, tk⟩ b k = S at *
  generalize yP b k = P at *
  generalize yB b k = B at *
  generalize fmD b = M at *
  refine Fn_intro (G := g15) (goodA rfl) (fn := Tryz.f15) rfl rfl rfl rfl rfl ?_
  by_cases h0 : CC = 0
  case neg =>
    rw [a0 h0]
    clear a0 a1 a2 a3 a4 a5 a6
    (repeat' ((conv => whnf) <;> first | exact rfl | with_reducible refine boolK_dec (fun _ => ?_) (fun _ => ?_) <;> try (exfalso; omega) | refine boolK_beq (fun _ => ?_) (fun _ => ?_) <;> try (exfalso; first | omega | with_reducible contradiction) | refine boolK_bne (fun _ => ?_) (fun _ => ?_) <;> try (exfalso; first | omega | with_reducible contradiction) | (with_reducible first | refine boolK_not ?_ | refine boolK_and ?_ | refine boolK_or ?_ | refine boolK_true ?_ | refine boolK_false ?_) | refine boolK_intro (fun _ => ?_) (fun _ => ?_) <;> try (exfalso; simp_all; done) | with_reducible refine natK_lit ?_ | refine natK_of rfl ?_ | refine natK_any ?_ | refine callK_intro (c0) ?_ | refine jy ?_ | refine ju ?_ | refine jv ?_)) <;> (try (conv => whnf))
  by_cases h1 : M.2 = 0
  case neg =>
    rw [a1 h0 h1]
    clear a0 a1 a2 a3 a4 a5 a6
    (repeat' ((conv => whnf) <;> first | exact rfl | with_reducible refine boolK_dec (fun _ => ?_) (fun _ => ?_) <;> try (exfalso; omega) | refine boolK_beq (fun _ => ?_) (fun _ => ?_) <;> try (exfalso; first | omega | with_reducible contradiction) | refine boolK_bne (fun _ => ?_) (fun _ => ?_) <;> try (exfalso; first | omega | with_reducible contradiction) | (with_reducible first | refine boolK_not ?_ | refine boolK_and ?_ | refine boolK_or ?_ | refine boolK_true ?_ | refine boolK_false ?_) | refine boolK_intro (fun _ => ?_) (fun _ => ?_) <;> try (exfalso; simp_all; done) | with_reducible refine natK_lit ?_ | refine natK_of rfl ?_ | refine natK_any ?_ | refine callK_intro (c0) ?_ | refine callK_intro (c1) ?_ | refine jy ?_ | refine ju ?_ | refine jv ?_)) <;> (try (conv => whnf))
  by_cases h2 : M.1.op = 3 ∧ M.1.n1 = s1 ∧ M.1.n2 = s2 ∧ M.1.n3 = s3
  case neg =>
    rw [a2 h0 h1 h2]
    clear a0 a1 a2 a3 a4 a5 a6
    (repeat' ((conv => whnf) <;> first | exact rfl | with_reducible refine boolK_dec (fun _ => ?_) (fun _ => ?_) <;> try (exfalso; omega) | refine boolK_beq (fun _ => ?_) (fun _ => ?_) <;> try (exfalso; first | omega | with_reducible contradiction) | refine boolK_bne (fun _ => ?_) (fun _ => ?_) <;> try (exfalso; first | omega | with_reducible contradiction) | (with_reducible first | refine boolK_not ?_ | refine boolK_and ?_ | refine boolK_or ?_ | refine boolK_true ?_ | refine boolK_false ?_) | refine boolK_intro (fun _ => ?_) (fun _ => ?_) <;> try (exfalso; simp_all; done) | with_reducible refine natK_lit ?_ | refine natK_of rfl ?_ | refine natK_any ?_ | refine callK_intro (c0) ?_ | refine callK_intro (c1) ?_ | exact absurd ⟨by assumption, by assumption, by assumption, by assumption⟩ h2 | refine jy ?_ | refine ju ?_ | refine jv ?_)) <;> (try (conv => whnf))
  obtain ⟨h2a, h2b, h2c, h2d⟩ := id h2
  by_cases h3 : B.2 = true
  case neg =>
    rw [a3 h0 h1 h2 h3]
    clear a0 a1 a2 a3 a4 a5 a6
    (repeat' ((conv => whnf) <;> first | exact rfl | with_reducible refine boolK_dec (fun _ => ?_) (fun _ => ?_) <;> try (exfalso; omega) | refine boolK_beq (fun _ => ?_) (fun _ => ?_) <;> try (exfalso; first | omega | with_reducible contradiction) | refine boolK_bne (fun _ => ?_) (fun _ => ?_) <;> try (exfalso; first | omega | with_reducible contradiction) | (with_reducible first | refine boolK_not ?_ | refine boolK_and ?_ | refine boolK_or ?_ | refine boolK_true ?_ | refine boolK_false ?_) | refine boolK_intro (fun _ => ?_) (fun _ => ?_) <;> try (exfalso; simp_all; done) | with_reducible refine natK_lit ?_ | refine natK_of rfl ?_ | refine natK_any ?_ | refine callK_intro (c0) ?_ | refine callK_intro (c1) ?_ | refine callK_intro (c2) ?_ | refine jy ?_ | refine ju ?_ | refine jv ?_)) <;> (try (conv => whnf))
  by_cases h4 : P.2 = 0 ∧ (P.1.s1 = s1 ∧ P.1.s2 = s2 ∧ P.1.s3 = s3) ∧ P.1.k = k
  case neg =>
    rw [a4 h0 h1 h2 h3 h4]
    clear a0 a1 a2 a3 a4 a5 a6
    (repeat' ((conv => whnf) <;> first | exact rfl | with_reducible refine boolK_dec (fun _ => ?_) (fun _ => ?_) <;> try (exfalso; omega) | refine boolK_beq (fun _ => ?_) (fun _ => ?_) <;> try (exfalso; first | omega | with_reducible contradiction) | refine boolK_bne (fun _ => ?_) (fun _ => ?_) <;> try (exfalso; first | omega | with_reducible contradiction) | (with_reducible first | refine boolK_not ?_ | refine boolK_and ?_ | refine boolK_or ?_ | refine boolK_true ?_ | refine boolK_false ?_) | refine boolK_intro (fun _ => ?_) (fun _ => ?_) <;> try (exfalso; simp_all; done) | with_reducible refine natK_lit ?_ | refine natK_of rfl ?_ | refine natK_any ?_ | refine callK_intro (c0) ?_ | refine callK_intro (c1) ?_ | refine callK_intro (c2) ?_ | refine callK_intro (c3) ?_ | exact absurd ⟨by assumption, ⟨by assumption, by assumption, by assumption⟩, by assumption⟩ h4 | refine jy ?_ | refine ju ?_ | refine jv ?_)) <;> (try (conv => whnf))
  obtain ⟨h4a, ⟨h4b, h4c, h4d⟩, h4e⟩ := id h4
  by_cases h5 : S.2 = 0
  case neg =>
    rw [a5 h0 h1 h2 h3 h4 h5]
    clear a0 a1 a2 a3 a4 a5 a6
    (repeat' ((conv => whnf) <;> first | exact rfl | with_reducible refine boolK_dec (fun _ => ?_) (fun _ => ?_) <;> try (exfalso; omega) | refine boolK_beq (fun _ => ?_) (fun _ => ?_) <;> try (exfalso; first | omega | with_reducible contradiction) | refine boolK_bne (fun _ => ?_) (fun _ => ?_) <;> try (exfalso; first | omega | with_reducible contradiction) | (with_reducible first | refine boolK_not ?_ | refine boolK_and ?_ | refine boolK_or ?_ | refine boolK_true ?_ | refine boolK_false ?_) | refine boolK_intro (fun _ => ?_) (fun _ => ?_) <;> try (exfalso; simp_all; done) | with_reducible refine natK_lit ?_ | refine natK_of rfl ?_ | refine natK_any ?_ | refine callK_intro (c0) ?_ | refine callK_intro (c1) ?_ | refine callK_intro (c2) ?_ | refine callK_intro (c3) ?_ | refine callK_intro (c4) ?_ | refine jy ?_ | refine ju ?_ | refine jv ?_)) <;> (try (conv => whnf))
  rw [a6 h0 h1 h2 h3 h4 h5]
  clear a0 a1 a2 a3 a4 a5 a6
  (repeat' ((conv => whnf) <;> first | exact rfl | with_reducible refine boolK_dec (fun _ => ?_) (fun _ => ?_) <;> try (exfalso; omega) | refine boolK_beq (fun _ => ?_) (fun _ => ?_) <;> try (exfalso; first | omega | with_reducible contradiction) | refine boolK_bne (fun _ => ?_) (fun _ => ?_) <;> try (exfalso; first | omega | with_reducible contradiction) | (with_reducible first | refine boolK_not ?_ | refine boolK_and ?_ | refine boolK_or ?_ | refine boolK_true ?_ | refine boolK_false ?_) | refine boolK_intro (fun _ => ?_) (fun _ => ?_) <;> try (exfalso; simp_all; done) | with_reducible refine natK_lit ?_ | refine natK_of rfl ?_ | refine natK_any ?_ | refine callK_intro (c0) ?_ | refine callK_intro (c1) ?_ | refine callK_intro (c2) ?_ | refine callK_intro (c3) ?_ | refine callK_intro (c4) ?_ | refine jy ?_ | refine ju ?_ | refine jv ?_)) <;> (try (conv => whnf))
theorem c_rAccept26 (m1 m2 m3 : List UInt8) (ad sk : Int) (li : Bool) (o1 o2 o3 : List UInt8) (l : List CR) {m : Nat} (hm : m = l.length) (wt : Int) (w1 w2 w3 : List UInt8) (se tm lf ck tk : Int) (hs : clSm ⟨m1, m2, m3, ad, sk, li, o1, o2, o3, l, wt, w1, w2, w3, se, tm, lf, ck, tk⟩) (s1 s2 s3 : List UInt8) (k st en : Int) (rc : List UInt8) {n : Nat} (b : List UInt8) {q : Nat} (hq : q = b.length) (hb : b.length ≤ 90000) : Fn Tryz.prog 16 [.a [.s m1, .s m2, .s m3, .i .i64 ad, .i .i64 sk, .b li, .s o1, .s o2, .s o3, .sl (flat crR l) m, .i .i64 wt, .s w1, .s w2, .s w3, .i .u64 se, .i .i64 tm, .i .i64 lf, .i .i64 ck, .i .i64 tk], .a [.s s1, .s s2, .s s3, .i .u64 k, .i .i64 st, .i .i64 en, .sl (rc.map u8) n], .o (.sl (b.map u8) q)] [] (.tup [.c (.a [.s (yA ⟨⟨m1, m2, m3, ad, sk, li, o1, o2, o3, l, wt, w1, w2, w3, se, tm, lf, ck, tk⟩, s1, s2, s3, k, b⟩).1.1.m1, .s (yA ⟨⟨m1, m2, m3, ad, sk, li, o1, o2, o3, l, wt, w1, w2, w3, se, tm, lf, ck, tk⟩, s1, s2, s3, k, b⟩).1.1.m2, .s (yA ⟨⟨m1, m2, m3, ad, sk, li, o1, o2, o3, l, wt, w1, w2, w3, se, tm, lf, ck, tk⟩, s1, s2, s3, k, b⟩).1.1.m3, .i .i64 (yA ⟨⟨m1, m2, m3, ad, sk, li, o1, o2, o3, l, wt, w1, w2, w3, se, tm, lf, ck, tk⟩, s1, s2, s3, k, b⟩).1.1.ad, .i .i64 (yA ⟨⟨m1, m2, m3, ad, sk, li, o1, o2, o3, l, wt, w1, w2, w3, se, tm, lf, ck, tk⟩, s1, s2, s3, k, b⟩).1.1.sk, .b (yA ⟨⟨m1, m2, m3, ad, sk, li, o1, o2, o3, l, wt, w1, w2, w3, se, tm, lf, ck, tk⟩, s1, s2, s3, k, b⟩).1.1.li, .s (yA ⟨⟨m1, m2, m3, ad, sk, li, o1, o2, o3, l, wt, w1, w2, w3, se, tm, lf, ck, tk⟩, s1, s2, s3, k, b⟩).1.1.o1, .s (yA ⟨⟨m1, m2, m3, ad, sk, li, o1, o2, o3, l, wt, w1, w2, w3, se, tm, lf, ck, tk⟩, s1, s2, s3, k, b⟩).1.1.o2, .s (yA ⟨⟨m1, m2, m3, ad, sk, li, o1, o2, o3, l, wt, w1, w2, w3, se, tm, lf, ck, tk⟩, s1, s2, s3, k, b⟩).1.1.o3, .sl (flat crR (yA ⟨⟨m1, m2, m3, ad, sk, li, o1, o2, o3, l, wt, w1, w2, w3, se, tm, lf, ck, tk⟩, s1, s2, s3, k, b⟩).1.1.l) (yA ⟨⟨m1, m2, m3, ad, sk, li, o1, o2, o3, l, wt, w1, w2, w3, se, tm, lf, ck, tk⟩, s1, s2, s3, k, b⟩).1.1.l.length, .i .i64 (yA ⟨⟨m1, m2, m3, ad, sk, li, o1, o2, o3, l, wt, w1, w2, w3, se, tm, lf, ck, tk⟩, s1, s2, s3, k, b⟩).1.1.wt, .s (yA ⟨⟨m1, m2, m3, ad, sk, li, o1, o2, o3, l, wt, w1, w2, w3, se, tm, lf, ck, tk⟩, s1, s2, s3, k, b⟩).1.1.w1, .s (yA ⟨⟨m1, m2, m3, ad, sk, li, o1, o2, o3, l, wt, w1, w2, w3, se, tm, lf, ck, tk⟩, s1, s2, s3, k, b⟩).1.1.w2, .s (yA ⟨⟨m1, m2, m3, ad, sk, li, o1, o2, o3, l, wt, w1, w2, w3, se, tm, lf, ck, tk⟩, s1, s2, s3, k, b⟩).1.1.w3, .i .u64 (yA ⟨⟨m1, m2, m3, ad, sk, li, o1, o2, o3, l, wt, w1, w2, w3, se, tm, lf, ck, tk⟩, s1, s2, s3, k, b⟩).1.1.se, .i .i64 (yA ⟨⟨m1, m2, m3, ad, sk, li, o1, o2, o3, l, wt, w1, w2, w3, se, tm, lf, ck, tk⟩, s1, s2, s3, k, b⟩).1.1.tm, .i .i64 (yA ⟨⟨m1, m2, m3, ad, sk, li, o1, o2, o3, l, wt, w1, w2, w3, se, tm, lf, ck, tk⟩, s1, s2, s3, k, b⟩).1.1.lf, .i .i64 (yA ⟨⟨m1, m2, m3, ad, sk, li, o1, o2, o3, l, wt, w1, w2, w3, se, tm, lf, ck, tk⟩, s1, s2, s3, k, b⟩).1.1.ck, .i .i64 (yA ⟨⟨m1, m2, m3, ad, sk, li, o1, o2, o3, l, wt, w1, w2, w3, se, tm, lf, ck, tk⟩, s1, s2, s3, k, b⟩).1.1.tk]), .c (.a [.s (yA ⟨⟨m1, m2, m3, ad, sk, li, o1, o2, o3, l, wt, w1, w2, w3, se, tm, lf, ck, tk⟩, s1, s2, s3, k, b⟩).1.2.x, .s (yA ⟨⟨m1, m2, m3, ad, sk, li, o1, o2, o3, l, wt, w1, w2, w3, se, tm, lf, ck, tk⟩, s1, s2, s3, k, b⟩).1.2.y, .s (yA ⟨⟨m1, m2, m3, ad, sk, li, o1, o2, o3, l, wt, w1, w2, w3, se, tm, lf, ck, tk⟩, s1, s2, s3, k, b⟩).1.2.z, .i .u64 (yA ⟨⟨m1, m2, m3, ad, sk, li, o1, o2, o3, l, wt, w1, w2, w3, se, tm, lf, ck, tk⟩, s1, s2, s3, k, b⟩).1.2.k, .i .i64 (yA ⟨⟨m1, m2, m3, ad, sk, li, o1, o2, o3, l, wt, w1, w2, w3, se, tm, lf, ck, tk⟩, s1, s2, s3, k, b⟩).1.2.lf, .i .i64 (yA ⟨⟨m1, m2, m3, ad, sk, li, o1, o2, o3, l, wt, w1, w2, w3, se, tm, lf, ck, tk⟩, s1, s2, s3, k, b⟩).1.2.kv, .i .i64 (yA ⟨⟨m1, m2, m3, ad, sk, li, o1, o2, o3, l, wt, w1, w2, w3, se, tm, lf, ck, tk⟩, s1, s2, s3, k, b⟩).1.2.is, .sl ((yA ⟨⟨m1, m2, m3, ad, sk, li, o1, o2, o3, l, wt, w1, w2, w3, se, tm, lf, ck, tk⟩, s1, s2, s3, k, b⟩).1.2.t.map u8) (yA ⟨⟨m1, m2, m3, ad, sk, li, o1, o2, o3, l, wt, w1, w2, w3, se, tm, lf, ck, tk⟩, s1, s2, s3, k, b⟩).1.2.t.length]), .c (.o (.i .i64 (yA ⟨⟨m1, m2, m3, ad, sk, li, o1, o2, o3, l, wt, w1, w2, w3, se, tm, lf, ck, tk⟩, s1, s2, s3, k, b⟩).2))]) [] := by
  have c0 := c_rclCheck m1 m2 m3 ad sk li o1 o2 o3 l hm wt w1 w2 w3 se tm lf ck tk hs
  subst hm
  subst hq
  obtain ⟨_, ⟨b1, b2, b3⟩, hl, hc⟩ := hs
  dsimp only at b1 b2 b3 hl hc
  have c1 := c_rDecM b rfl hb
  have hl0 := fmD_len b
  have c2 := c_rboxOpen (fmD b).1.bx (m := (fmD b).1.bx.length) rfl (by omega) 3 k
  have hl2 := boxO_len (fmD b).1.bx 3 k
  rw [show boxO (fmD b).1.bx 3 k = yB b k from rfl] at c2 hl2
  have c3 := c_rDecK (yB b k).1 (m := (yB b k).1.length) rfl (by omega) false
  have hl3 := kpD_len (l := false) (b := (yB b k).1) (by omega)
  rw [show kpD false (yB b k).1 = yP b k from rfl] at c3 hl3
  have c4 := c_rcrStoreB o1 o2 o3 l rfl (by omega) ⟨b1, b2, b3⟩ hc (yP b k).1.s1 (yP b k).1.s2 (yP b k).1.s3 (yP b k).1.k (yP b k).1.lf (yP b k).1.kv (yP b k).1.tm (yP b k).1.tk (m2 := (yP b k).1.tk.length) rfl (yP_sm b k (by omega))
  rw [show ccS o1 o2 o3 l ⟨(yP b k).1.s1, (yP b k).1.s2, (yP b k).1.s3, (yP b k).1.k, (yP b k).1.lf, (yP b k).1.kv, (yP b k).1.tm, (yP b k).1.tk⟩ = yS ⟨m1, m2, m3, ad, sk, li, o1, o2, o3, l, wt, w1, w2, w3, se, tm, lf, ck, tk⟩ b k from rfl] at c4
  have a0 := @yA_0 ⟨⟨m1, m2, m3, ad, sk, li, o1, o2, o3, l, wt, w1, w2, w3, se, tm, lf, ck, tk⟩, s1, s2, s3, k, b⟩
  have a1 := @yA_1 ⟨⟨m1, m2, m3, ad, sk, li, o1, o2, o3, l, wt, w1, w2, w3, se, tm, lf, ck, tk⟩, s1, s2, s3, k, b⟩
  have a2 := @yA_2 ⟨⟨m1, m2, m3, ad, sk, li, o1, o2, o3, l, wt, w1, w2, w3, se, tm, lf, ck, tk⟩, s1, s2, s3, k, b⟩
  have a3 := @yA_3 ⟨⟨m1, m2, m3, ad, sk, li, o1, o2, o3, l, wt, w1, w2, w3, se, tm, lf, ck, tk⟩, s1, s2, s3, k, b⟩
  have a4 := @yA_4 ⟨⟨m1, m2, m3, ad, sk, li, o1, o2, o3, l, wt, w1, w2, w3, se, tm, lf, ck, tk⟩, s1, s2, s3, k, b⟩
  have a5 := @yA_5 ⟨⟨m1, m2, m3, ad, sk, li, o1, o2, o3, l, wt, w1, w2, w3, se, tm, lf, ck, tk⟩, s1, s2, s3, k, b⟩
  have a6 := @yA_ok ⟨⟨m1, m2, m3, ad, sk, li, o1, o2, o3, l, wt, w1, w2, w3, se, tm, lf, ck, tk⟩, s1, s2, s3, k, b⟩
  dsimp only [cr0] at a0 a1 a2 a3 a4 a5
  dsimp only [clW, yCr] at a6
  generalize yA ⟨⟨m1, m2, m3, ad, sk, li, o1, o2, o3, l, wt, w1, w2, w3, se, tm, lf, ck, tk⟩, s1, s2, s3, k, b⟩ = R at *
  generalize clC ⟨m1, m2, m3, ad, sk, li, o1, o2, o3, l, wt, w1, w2, w3, se, tm, lf, ck, tk⟩ = CC at *
  generalize yS ⟨m1, m2, m3, ad, sk, li, o1, o2, o3, l, wt, w1, w2, w3, se, tm, lf, ck, tk⟩ b k = S at *
  generalize yP b k = P at *
  generalize yB b k = B at *
  generalize fmD b = M at *
  refine Fn_intro (G := g16) (goodA rfl) (fn := Tryz.f16) rfl rfl rfl rfl rfl ?_
  by_cases h0 : CC = 0
  case neg =>
    rw [a0 h0]
    clear a0 a1 a2 a3 a4 a5 a6
    (repeat' ((conv => whnf) <;> first | exact rfl | with_reducible refine boolK_dec (fun _ => ?_) (fun _ => ?_) <;> try (exfalso; omega) | refine boolK_beq (fun _ => ?_) (fun _ => ?_) <;> try (exfalso; first | omega | with_reducible contradiction) | refine boolK_bne (fun _ => ?_) (fun _ => ?_) <;> try (exfalso; first | omega | with_reducible contradiction) | (with_reducible first | refine boolK_not ?_ | refine boolK_and ?_ | refine boolK_or ?_ | refine boolK_true ?_ | refine boolK_false ?_) | refine boolK_intro (fun _ => ?_) (fun _ => ?_) <;> try (exfalso; simp_all; done) | with_reducible refine natK_lit ?_ | refine natK_of rfl ?_ | refine natK_any ?_ | refine callK_intro (c0) ?_ | refine jy ?_ | refine ju ?_ | refine jv ?_)) <;> (try (conv => whnf))
  by_cases h1 : M.2 = 0
  case neg =>
    rw [a1 h0 h1]
    clear a0 a1 a2 a3 a4 a5 a6
    (repeat' ((conv => whnf) <;> first | exact rfl | with_reducible refine boolK_dec (fun _ => ?_) (fun _ => ?_) <;> try (exfalso; omega) | refine boolK_beq (fun _ => ?_) (fun _ => ?_) <;> try (exfalso; first | omega | with_reducible contradiction) | refine boolK_bne (fun _ => ?_) (fun _ => ?_) <;> try (exfalso; first | omega | with_reducible contradiction) | (with_reducible first | refine boolK_not ?_ | refine boolK_and ?_ | refine boolK_or ?_ | refine boolK_true ?_ | refine boolK_false ?_) | refine boolK_intro (fun _ => ?_) (fun _ => ?_) <;> try (exfalso; simp_all; done) | with_reducible refine natK_lit ?_ | refine natK_of rfl ?_ | refine natK_any ?_ | refine callK_intro (c0) ?_ | refine callK_intro (c1) ?_ | refine jy ?_ | refine ju ?_ | refine jv ?_)) <;> (try (conv => whnf))
  by_cases h2 : M.1.op = 3 ∧ M.1.n1 = s1 ∧ M.1.n2 = s2 ∧ M.1.n3 = s3
  case neg =>
    rw [a2 h0 h1 h2]
    clear a0 a1 a2 a3 a4 a5 a6
    (repeat' ((conv => whnf) <;> first | exact rfl | with_reducible refine boolK_dec (fun _ => ?_) (fun _ => ?_) <;> try (exfalso; omega) | refine boolK_beq (fun _ => ?_) (fun _ => ?_) <;> try (exfalso; first | omega | with_reducible contradiction) | refine boolK_bne (fun _ => ?_) (fun _ => ?_) <;> try (exfalso; first | omega | with_reducible contradiction) | (with_reducible first | refine boolK_not ?_ | refine boolK_and ?_ | refine boolK_or ?_ | refine boolK_true ?_ | refine boolK_false ?_) | refine boolK_intro (fun _ => ?_) (fun _ => ?_) <;> try (exfalso; simp_all; done) | with_reducible refine natK_lit ?_ | refine natK_of rfl ?_ | refine natK_any ?_ | refine callK_intro (c0) ?_ | refine callK_intro (c1) ?_ | exact absurd ⟨by assumption, by assumption, by assumption, by assumption⟩ h2 | refine jy ?_ | refine ju ?_ | refine jv ?_)) <;> (try (conv => whnf))
  obtain ⟨h2a, h2b, h2c, h2d⟩ := id h2
  by_cases h3 : B.2 = true
  case neg =>
    rw [a3 h0 h1 h2 h3]
    clear a0 a1 a2 a3 a4 a5 a6
    (repeat' ((conv => whnf) <;> first | exact rfl | with_reducible refine boolK_dec (fun _ => ?_) (fun _ => ?_) <;> try (exfalso; omega) | refine boolK_beq (fun _ => ?_) (fun _ => ?_) <;> try (exfalso; first | omega | with_reducible contradiction) | refine boolK_bne (fun _ => ?_) (fun _ => ?_) <;> try (exfalso; first | omega | with_reducible contradiction) | (with_reducible first | refine boolK_not ?_ | refine boolK_and ?_ | refine boolK_or ?_ | refine boolK_true ?_ | refine boolK_false ?_) | refine boolK_intro (fun _ => ?_) (fun _ => ?_) <;> try (exfalso; simp_all; done) | with_reducible refine natK_lit ?_ | refine natK_of rfl ?_ | refine natK_any ?_ | refine callK_intro (c0) ?_ | refine callK_intro (c1) ?_ | refine callK_intro (c2) ?_ | refine jy ?_ | refine ju ?_ | refine jv ?_)) <;> (try (conv => whnf))
  by_cases h4 : P.2 = 0 ∧ (P.1.s1 = s1 ∧ P.1.s2 = s2 ∧ P.1.s3 = s3) ∧ P.1.k = k
  case neg =>
    rw [a4 h0 h1 h2 h3 h4]
    clear a0 a1 a2 a3 a4 a5 a6
    (repeat' ((conv => whnf) <;> first | exact rfl | with_reducible refine boolK_dec (fun _ => ?_) (fun _ => ?_) <;> try (exfalso; omega) | refine boolK_beq (fun _ => ?_) (fun _ => ?_) <;> try (exfalso; first | omega | with_reducible contradiction) | refine boolK_bne (fun _ => ?_) (fun _ => ?_) <;> try (exfalso; first | omega | with_reducible contradiction) | (with_reducible first | refine boolK_not ?_ | refine boolK_and ?_ | refine boolK_or ?_ | refine boolK_true ?_ | refine boolK_false ?_) | refine boolK_intro (fun _ => ?_) (fun _ => ?_) <;> try (exfalso; simp_all; done) | with_reducible refine natK_lit ?_ | refine natK_of rfl ?_ | refine natK_any ?_ | refine callK_intro (c0) ?_ | refine callK_intro (c1) ?_ | refine callK_intro (c2) ?_ | refine callK_intro (c3) ?_ | exact absurd ⟨by assumption, ⟨by assumption, by assumption, by assumption⟩, by assumption⟩ h4 | refine jy ?_ | refine ju ?_ | refine jv ?_)) <;> (try (conv => whnf))
  obtain ⟨h4a, ⟨h4b, h4c, h4d⟩, h4e⟩ := id h4
  by_cases h5 : S.2 = 0
  case neg =>
    rw [a5 h0 h1 h2 h3 h4 h5]
    clear a0 a1 a2 a3 a4 a5 a6
    (repeat' ((conv => whnf) <;> first | exact rfl | with_reducible refine boolK_dec (fun _ => ?_) (fun _ => ?_) <;> try (exfalso; omega) | refine boolK_beq (fun _ => ?_) (fun _ => ?_) <;> try (exfalso; first | omega | with_reducible contradiction) | refine boolK_bne (fun _ => ?_) (fun _ => ?_) <;> try (exfalso; first | omega | with_reducible contradiction) | (with_reducible first | refine boolK_not ?_ | refine boolK_and ?_ | refine boolK_or ?_ | refine boolK_true ?_ | refine boolK_false ?_) | refine boolK_intro (fun _ => ?_) (fun _ => ?_) <;> try (exfalso; simp_all; done) | with_reducible refine natK_lit ?_ | refine natK_of rfl ?_ | refine natK_any ?_ | refine callK_intro (c0) ?_ | refine callK_intro (c1) ?_ | refine callK_intro (c2) ?_ | refine callK_intro (c3) ?_ | refine callK_intro (c4) ?_ | refine jy ?_ | refine ju ?_ | refine jv ?_)) <;> (try (conv => whnf))
  rw [a6 h0 h1 h2 h3 h4 h5]
  clear a0 a1 a2 a3 a4 a5 a6
  (repeat' ((conv => whnf) <;> first | exact rfl | with_reducible refine boolK_dec (fun _ => ?_) (fun _ => ?_) <;> try (exfalso; omega) | refine boolK_beq (fun _ => ?_) (fun _ => ?_) <;> try (exfalso; first | omega | with_reducible contradiction) | refine boolK_bne (fun _ => ?_) (fun _ => ?_) <;> try (exfalso; first | omega | with_reducible contradiction) | (with_reducible first | refine boolK_not ?_ | refine boolK_and ?_ | refine boolK_or ?_ | refine boolK_true ?_ | refine boolK_false ?_) | refine boolK_intro (fun _ => ?_) (fun _ => ?_) <;> try (exfalso; simp_all; done) | with_reducible refine natK_lit ?_ | refine natK_of rfl ?_ | refine natK_any ?_ | refine callK_intro (c0) ?_ | refine callK_intro (c1) ?_ | refine callK_intro (c2) ?_ | refine callK_intro (c3) ?_ | refine callK_intro (c4) ?_ | refine jy ?_ | refine ju ?_ | refine jv ?_)) <;> (try (conv => whnf))
theorem c_sameCl (m1 m2 m3 : List UInt8) (ad sk : Int) (li : Bool) (o1 o2 o3 : List UInt8) (l : List CR) {m n : Nat} (hm : m = l.length) (hn : n = l.length) (wt : Int) (w1 w2 w3 : List UInt8) (se tm lf ck tk : Int) (hl : l.length ≤ 1000000) : Fn Tryz.prog 17 [.a [.s m1, .s m2, .s m3, .i .i64 ad, .i .i64 sk, .b li, .s o1, .s o2, .s o3, .sl (flat crR l) m, .i .i64 wt, .s w1, .s w2, .s w3, .i .u64 se, .i .i64 tm, .i .i64 lf, .i .i64 ck, .i .i64 tk], .a [.s m1, .s m2, .s m3, .i .i64 ad, .i .i64 sk, .b li, .s o1, .s o2, .s o3, .sl (flat crR l) n, .i .i64 wt, .s w1, .s w2, .s w3, .i .u64 se, .i .i64 tm, .i .i64 lf, .i .i64 ck, .i .i64 tk]] [] (.one (.c (.o (.b true)))) [] := by
  have c1 := c_sameCc o1 o2 o3 l hm hn hl
  refine Fn_intro (G := g17) (goodA rfl) (fn := Tryz.f17) rfl rfl rfl rfl rfl ?_
  (repeat' ((conv => whnf) <;> first | with_reducible refine boolK_refl ?_ | exact rfl | with_reducible refine boolK_dec (fun _ => ?_) (fun _ => ?_) <;> try (exfalso; omega) | refine boolK_beq (fun _ => ?_) (fun _ => ?_) <;> try (exfalso; first | omega | with_reducible contradiction) | refine boolK_bne (fun _ => ?_) (fun _ => ?_) <;> try (exfalso; first | omega | with_reducible contradiction) | (with_reducible first | refine boolK_not ?_ | refine boolK_and ?_ | refine boolK_or ?_ | refine boolK_true ?_ | refine boolK_false ?_) | refine boolK_intro (fun _ => ?_) (fun _ => ?_) <;> try (exfalso; simp_all; done) | with_reducible refine natK_lit ?_ | refine natK_of rfl ?_ | refine natK_any ?_ | refine callK_intro (c1) ?_ | refine jy ?_ | refine ju ?_ | refine jv ?_)) <;> (try (conv => whnf))
end Go.Sx

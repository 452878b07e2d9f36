/-
  Contracts of the functions of package protect and of its reference.
-/
import Derived.Test.YtkphcbogdmblnaaPProt
import Derived.Test.YtkphcbogdmblnaaCFieldP
import Derived.Test.YtkphcbogdmblnaaCHeader
import Derived.Test.YtkphcbogdmblnaaCBox
set_option linter.all false
namespace Go.Sx
open Go.Proofs Go.RowKit
noncomputable def g73 : Par := par 12 (nthLL [[0, 1], [4]]) [4] (nthLL [])
noncomputable def g82 : Par := par 12 (nthLL [[0, 1], [4]]) [4] (nthLL [])
noncomputable def g52 : Par := par 60 (nthLL [[1, 2], [1, 2, 8], [4, 5], [1, 2, 13], [4, 5], [1, 2, 6], [1, 2, 6, 30], [1, 2, 6], [1, 2, 7], [1, 2, 7], [1, 2, 7], [1, 2, 7], [1, 2, 7], [7], [4, 5]]) [4, 5] (nthLL [])
noncomputable def g57 : Par := par 52 (nthLL [[1, 2], [1, 2, 10], [4, 5], [1, 2, 26], [4, 5], [1, 2, 6], [1, 2, 6], [1, 2, 6], [4, 5]]) [4, 5, 6] (nthLL [[], [], [], [], [], [0, 1, 0, 4, 12, 0, 63, 127], [], [0, 0, 2, 7, 0, 16, 0, 127, 255]])
noncomputable def g93 : Par := par 70 (nthLL [[0, 1, 4], [0, 1, 4, 6], [0, 1, 4, 6, 7, 8], [0, 1, 4, 6, 8], [0, 1, 4, 6, 8], [0, 1, 4, 6, 8], [0, 1, 4, 6], [0, 4, 6, 10, 11], [4, 6, 67], [4, 5], [4, 5]]) [4, 5] (nthLL [])
noncomputable def g70 : Par := par 55 (nthLL [[0, 1, 4], [0, 1, 4, 6], [0, 1, 4, 6], [0, 1, 4, 6, 7], [0, 1, 4, 6, 8], [0, 1, 4, 6, 8], [0, 1, 4, 6, 8], [0, 1, 4, 6, 8], [0, 4, 6, 8, 9, 10], [4, 8, 52], [4, 5], [4, 5]]) [4, 5] (nthLL [])
set_option maxRecDepth 10000
set_option maxHeartbeats 4000000
theorem c_withinQ (n m : Int) : Fn Try.prog 73 [.o (.i .i64 n), .o (.i .i64 m)] [] (.one (.c (.o (.b (decide (0 ≤ n ∧ n ≤ m)))))) [] := by
  refine Fn_intro (G := g73) (goodA rfl) (fn := Try.f73) rfl rfl rfl rfl rfl ?_
  (repeat' ((conv => whnf) <;> first | exact rfl | with_reducible refine boolK_dec (fun _ => ?_) (fun _ => ?_) <;> try (exfalso; omega) | refine boolK_beq (fun _ => ?_) (fun _ => ?_) <;> try (exfalso; first | omega | contradiction) | refine boolK_bne (fun _ => ?_) (fun _ => ?_) <;> try (exfalso; first | omega | contradiction) | (with_reducible first | refine boolK_not ?_ | refine boolK_and ?_ | refine boolK_or ?_ | refine boolK_true ?_ | refine boolK_false ?_) | refine boolK_intro (fun _ => ?_) (fun _ => ?_) <;> try (exfalso; simp_all; done) | with_reducible refine natK_lit ?_ | refine natK_of rfl ?_ | refine natK_any ?_ | refine jP ?_ | refine jQ ?_ | refine jR ?_ | refine jS ?_ | refine jT ?_ | refine jU (fun _ => ?_) | refine jV ?_ | refine jW ?_ | refine jX ?_ | refine jY ?_ | refine jZ ?_ | refine ja ?_ | refine jb ?_ | refine jc ?_ | refine jd ?_ | refine je ?_ | refine jf ?_ | refine jg ?_ | refine jh ?_ | refine ji ?_ | refine jj ?_ | refine jk ?_ | refine jn ?_ | refine jo ?_ | refine jp ?_ | refine jq ?_ | refine jr ?_ | refine js ?_ | refine jt ?_ | refine jx ?_ | refine jy ?_ | refine ju ?_ | refine sideK_intro (by first | (exact congrArg (fun x => [L.b x]) (decide_eq_decide.mpr (by omega))) | (exact congrArg (fun x => [L.b x]) (Eq.symm (decide_eq_true (by omega)))) | (exact congrArg (fun x => [L.b x]) (Eq.symm (decide_eq_false (by omega))))) ?_ | refine jv ?_)) <;> (try (conv => whnf))
theorem c_rwithinQ (n m : Int) : Fn Try.prog 82 [.o (.i .i64 n), .o (.i .i64 m)] [] (.one (.c (.o (.b (decide (0 ≤ n ∧ n ≤ m)))))) [] := by
  refine Fn_intro (G := g82) (goodA rfl) (fn := Try.f82) rfl rfl rfl rfl rfl ?_
  (repeat' ((conv => whnf) <;> first | exact rfl | with_reducible refine boolK_dec (fun _ => ?_) (fun _ => ?_) <;> try (exfalso; omega) | refine boolK_beq (fun _ => ?_) (fun _ => ?_) <;> try (exfalso; first | omega | contradiction) | refine boolK_bne (fun _ => ?_) (fun _ => ?_) <;> try (exfalso; first | omega | contradiction) | (with_reducible first | refine boolK_not ?_ | refine boolK_and ?_ | refine boolK_or ?_ | refine boolK_true ?_ | refine boolK_false ?_) | refine boolK_intro (fun _ => ?_) (fun _ => ?_) <;> try (exfalso; simp_all; done) | with_reducible refine natK_lit ?_ | refine natK_of rfl ?_ | refine natK_any ?_ | refine jP ?_ | refine jQ ?_ | refine jR ?_ | refine jS ?_ | refine jT ?_ | refine jU (fun _ => ?_) | refine jV ?_ | refine jW ?_ | refine jX ?_ | refine jY ?_ | refine jZ ?_ | refine ja ?_ | refine jb ?_ | refine jc ?_ | refine jd ?_ | refine je ?_ | refine jf ?_ | refine jg ?_ | refine jh ?_ | refine ji ?_ | refine jj ?_ | refine jk ?_ | refine jn ?_ | refine jo ?_ | refine jp ?_ | refine jq ?_ | refine jr ?_ | refine js ?_ | refine jt ?_ | refine jx ?_ | refine jy ?_ | refine ju ?_ | refine sideK_intro (by first | (exact congrArg (fun x => [L.b x]) (decide_eq_decide.mpr (by omega))) | (exact congrArg (fun x => [L.b x]) (Eq.symm (decide_eq_true (by omega)))) | (exact congrArg (fun x => [L.b x]) (Eq.symm (decide_eq_false (by omega))))) ?_ | refine jv ?_)) <;> (try (conv => whnf))
theorem c_EncodeP (l : Bool) (d : List UInt8) (tk ad tm : Int) (hd : 0 ≤ d.length) : Fn Try.prog 52 [.a [.sl (d.map u8) d.length, .i .i64 tk, .i .i64 ad, .i .i64 tm], .o (.b l)] [] (.tup [.fr ((prN l (d, tk, ad, tm)).1.map u8) (prN l (d, tk, ad, tm)).1.length 1, .c (.o (.i .i64 (prN l (d, tk, ad, tm)).2))]) [] := by
  refine Fn_intro (G := g52) (goodA rfl) (fn := Try.f52) rfl rfl rfl rfl rfl ?_
  by_cases h1 : d.length ≤ 500
  · by_cases h2 : (0 ≤ tk ∧ tk ≤ 199) ∧ (0 ≤ ad ∧ ad ≤ 4294967295) ∧ (0 ≤ tm ∧ tm ≤ 4294967295)
    · rw [prN_ok h1 h2]
      cases l
      · have q0 : ([] : List UInt8).length = 0 := rfl
        have p1 := c_PutOctet ([] : List UInt8) (m := 0) rfl (by omega) 0
        obtain ⟨pb1, pe1⟩ : ∃ z_, z_ = ([] : List UInt8) ++ numS false 1 0 := ⟨_, rfl⟩
        rw [← pe1] at p1
        have ph1 : ([] : List UInt8).length + 1 = pb1.length := by rw [pe1]; simp only [List.length_append, numS_len, List.length_cons, List.length_nil]
        have p2 := c_PutShort pb1 (m := ([] : List UInt8).length + 1) ph1 (by omega) (d.length : Int) false
        obtain ⟨pb2, pe2⟩ : ∃ z_, z_ = pb1 ++ numS false 2 (d.length : Int) := ⟨_, rfl⟩
        rw [← pe2] at p2
        have ph2 : pb1.length + 2 = pb2.length := by rw [pe2]; simp only [List.length_append, numS_len, List.length_cons, List.length_nil]
        have p3 := c_concat2 pb2 d (m := pb1.length + 2) (n := d.length) ph2 rfl (by omega)
        obtain ⟨pb3, pe3⟩ : ∃ z_, z_ = pb2 ++ d := ⟨_, rfl⟩
        rw [← pe3] at p3
        have ph3 : pb2.length + d.length = pb3.length := by rw [pe3]; simp only [List.length_append, numS_len, List.length_cons, List.length_nil]
        have p4 := c_PutOctet pb3 (m := pb2.length + d.length) ph3 (by omega) tk
        obtain ⟨pb4, pe4⟩ : ∃ z_, z_ = pb3 ++ numS false 1 tk := ⟨_, rfl⟩
        rw [← pe4] at p4
        have ph4 : pb3.length + 1 = pb4.length := by rw [pe4]; simp only [List.length_append, numS_len, List.length_cons, List.length_nil]
        have p5 := c_PutNumber pb4 (m := pb3.length + 1) ph4 (by omega) ad false
        obtain ⟨pb5, pe5⟩ : ∃ z_, z_ = pb4 ++ numS false 4 ad := ⟨_, rfl⟩
        rw [← pe5] at p5
        have ph5 : pb4.length + 4 = pb5.length := by rw [pe5]; simp only [List.length_append, numS_len, List.length_cons, List.length_nil]
        have p6 := c_PutNumber pb5 (m := pb4.length + 4) ph5 (by omega) tm false
        obtain ⟨pb6, pe6⟩ : ∃ z_, z_ = pb5 ++ numS false 4 tm := ⟨_, rfl⟩
        rw [← pe6] at p6
        have ph6 : pb5.length + 4 = pb6.length := by rw [pe6]; simp only [List.length_append, numS_len, List.length_cons, List.length_nil]
        have pp := c_Pad pb6 (m := pb5.length + 4) ph6 (by omega)
        have fin : prE false d tk ad tm = padS pb6 := by rw [prE, pe6, pe5, pe4, pe3, pe2, pe1]; rfl
        rw [fin]
        clear fin pe6 pe5 pe4 pe3 pe2 pe1
        (repeat' ((conv => whnf) <;> first | exact rfl | with_reducible refine boolK_dec (fun _ => ?_) (fun _ => ?_) <;> try (exfalso; omega) | refine boolK_beq (fun _ => ?_) (fun _ => ?_) <;> try (exfalso; first | omega | contradiction) | refine boolK_bne (fun _ => ?_) (fun _ => ?_) <;> try (exfalso; first | omega | contradiction) | (with_reducible first | refine boolK_not ?_ | refine boolK_and ?_ | refine boolK_or ?_ | refine boolK_true ?_ | refine boolK_false ?_) | refine boolK_intro (fun _ => ?_) (fun _ => ?_) <;> try (exfalso; simp_all; done) | with_reducible refine natK_lit ?_ | refine natK_of rfl ?_ | refine natK_any ?_ | refine jP ?_ | refine jQ ?_ | refine jR ?_ | refine jS ?_ | refine jT ?_ | refine jU (fun _ => ?_) | refine jV ?_ | refine jW ?_ | refine jX ?_ | refine jY ?_ | refine jZ ?_ | refine ja ?_ | refine jb ?_ | refine jc ?_ | refine jd ?_ | refine je ?_ | refine jf ?_ | refine jg ?_ | refine jh ?_ | refine ji ?_ | refine jj ?_ | refine jk ?_ | refine jn ?_ | refine jo ?_ | refine jp ?_ | refine jq ?_ | refine jr ?_ | refine js ?_ | refine callK_intro (c_withinQ _ _) ?_ | refine callK_intro (p1) ?_ | refine callK_intro (p2) ?_ | refine callK_intro (p3) ?_ | refine callK_intro (p4) ?_ | refine callK_intro (p5) ?_ | refine callK_intro (p6) ?_ | refine callK_intro (pp) ?_ | refine jt ?_ | refine jx ?_ | refine jy ?_ | refine ju ?_ | refine sideK_intro (by first | (exact ⟨rfl, rfl, rfl⟩)) ?_ | refine jv ?_)) <;> (try (conv => whnf))
      · have q0 : ([] : List UInt8).length = 0 := rfl
        have p1 := c_PutOctet ([] : List UInt8) (m := 0) rfl (by omega) 1
        obtain ⟨pb1, pe1⟩ : ∃ z_, z_ = ([] : List UInt8) ++ numS false 1 1 := ⟨_, rfl⟩
        rw [← pe1] at p1
        have ph1 : ([] : List UInt8).length + 1 = pb1.length := by rw [pe1]; simp only [List.length_append, numS_len, List.length_cons, List.length_nil]
        have p2 := c_PutShort pb1 (m := ([] : List UInt8).length + 1) ph1 (by omega) (d.length : Int) true
        obtain ⟨pb2, pe2⟩ : ∃ z_, z_ = pb1 ++ numS true 2 (d.length : Int) := ⟨_, rfl⟩
        rw [← pe2] at p2
        have ph2 : pb1.length + 2 = pb2.length := by rw [pe2]; simp only [List.length_append, numS_len, List.length_cons, List.length_nil]
        have p3 := c_concat2 pb2 d (m := pb1.length + 2) (n := d.length) ph2 rfl (by omega)
        obtain ⟨pb3, pe3⟩ : ∃ z_, z_ = pb2 ++ d := ⟨_, rfl⟩
        rw [← pe3] at p3
        have ph3 : pb2.length + d.length = pb3.length := by rw [pe3]; simp only [List.length_append, numS_len, List.length_cons, List.length_nil]
        have p4 := c_PutOctet pb3 (m := pb2.length + d.length) ph3 (by omega) tk
        obtain ⟨pb4, pe4⟩ : ∃ z_, z_ = pb3 ++ numS false 1 tk := ⟨_, rfl⟩
        rw [← pe4] at p4
        have ph4 : pb3.length + 1 = pb4.length := by rw [pe4]; simp only [List.length_append, numS_len, List.length_cons, List.length_nil]
        have p5 := c_PutNumber pb4 (m := pb3.length + 1) ph4 (by omega) ad true
        obtain ⟨pb5, pe5⟩ : ∃ z_, z_ = pb4 ++ numS true 4 ad := ⟨_, rfl⟩
        rw [← pe5] at p5
        have ph5 : pb4.length + 4 = pb5.length := by rw [pe5]; simp only [List.length_append, numS_len, List.length_cons, List.length_nil]
        have p6 := c_PutNumber pb5 (m := pb4.length + 4) ph5 (by omega) tm true
        obtain ⟨pb6, pe6⟩ : ∃ z_, z_ = pb5 ++ numS true 4 tm := ⟨_, rfl⟩
        rw [← pe6] at p6
        have ph6 : pb5.length + 4 = pb6.length := by rw [pe6]; simp only [List.length_append, numS_len, List.length_cons, List.length_nil]
        have pp := c_Pad pb6 (m := pb5.length + 4) ph6 (by omega)
        have fin : prE true d tk ad tm = padS pb6 := by rw [prE, pe6, pe5, pe4, pe3, pe2, pe1]; rfl
        rw [fin]
        clear fin pe6 pe5 pe4 pe3 pe2 pe1
        (repeat' ((conv => whnf) <;> first | exact rfl | with_reducible refine boolK_dec (fun _ => ?_) (fun _ => ?_) <;> try (exfalso; omega) | refine boolK_beq (fun _ => ?_) (fun _ => ?_) <;> try (exfalso; first | omega | contradiction) | refine boolK_bne (fun _ => ?_) (fun _ => ?_) <;> try (exfalso; first | omega | contradiction) | (with_reducible first | refine boolK_not ?_ | refine boolK_and ?_ | refine boolK_or ?_ | refine boolK_true ?_ | refine boolK_false ?_) | refine boolK_intro (fun _ => ?_) (fun _ => ?_) <;> try (exfalso; simp_all; done) | with_reducible refine natK_lit ?_ | refine natK_of rfl ?_ | refine natK_any ?_ | refine jP ?_ | refine jQ ?_ | refine jR ?_ | refine jS ?_ | refine jT ?_ | refine jU (fun _ => ?_) | refine jV ?_ | refine jW ?_ | refine jX ?_ | refine jY ?_ | refine jZ ?_ | refine ja ?_ | refine jb ?_ | refine jc ?_ | refine jd ?_ | refine je ?_ | refine jf ?_ | refine jg ?_ | refine jh ?_ | refine ji ?_ | refine jj ?_ | refine jk ?_ | refine jn ?_ | refine jo ?_ | refine jp ?_ | refine jq ?_ | refine jr ?_ | refine js ?_ | refine callK_intro (c_withinQ _ _) ?_ | refine callK_intro (p1) ?_ | refine callK_intro (p2) ?_ | refine callK_intro (p3) ?_ | refine callK_intro (p4) ?_ | refine callK_intro (p5) ?_ | refine callK_intro (p6) ?_ | refine callK_intro (pp) ?_ | refine jt ?_ | refine jx ?_ | refine jy ?_ | refine ju ?_ | refine sideK_intro (by first | (exact ⟨rfl, rfl, rfl⟩)) ?_ | refine jv ?_)) <;> (try (conv => whnf))
    · rw [prN_4 h1 h2]
      (repeat' ((conv => whnf) <;> first | exact rfl | with_reducible refine boolK_dec (fun _ => ?_) (fun _ => ?_) <;> try (exfalso; omega) | refine boolK_beq (fun _ => ?_) (fun _ => ?_) <;> try (exfalso; first | omega | contradiction) | refine boolK_bne (fun _ => ?_) (fun _ => ?_) <;> try (exfalso; first | omega | contradiction) | (with_reducible first | refine boolK_not ?_ | refine boolK_and ?_ | refine boolK_or ?_ | refine boolK_true ?_ | refine boolK_false ?_) | refine boolK_intro (fun _ => ?_) (fun _ => ?_) <;> try (exfalso; simp_all; done) | with_reducible refine natK_lit ?_ | refine natK_of rfl ?_ | refine natK_any ?_ | refine jP ?_ | refine jQ ?_ | refine jR ?_ | refine jS ?_ | refine jT ?_ | refine jU (fun _ => ?_) | refine jV ?_ | refine jW ?_ | refine jX ?_ | refine jY ?_ | refine jZ ?_ | refine ja ?_ | refine jb ?_ | refine jc ?_ | refine jd ?_ | refine je ?_ | refine jf ?_ | refine jg ?_ | refine jh ?_ | refine ji ?_ | refine jj ?_ | refine jk ?_ | refine jn ?_ | refine jo ?_ | refine jp ?_ | refine jq ?_ | refine jr ?_ | refine js ?_ | refine callK_intro (c_withinQ _ _) ?_ | refine jt ?_ | refine jx ?_ | refine jy ?_ | refine ju ?_ | refine jv ?_)) <;> (try (conv => whnf))
  · rw [prN_5 h1]
    (repeat' ((conv => whnf) <;> first | exact rfl | with_reducible refine boolK_dec (fun _ => ?_) (fun _ => ?_) <;> try (exfalso; omega) | refine boolK_beq (fun _ => ?_) (fun _ => ?_) <;> try (exfalso; first | omega | contradiction) | refine boolK_bne (fun _ => ?_) (fun _ => ?_) <;> try (exfalso; first | omega | contradiction) | (with_reducible first | refine boolK_not ?_ | refine boolK_and ?_ | refine boolK_or ?_ | refine boolK_true ?_ | refine boolK_false ?_) | refine boolK_intro (fun _ => ?_) (fun _ => ?_) <;> try (exfalso; simp_all; done) | with_reducible refine natK_lit ?_ | refine natK_of rfl ?_ | refine natK_any ?_ | refine jP ?_ | refine jQ ?_ | refine jR ?_ | refine jS ?_ | refine jT ?_ | refine jU (fun _ => ?_) | refine jV ?_ | refine jW ?_ | refine jX ?_ | refine jY ?_ | refine jZ ?_ | refine ja ?_ | refine jb ?_ | refine jc ?_ | refine jd ?_ | refine je ?_ | refine jf ?_ | refine jg ?_ | refine jh ?_ | refine ji ?_ | refine jj ?_ | refine jk ?_ | refine jn ?_ | refine jo ?_ | refine jp ?_ | refine jq ?_ | refine jr ?_ | refine js ?_ | refine jt ?_ | refine jx ?_ | refine jy ?_ | refine ju ?_ | refine jv ?_)) <;> (try (conv => whnf))
theorem c_rEncodeP (l : Bool) (d : List UInt8) (tk ad tm : Int) (hd : 0 ≤ d.length) : Fn Try.prog 57 [.a [.sl (d.map u8) d.length, .i .i64 tk, .i .i64 ad, .i .i64 tm], .o (.b l)] [] (.tup [.fr ((prN l (d, tk, ad, tm)).1.map u8) (prN l (d, tk, ad, tm)).1.length 1, .c (.o (.i .i64 (prN l (d, tk, ad, tm)).2))]) [] := by
  refine Fn_intro (G := g57) (goodA rfl) (fn := Try.f57) rfl rfl rfl rfl rfl ?_
  by_cases h1 : d.length ≤ 500
  · by_cases h2 : (0 ≤ tk ∧ tk ≤ 199) ∧ (0 ≤ ad ∧ ad ≤ 4294967295) ∧ (0 ≤ tm ∧ tm ≤ 4294967295)
    · rw [prN_ok h1 h2]
      have p0 := c_rPutOrder [] (m := 0) rfl (by decide) l
      obtain ⟨B0, e0⟩ : ∃ x, x = ([] : List UInt8) ++ numS false 1 (ordN l) := ⟨_, rfl⟩
      rw [← e0] at p0
      have h0 : ([] : List UInt8).length + 1 = B0.length := by rw [e0]; simp only [List.length_append, numS_len, List.length_nil]
      have q0 : ([] : List UInt8).length = 0 := rfl
      have p1 := c_rPutShort B0 (m := ([] : List UInt8).length + 1) h0 (by omega) (d.length : Int) l
      obtain ⟨pb1, pe1⟩ : ∃ z_, z_ = B0 ++ numS l 2 (d.length : Int) := ⟨_, rfl⟩
      rw [← pe1] at p1
      have ph1 : B0.length + 2 = pb1.length := by rw [pe1]; simp only [List.length_append, numS_len, List.length_cons, List.length_nil]
      obtain ⟨B1, e1⟩ : ∃ x, x = pb1 ++ d := ⟨_, rfl⟩
      have h1' : B0.length + 2 + d.length = B1.length := by rw [e1]; simp only [List.length_append]; omega
      have s1 := c_rPutOctet B1 (m := B0.length + 2 + d.length) h1' (by omega) tk
      obtain ⟨sb1, se1⟩ : ∃ z_, z_ = B1 ++ numS false 1 tk := ⟨_, rfl⟩
      rw [← se1] at s1
      have sh1 : B1.length + 1 = sb1.length := by rw [se1]; simp only [List.length_append, numS_len, List.length_cons, List.length_nil]
      have s2 := c_rPutNumber sb1 (m := B1.length + 1) sh1 (by omega) ad l
      obtain ⟨sb2, se2⟩ : ∃ z_, z_ = sb1 ++ numS l 4 ad := ⟨_, rfl⟩
      rw [← se2] at s2
      have sh2 : sb1.length + 4 = sb2.length := by rw [se2]; simp only [List.length_append, numS_len, List.length_cons, List.length_nil]
      have s3 := c_rPutNumber sb2 (m := sb1.length + 4) sh2 (by omega) tm l
      obtain ⟨sb3, se3⟩ : ∃ z_, z_ = sb2 ++ numS l 4 tm := ⟨_, rfl⟩
      rw [← se3] at s3
      have sh3 : sb2.length + 4 = sb3.length := by rw [se3]; simp only [List.length_append, numS_len, List.length_cons, List.length_nil]
      have pp := c_rPad sb3 (m := sb2.length + 4) sh3 (by omega)
      have fin : prE l d tk ad tm = padS sb3 := by rw [prE, se3, se2, se1, e1, pe1, e0]; rfl
      rw [fin]
      clear fin se3 se2 se1
      rw [e1] at s1 s2
      (repeat' ((conv => whnf) <;> first | exact rfl | with_reducible refine boolK_dec (fun _ => ?_) (fun _ => ?_) <;> try (exfalso; omega) | refine boolK_beq (fun _ => ?_) (fun _ => ?_) <;> try (exfalso; first | omega | contradiction) | refine boolK_bne (fun _ => ?_) (fun _ => ?_) <;> try (exfalso; first | omega | contradiction) | (with_reducible first | refine boolK_not ?_ | refine boolK_and ?_ | refine boolK_or ?_ | refine boolK_true ?_ | refine boolK_false ?_) | refine boolK_intro (fun _ => ?_) (fun _ => ?_) <;> try (exfalso; simp_all; done) | with_reducible refine natK_lit ?_ | refine natK_of rfl ?_ | refine natK_any ?_ | refine jP ?_ | refine jQ ?_ | refine jR ?_ | refine jS ?_ | refine jT ?_ | refine jU (fun _ => ?_) | refine jV ?_ | refine jW ?_ | refine jX ?_ | refine jY ?_ | refine jZ ?_ | refine ja ?_ | refine jb ?_ | refine jc ?_ | refine jd ?_ | refine je ?_ | refine jf ?_ | refine jg ?_ | refine jh ?_ | refine ji ?_ | refine jj ?_ | refine jk ?_ | refine jn ?_ | refine jo ?_ | refine jp ?_ | refine jq ?_ | refine jr ?_ | refine js ?_ | refine callK_intro (c_rwithinQ _ _) ?_ | refine callK_intro (p0) ?_ | refine callK_intro (p1) ?_ | refine callK_intro (s1) ?_ | refine callK_intro (s2) ?_ | refine callK_intro (s3) ?_ | refine callK_intro (pp) ?_ | refine jt ?_ | refine jx ?_ | refine jy ?_ | refine ju ?_ | refine sideK_intro (by first | (exact ⟨rfl, rfl, rfl⟩)) ?_ | refine jv ?_)) <;> (try (conv => whnf))
    · rw [prN_4 h1 h2]
      (repeat' ((conv => whnf) <;> first | exact rfl | with_reducible refine boolK_dec (fun _ => ?_) (fun _ => ?_) <;> try (exfalso; omega) | refine boolK_beq (fun _ => ?_) (fun _ => ?_) <;> try (exfalso; first | omega | contradiction) | refine boolK_bne (fun _ => ?_) (fun _ => ?_) <;> try (exfalso; first | omega | contradiction) | (with_reducible first | refine boolK_not ?_ | refine boolK_and ?_ | refine boolK_or ?_ | refine boolK_true ?_ | refine boolK_false ?_) | refine boolK_intro (fun _ => ?_) (fun _ => ?_) <;> try (exfalso; simp_all; done) | with_reducible refine natK_lit ?_ | refine natK_of rfl ?_ | refine natK_any ?_ | refine jP ?_ | refine jQ ?_ | refine jR ?_ | refine jS ?_ | refine jT ?_ | refine jU (fun _ => ?_) | refine jV ?_ | refine jW ?_ | refine jX ?_ | refine jY ?_ | refine jZ ?_ | refine ja ?_ | refine jb ?_ | refine jc ?_ | refine jd ?_ | refine je ?_ | refine jf ?_ | refine jg ?_ | refine jh ?_ | refine ji ?_ | refine jj ?_ | refine jk ?_ | refine jn ?_ | refine jo ?_ | refine jp ?_ | refine jq ?_ | refine jr ?_ | refine js ?_ | refine callK_intro (c_rwithinQ _ _) ?_ | refine jt ?_ | refine jx ?_ | refine jy ?_ | refine ju ?_ | refine jv ?_)) <;> (try (conv => whnf))
  · rw [prN_5 h1]
    (repeat' ((conv => whnf) <;> first | exact rfl | with_reducible refine boolK_dec (fun _ => ?_) (fun _ => ?_) <;> try (exfalso; omega) | refine boolK_beq (fun _ => ?_) (fun _ => ?_) <;> try (exfalso; first | omega | contradiction) | refine boolK_bne (fun _ => ?_) (fun _ => ?_) <;> try (exfalso; first | omega | contradiction) | (with_reducible first | refine boolK_not ?_ | refine boolK_and ?_ | refine boolK_or ?_ | refine boolK_true ?_ | refine boolK_false ?_) | refine boolK_intro (fun _ => ?_) (fun _ => ?_) <;> try (exfalso; simp_all; done) | with_reducible refine natK_lit ?_ | refine natK_of rfl ?_ | refine natK_any ?_ | refine jP ?_ | refine jQ ?_ | refine jR ?_ | refine jS ?_ | refine jT ?_ | refine jU (fun _ => ?_) | refine jV ?_ | refine jW ?_ | refine jX ?_ | refine jY ?_ | refine jZ ?_ | refine ja ?_ | refine jb ?_ | refine jc ?_ | refine jd ?_ | refine je ?_ | refine jf ?_ | refine jg ?_ | refine jh ?_ | refine ji ?_ | refine jj ?_ | refine jk ?_ | refine jn ?_ | refine jo ?_ | refine jp ?_ | refine jq ?_ | refine jr ?_ | refine js ?_ | refine jt ?_ | refine jx ?_ | refine jy ?_ | refine ju ?_ | refine jv ?_)) <;> (try (conv => whnf))
theorem c_DecodeP (b : List UInt8) {m : Nat} (hm : m = b.length) (hb : b.length ≤ 90000) (l : Bool) : Fn Try.prog 93 [.o (.sl (b.map u8) m), .o (.b l)] [] (.tup [.c (.a [.sl ((prD l b).1.1.map u8) (prD l b).1.1.length, .i .i64 (prD l b).1.2.1, .i .i64 (prD l b).1.2.2.1, .i .i64 (prD l b).1.2.2.2]), .c (.o (.i .i64 (prD l b).2))]) [] := by
  have c0 := c_Short b hm (by omega) 1 (by omega) l
  have n0 := get_next l 2 b 1
  rw [show getS l 2 b 1 = pru0 l b from rfl] at c0 n0
  have c1 := c_Bytes b hm (by omega) (pru0 l b).2.1 (pru0 l b).1 (by omega)
  have n1 := bytes_next b (pru0 l b).2.1 (pru0 l b).1
  have l1 := bytesS_le b (pru0 l b).2.1 (pru0 l b).1
  rw [show bytesS b (pru0 l b).2.1 (pru0 l b).1 = pru1 l b from rfl] at c1 n1 l1
  have c2 := c_Octet b hm (by omega) (pru1 l b).2.1 (by omega)
  have n2 := get_next false 1 b (pru1 l b).2.1
  rw [show getS false 1 b (pru1 l b).2.1 = pru2 l b from rfl] at c2 n2
  have c3 := c_Number b hm (by omega) (pru2 l b).2.1 (by omega) l
  have n3 := get_next l 4 b (pru2 l b).2.1
  rw [show getS l 4 b (pru2 l b).2.1 = pru3 l b from rfl] at c3 n3
  have c4 := c_Number b hm (by omega) (pru3 l b).2.1 (by omega) l
  have n4 := get_next l 4 b (pru3 l b).2.1
  rw [show getS l 4 b (pru3 l b).2.1 = pru4 l b from rfl] at c4 n4
  have dy := @prD_yes l b
  have dn := @prD_no l b
  rw [pr0] at dn
  rw [prRd] at dy dn
  have cE := c_EncodeP l (pru1 l b).1 (pru2 l b).1 (pru3 l b).1 (pru4 l b).1 (by omega)
  generalize prD l b = R at *
  generalize prN l ((pru1 l b).1, (pru2 l b).1, (pru3 l b).1, (pru4 l b).1) = E at *
  generalize pru4 l b = U4 at *
  generalize pru3 l b = U3 at *
  generalize pru2 l b = U2 at *
  generalize pru1 l b = U1 at *
  generalize pru0 l b = U0 at *
  refine Fn_intro (G := g93) (goodA rfl) (fn := Try.f93) rfl rfl rfl rfl rfl ?_
  (repeat' ((conv => whnf) <;> first | exact rfl | with_reducible refine boolK_dec (fun _ => ?_) (fun _ => ?_) <;> try (exfalso; omega) | refine boolK_beq (fun _ => ?_) (fun _ => ?_) <;> try (exfalso; first | omega | contradiction) | refine boolK_bne (fun _ => ?_) (fun _ => ?_) <;> try (exfalso; first | omega | contradiction) | (with_reducible first | refine boolK_not ?_ | refine boolK_and ?_ | refine boolK_or ?_ | refine boolK_true ?_ | refine boolK_false ?_) | refine boolK_intro (fun _ => ?_) (fun _ => ?_) <;> try (exfalso; simp_all; done) | with_reducible refine natK_lit ?_ | refine natK_of rfl ?_ | refine natK_any ?_ | refine jP ?_ | refine jQ ?_ | refine jR ?_ | refine jS ?_ | refine jT ?_ | refine jU (fun _ => ?_) | refine jV ?_ | refine jW ?_ | refine jX ?_ | refine jY ?_ | refine jZ ?_ | refine ja ?_ | refine jb ?_ | refine jc ?_ | refine jd ?_ | refine je ?_ | refine jf ?_ | refine jg ?_ | refine jh ?_ | refine ji ?_ | refine jj ?_ | refine jk ?_ | refine jn ?_ | refine jo ?_ | refine jp ?_ | refine jq ?_ | refine jr ?_ | refine js ?_ | refine callK_intro (c0) ?_ | refine callK_intro (c1) ?_ | refine callK_intro (c2) ?_ | refine callK_intro (c3) ?_ | refine callK_intro (c4) ?_ | refine callK_intro (cE) ?_ | refine callK_intro (c_Equal _ _ rfl hm) ?_ | refine jt ?_ | refine jx ?_ | refine jy ?_ | refine ju ?_ | refine sideK_intro (by first | (rw [dn (.inl (by assumption))] <;> first | rfl | exact ⟨rfl, rfl⟩ | exact ⟨rfl, rfl, rfl⟩) | (rw [dn (.inr (by assumption))] <;> first | rfl | exact ⟨rfl, rfl⟩ | exact ⟨rfl, rfl, rfl⟩) | (rw [dy (by assumption) (by assumption)] <;> first | rfl | exact ⟨rfl, rfl⟩ | exact ⟨rfl, rfl, rfl⟩)) ?_ | refine jv ?_)) <;> (try (conv => whnf))
theorem c_rDecodeP (b : List UInt8) {m : Nat} (hm : m = b.length) (hb : b.length ≤ 90000) (l : Bool) : Fn Try.prog 70 [.o (.sl (b.map u8) m), .o (.b l)] [] (.tup [.c (.a [.sl ((prD l b).1.1.map u8) (prD l b).1.1.length, .i .i64 (prD l b).1.2.1, .i .i64 (prD l b).1.2.2.1, .i .i64 (prD l b).1.2.2.2]), .c (.o (.i .i64 (prD l b).2))]) [] := by
  have g0 := oct0S_bounds b
  have r' : Fn Try.prog 96 [.o (.p 1000 0)] [(1000, .st [.sl (b.map u8) m, .i .i64 0, .b l, .b false])] (.one (.c (.o (.i .i64 (getS false 1 b 0).1)))) [(1000, .st [.sl (b.map u8) m, .i .i64 (oct0S b).1, .b l, .b (oct0S b).2])] := c_rdOctet b hm (by omega) 0 (by omega) l false
  obtain ⟨g1, g2, g3, g4, g5⟩ := prs_bounds l b g0
  have r0 : Fn Try.prog 47 [.o (.p 1000 0)] [(1000, .st [.sl (b.map u8) m, .i .i64 (oct0S b).1, .b l, .b (oct0S b).2])] (.one (.c (.o (.i .i64 (prw0 l b).1)))) [(1000, .st [.sl (b.map u8) m, .i .i64 (prs1 l b).1, .b l, .b (prs1 l b).2])] := c_rdShort b hm (by omega) (oct0S b).1 (by omega) l (oct0S b).2
  have r1 : Fn Try.prog 48 [.o (.p 1000 0), .o (.i .i64 (prw0 l b).1)] [(1000, .st [.sl (b.map u8) m, .i .i64 (prs1 l b).1, .b l, .b (prs1 l b).2])] (.one (.fr ((prw1 l b).1.map u8) (prw1 l b).1.length 1)) [(1000, .st [.sl (b.map u8) m, .i .i64 (prs2 l b).1, .b l, .b (prs2 l b).2])] := c_rdBytes b hm (by omega) (prs1 l b).1 (prw0 l b).1 (by omega) l (prs1 l b).2
  have t1 := bytesS_le b (prs1 l b).1 (prw0 l b).1
  rw [show bytesS b (prs1 l b).1 (prw0 l b).1 = prw1 l b from rfl] at t1
  have r2 : Fn Try.prog 96 [.o (.p 1000 0)] [(1000, .st [.sl (b.map u8) m, .i .i64 (prs2 l b).1, .b l, .b (prs2 l b).2])] (.one (.c (.o (.i .i64 (prw2 l b).1)))) [(1000, .st [.sl (b.map u8) m, .i .i64 (prs3 l b).1, .b l, .b (prs3 l b).2])] := c_rdOctet b hm (by omega) (prs2 l b).1 (by omega) l (prs2 l b).2
  have r3 : Fn Try.prog 97 [.o (.p 1000 0)] [(1000, .st [.sl (b.map u8) m, .i .i64 (prs3 l b).1, .b l, .b (prs3 l b).2])] (.one (.c (.o (.i .i64 (prw3 l b).1)))) [(1000, .st [.sl (b.map u8) m, .i .i64 (prs4 l b).1, .b l, .b (prs4 l b).2])] := c_rdNumber b hm (by omega) (prs3 l b).1 (by omega) l (prs3 l b).2
  have r4 : Fn Try.prog 97 [.o (.p 1000 0)] [(1000, .st [.sl (b.map u8) m, .i .i64 (prs4 l b).1, .b l, .b (prs4 l b).2])] (.one (.c (.o (.i .i64 (prw4 l b).1)))) [(1000, .st [.sl (b.map u8) m, .i .i64 (prs5 l b).1, .b l, .b (prs5 l b).2])] := c_rdNumber b hm (by omega) (prs4 l b).1 (by omega) l (prs4 l b).2
  have dr := @prD_ref l b
  have db := @prD_bad l b
  rw [pr0] at db
  rw [prRw] at dr db
  have cE := c_rEncodeP l (prw1 l b).1 (prw2 l b).1 (prw3 l b).1 (prw4 l b).1 (by omega)
  clear g0 g1 g2 g3 g4 g5
  generalize prD l b = R at *
  generalize prN l ((prw1 l b).1, (prw2 l b).1, (prw3 l b).1, (prw4 l b).1) = E at *
  generalize prw4 l b = W4 at *
  generalize prw3 l b = W3 at *
  generalize prw2 l b = W2 at *
  generalize prw1 l b = W1 at *
  generalize prw0 l b = W0 at *
  generalize prs5 l b = S5 at *
  generalize prs4 l b = S4 at *
  generalize prs3 l b = S3 at *
  generalize prs2 l b = S2 at *
  generalize prs1 l b = S1 at *
  generalize oct0S b = S0 at *
  generalize getS false 1 b 0 = Z0 at *
  refine Fn_intro (G := g70) (goodA rfl) (fn := Try.f70) rfl rfl rfl rfl rfl ?_
  (repeat' ((conv => whnf) <;> first | exact rfl | with_reducible refine boolK_dec (fun _ => ?_) (fun _ => ?_) <;> try (exfalso; omega) | refine boolK_beq (fun _ => ?_) (fun _ => ?_) <;> try (exfalso; first | omega | contradiction) | refine boolK_bne (fun _ => ?_) (fun _ => ?_) <;> try (exfalso; first | omega | contradiction) | (with_reducible first | refine boolK_not ?_ | refine boolK_and ?_ | refine boolK_or ?_ | refine boolK_true ?_ | refine boolK_false ?_) | refine boolK_intro (fun _ => ?_) (fun _ => ?_) <;> try (exfalso; simp_all; done) | refine jC ?_ | refine jD ?_ | refine jE ?_ | refine jF ?_ | refine jG ?_ | with_reducible refine natK_lit ?_ | refine natK_of rfl ?_ | refine natK_any ?_ | refine jP ?_ | refine jQ ?_ | refine jR ?_ | refine jS ?_ | refine jT ?_ | refine jU (fun _ => ?_) | refine jV ?_ | refine jW ?_ | refine jX ?_ | refine jY ?_ | refine jZ ?_ | refine ja ?_ | refine jb ?_ | refine jc ?_ | refine jd ?_ | refine je ?_ | refine jf ?_ | refine jg ?_ | refine jh ?_ | refine ji ?_ | refine jj ?_ | refine jk ?_ | refine jn ?_ | refine jo ?_ | refine jp ?_ | refine jq ?_ | refine jr ?_ | refine js ?_ | refine callK_intro (r') ?_ | refine callK_intro (r0) ?_ | refine callK_intro (r1) ?_ | refine callK_intro (r2) ?_ | refine callK_intro (r3) ?_ | refine callK_intro (r4) ?_ | refine callK_intro (cE) ?_ | refine jt ?_ | refine jx ?_ | refine jy ?_ | refine ju ?_ | refine sideK_intro (by first | (rw [db (.inl (by assumption))] <;> first | rfl | exact ⟨rfl, rfl⟩ | exact ⟨rfl, rfl, rfl⟩) | (rw [db (.inr (.inl (by assumption)))] <;> first | rfl | exact ⟨rfl, rfl⟩ | exact ⟨rfl, rfl, rfl⟩) | (rw [db (.inr (.inr (by assumption)))] <;> first | rfl | exact ⟨rfl, rfl⟩ | exact ⟨rfl, rfl, rfl⟩) | (rw [dr (by assumption) (by assumption)] <;> first | rfl | exact ⟨rfl, rfl⟩ | exact ⟨rfl, rfl, rfl⟩)) ?_ | refine jv ?_)) <;> (try (conv => whnf))
end Go.Sx

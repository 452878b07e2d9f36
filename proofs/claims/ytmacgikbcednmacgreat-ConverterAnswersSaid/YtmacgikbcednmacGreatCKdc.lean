/-
  Contracts of the encoders of parts of replies, of package kdcmessage and of its reference.
-/
import Derived.Test.YtmacgikbcednmacGreatPX2
import Derived.Test.YtmacgikbcednmacGreatCKey
import Derived.Test.YtmacgikbcednmacGreatCFieldP
set_option linter.all false
namespace Go.Sx
open Go.Proofs Go.RowKit
noncomputable def g118 : Par := par 12 (nthLL [[0, 1], [4]]) [4] (nthLL [])
noncomputable def g82 : Par := par 12 (nthLL [[0, 1], [4]]) [4] (nthLL [])
noncomputable def g67 : Par := par 78 (nthLL [[1, 2], [1, 2, 8], [4, 5], [1, 2, 13], [4, 5], [1, 2, 18], [4, 5], [1, 2, 35], [4, 5], [1, 2, 6], [1, 2, 6, 40], [1, 2, 6], [1, 2, 7], [1, 2, 7], [1, 2, 7], [1, 2, 7], [1, 2, 7], [1, 2, 7], [1, 2, 7], [7], [4, 5]]) [4, 5] (nthLL [])
noncomputable def g38 : Par := par 65 (nthLL [[1, 2], [1, 2, 10], [4, 5], [1, 2, 14], [4, 5], [1, 2, 30], [4, 5], [1, 2, 34], [4, 5], [1, 2, 6], [1, 2, 6], [1, 2, 6], [4, 5]]) [4, 5, 6] (nthLL [[], [], [], [], [], [], [], [], [], [0, 1, 0, 4, 15, 31, 63], [], [0, 0, 2, 7, 0, 16, 63, 0, 128, 384, 1023, 2047], [0, 0, 2, 7, 0, 16, 0, 127, 255, 511, 1023]])
set_option maxRecDepth 10000
set_option maxHeartbeats 4000000
theorem c_withinK (n m : Int) : Fn Tryz.prog 118 [.o (.i .i64 n), .o (.i .i64 m)] [] (.one (.c (.o (.b (decide (0 ≤ n ∧ n ≤ m)))))) [] := by
  refine Fn_intro (G := g118) (goodA rfl) (fn := Tryz.f118) rfl rfl rfl rfl rfl ?_
  (repeat' ((conv => whnf) <;> first | exact rfl | with_reducible refine boolK_dec (fun _ => ?_) (fun _ => ?_) <;> try (exfalso; omega) | refine boolK_beq (fun _ => ?_) (fun _ => ?_) <;> try (exfalso; first | omega | with_reducible contradiction) | refine boolK_bne (fun _ => ?_) (fun _ => ?_) <;> try (exfalso; first | omega | with_reducible contradiction) | (with_reducible first | refine boolK_not ?_ | refine boolK_and ?_ | refine boolK_or ?_ | refine boolK_true ?_ | refine boolK_false ?_) | refine boolK_intro (fun _ => ?_) (fun _ => ?_) <;> try (exfalso; simp_all; done) | with_reducible refine natK_lit ?_ | refine natK_of rfl ?_ | refine natK_any ?_ | refine jy ?_ | refine ju ?_ | refine sideK_intro (by first | (exact congrArg (fun x => [L.b x]) (decide_eq_decide.mpr (by omega))) | (exact congrArg (fun x => [L.b x]) (Eq.symm (decide_eq_true (by omega)))) | (exact congrArg (fun x => [L.b x]) (Eq.symm (decide_eq_false (by omega))))) ?_ | refine jv ?_)) <;> (try (conv => whnf))
theorem c_rwithinK (n m : Int) : Fn Tryz.prog 82 [.o (.i .i64 n), .o (.i .i64 m)] [] (.one (.c (.o (.b (decide (0 ≤ n ∧ n ≤ m)))))) [] := by
  refine Fn_intro (G := g82) (goodA rfl) (fn := Tryz.f82) rfl rfl rfl rfl rfl ?_
  (repeat' ((conv => whnf) <;> first | exact rfl | with_reducible refine boolK_dec (fun _ => ?_) (fun _ => ?_) <;> try (exfalso; omega) | refine boolK_beq (fun _ => ?_) (fun _ => ?_) <;> try (exfalso; first | omega | with_reducible contradiction) | refine boolK_bne (fun _ => ?_) (fun _ => ?_) <;> try (exfalso; first | omega | with_reducible contradiction) | (with_reducible first | refine boolK_not ?_ | refine boolK_and ?_ | refine boolK_or ?_ | refine boolK_true ?_ | refine boolK_false ?_) | refine boolK_intro (fun _ => ?_) (fun _ => ?_) <;> try (exfalso; simp_all; done) | with_reducible refine natK_lit ?_ | refine natK_of rfl ?_ | refine natK_any ?_ | refine jy ?_ | refine ju ?_ | refine sideK_intro (by first | (exact congrArg (fun x => [L.b x]) (decide_eq_decide.mpr (by omega))) | (exact congrArg (fun x => [L.b x]) (Eq.symm (decide_eq_true (by omega)))) | (exact congrArg (fun x => [L.b x]) (Eq.symm (decide_eq_false (by omega))))) ?_ | refine jv ?_)) <;> (try (conv => whnf))
theorem c_EncK (l : Bool) (k : Int) (s1 s2 s3 : List UInt8) (lf kv : Int) (tk : List UInt8) (tm : Int) {m : Nat} (hm : m = tk.length) (hl : s1.length ≤ 100000 ∧ s2.length ≤ 100000 ∧ s3.length ≤ 100000 ∧ tk.length ≤ 100000) (hk : 0 ≤ k ∧ k ≤ 18446744073709551615) : Fn Tryz.prog 67 [.a [.i .u64 k, .s s1, .s s2, .s s3, .i .i64 lf, .i .i64 kv, .sl (tk.map u8) m, .i .i64 tm], .o (.b l)] [] (.tup [.fr ((kpN l ⟨k, s1, s2, s3, lf, kv, tk, tm⟩).1.map u8) (kpN l ⟨k, s1, s2, s3, lf, kv, tk, tm⟩).1.length 1, .c (.o (.i .i64 (kpN l ⟨k, s1, s2, s3, lf, kv, tk, tm⟩).2))]) [] := by
  subst hm
  have v2 := c_Valid s1 s2 s3 (by omega) (by omega) (by omega)
  have v3 := c_keyValid k hk
  have v4 := c_keyBytes k hk
  have n0 := @kpN_10 l ⟨k, s1, s2, s3, lf, kv, tk, tm⟩
  have n1 := @kpN_103 l ⟨k, s1, s2, s3, lf, kv, tk, tm⟩
  have n2 := @kpN_104 l ⟨k, s1, s2, s3, lf, kv, tk, tm⟩
  have n4 := @kpN_105 l ⟨k, s1, s2, s3, lf, kv, tk, tm⟩
  have n3 := @kpN_ok l ⟨k, s1, s2, s3, lf, kv, tk, tm⟩
  dsimp only [kpR] at n0 n1 n2 n3 n4
  have hB := kpB_len l ⟨k, s1, s2, s3, lf, kv, tk, tm⟩
  dsimp only at hB
  generalize kpN l ⟨k, s1, s2, s3, lf, kv, tk, tm⟩ = N at *
  generalize keyOk k = C at *
  generalize validS s1 s2 s3 = A2 at *
  refine Fn_intro (G := g67) (goodA rfl) (fn := Tryz.f67) rfl rfl rfl rfl rfl ?_
  cases C
  · rw [n0 (by simp)]
    (repeat' ((conv => whnf) <;> first | exact rfl | with_reducible refine boolK_dec (fun _ => ?_) (fun _ => ?_) <;> try (exfalso; omega) | refine boolK_beq (fun _ => ?_) (fun _ => ?_) <;> try (exfalso; first | omega | with_reducible contradiction) | refine boolK_bne (fun _ => ?_) (fun _ => ?_) <;> try (exfalso; first | omega | with_reducible contradiction) | (with_reducible first | refine boolK_not ?_ | refine boolK_and ?_ | refine boolK_or ?_ | refine boolK_true ?_ | refine boolK_false ?_) | refine boolK_intro (fun _ => ?_) (fun _ => ?_) <;> try (exfalso; simp_all; done) | with_reducible refine natK_lit ?_ | refine natK_of rfl ?_ | refine natK_any ?_ | refine je ?_ | refine jf ?_ | refine jg ?_ | refine jh ?_ | refine ji ?_ | refine jj ?_ | refine jk ?_ | refine jn ?_ | refine callK_intro (v3) ?_ | refine callK_intro (v2) ?_ | refine jy ?_ | refine ju ?_ | refine jv ?_)) <;> (try (conv => whnf))
  cases A2
  · rw [n1 rfl (by simp)]
    (repeat' ((conv => whnf) <;> first | exact rfl | with_reducible refine boolK_dec (fun _ => ?_) (fun _ => ?_) <;> try (exfalso; omega) | refine boolK_beq (fun _ => ?_) (fun _ => ?_) <;> try (exfalso; first | omega | with_reducible contradiction) | refine boolK_bne (fun _ => ?_) (fun _ => ?_) <;> try (exfalso; first | omega | with_reducible contradiction) | (with_reducible first | refine boolK_not ?_ | refine boolK_and ?_ | refine boolK_or ?_ | refine boolK_true ?_ | refine boolK_false ?_) | refine boolK_intro (fun _ => ?_) (fun _ => ?_) <;> try (exfalso; simp_all; done) | with_reducible refine natK_lit ?_ | refine natK_of rfl ?_ | refine natK_any ?_ | refine je ?_ | refine jf ?_ | refine jg ?_ | refine jh ?_ | refine ji ?_ | refine jj ?_ | refine jk ?_ | refine jn ?_ | refine callK_intro (v3) ?_ | refine callK_intro (v2) ?_ | refine jy ?_ | refine ju ?_ | refine jv ?_)) <;> (try (conv => whnf))
  by_cases h2 : (0 ≤ lf ∧ lf ≤ 255) ∧ (0 ≤ kv ∧ kv ≤ 255) ∧ (0 ≤ tm ∧ tm ≤ 4294967295)
  · by_cases h3 : tk.length ≤ 255
    · rw [n3 rfl rfl h2 h3]
      clear n0 n1 n2 n3 n4
      cases l
      · have q0 : ([] : List UInt8).length = 0 := rfl
        have q1 : (keyB k).length = 8 := rfl
        have p1 := c_PutOctet ([] : List UInt8) (m := 0) rfl (by omega) 0
        obtain ⟨pb1, pe1⟩ : ∃ z_, z_ = ([] : List UInt8) ++ numS false 1 0 := ⟨_, rfl⟩
        rw [← pe1] at p1
        have ph1 : ([] : List UInt8).length + 1 = pb1.length := by rw [pe1]; simp only [List.length_append, numS_len, List.length_cons, List.length_nil]
        have p2 := c_concat2 pb1 (keyB k) (m := ([] : List UInt8).length + 1) (n := 8) ph1 rfl (by omega)
        obtain ⟨pb2, pe2⟩ : ∃ z_, z_ = pb1 ++ (keyB k) := ⟨_, rfl⟩
        rw [← pe2] at p2
        have ph2 : pb1.length + (keyB k).length = pb2.length := by rw [pe2]; simp only [List.length_append, numS_len, List.length_cons, List.length_nil]
        have p3 := c_PutPrincipal pb2 (m := pb1.length + (keyB k).length) ph2 s1 s2 s3 (by omega)
        obtain ⟨pb3, pe3⟩ : ∃ z_, z_ = pb2 ++ s1 ++ [0] ++ s2 ++ [0] ++ s3 ++ [0] := ⟨_, rfl⟩
        rw [← pe3] at p3
        have ph3 : pb2.length + s1.length + 1 + s2.length + 1 + s3.length + 1 = pb3.length := by rw [pe3]; simp only [List.length_append, numS_len, List.length_cons, List.length_nil]; try omega
        have p4 := c_PutOctet pb3 (m := pb2.length + s1.length + 1 + s2.length + 1 + s3.length + 1) ph3 (by omega) lf
        obtain ⟨pb4, pe4⟩ : ∃ z_, z_ = pb3 ++ numS false 1 lf := ⟨_, rfl⟩
        rw [← pe4] at p4
        have ph4 : pb3.length + 1 = pb4.length := by rw [pe4]; simp only [List.length_append, numS_len, List.length_cons, List.length_nil]
        have p5 := c_PutOctet pb4 (m := pb3.length + 1) ph4 (by omega) kv
        obtain ⟨pb5, pe5⟩ : ∃ z_, z_ = pb4 ++ numS false 1 kv := ⟨_, rfl⟩
        rw [← pe5] at p5
        have ph5 : pb4.length + 1 = pb5.length := by rw [pe5]; simp only [List.length_append, numS_len, List.length_cons, List.length_nil]
        have p6 := c_PutOctet pb5 (m := pb4.length + 1) ph5 (by omega) (tk.length : Int)
        obtain ⟨pb6, pe6⟩ : ∃ z_, z_ = pb5 ++ numS false 1 (tk.length : Int) := ⟨_, rfl⟩
        rw [← pe6] at p6
        have ph6 : pb5.length + 1 = pb6.length := by rw [pe6]; simp only [List.length_append, numS_len, List.length_cons, List.length_nil]
        have p7 := c_concat2 pb6 tk (m := pb5.length + 1) (n := tk.length) ph6 rfl (by omega)
        obtain ⟨pb7, pe7⟩ : ∃ z_, z_ = pb6 ++ tk := ⟨_, rfl⟩
        rw [← pe7] at p7
        have ph7 : pb6.length + tk.length = pb7.length := by rw [pe7]; simp only [List.length_append, numS_len, List.length_cons, List.length_nil]
        have p8 := c_PutNumber pb7 (m := pb6.length + tk.length) ph7 (by omega) tm false
        obtain ⟨pb8, pe8⟩ : ∃ z_, z_ = pb7 ++ numS false 4 tm := ⟨_, rfl⟩
        rw [← pe8] at p8
        have ph8 : pb7.length + 4 = pb8.length := by rw [pe8]; simp only [List.length_append, numS_len, List.length_cons, List.length_nil]
        have pp := c_Pad pb8 (m := pb7.length + 4) ph8 (by omega)
        have fin : kpB false ⟨k, s1, s2, s3, lf, kv, tk, tm⟩ = pb8 := by rw [pe8, pe7, pe6, pe5, pe4, pe3, pe2, pe1]; rfl
        rw [fin]
        rw [fin] at hB
        clear fin pe8 pe7 pe6 pe5 pe4 pe3 pe2 pe1
        (repeat' ((conv => whnf) <;> first | exact rfl | with_reducible refine boolK_dec (fun _ => ?_) (fun _ => ?_) <;> try (exfalso; omega) | refine boolK_beq (fun _ => ?_) (fun _ => ?_) <;> try (exfalso; first | omega | with_reducible contradiction) | refine boolK_bne (fun _ => ?_) (fun _ => ?_) <;> try (exfalso; first | omega | with_reducible contradiction) | (with_reducible first | refine boolK_not ?_ | refine boolK_and ?_ | refine boolK_or ?_ | refine boolK_true ?_ | refine boolK_false ?_) | refine boolK_intro (fun _ => ?_) (fun _ => ?_) <;> try (exfalso; simp_all; done) | with_reducible refine natK_lit ?_ | refine natK_of rfl ?_ | refine natK_any ?_ | refine je ?_ | refine jf ?_ | refine jg ?_ | refine jh ?_ | refine ji ?_ | refine jj ?_ | refine jk ?_ | refine jn ?_ | refine callK_intro (v3) ?_ | refine callK_intro (v2) ?_ | refine callK_intro (v4) ?_ | refine callK_intro (c_withinK _ _) ?_ | refine callK_intro (p1) ?_ | refine callK_intro (p2) ?_ | refine callK_intro (p3) ?_ | refine callK_intro (p4) ?_ | refine callK_intro (p5) ?_ | refine callK_intro (p6) ?_ | refine callK_intro (p7) ?_ | refine callK_intro (p8) ?_ | refine callK_intro (pp) ?_ | refine jy ?_ | refine ju ?_ | refine sideK_intro (by first | (exact ⟨rfl, rfl, rfl⟩)) ?_ | refine jv ?_)) <;> (try (conv => whnf))
      · have q0 : ([] : List UInt8).length = 0 := rfl
        have q1 : (keyB k).length = 8 := rfl
        have p1 := c_PutOctet ([] : List UInt8) (m := 0) rfl (by omega) 1
        obtain ⟨pb1, pe1⟩ : ∃ z_, z_ = ([] : List UInt8) ++ numS false 1 1 := ⟨_, rfl⟩
        rw [← pe1] at p1
        have ph1 : ([] : List UInt8).length + 1 = pb1.length := by rw [pe1]; simp only [List.length_append, numS_len, List.length_cons, List.length_nil]
        have p2 := c_concat2 pb1 (keyB k) (m := ([] : List UInt8).length + 1) (n := 8) ph1 rfl (by omega)
        obtain ⟨pb2, pe2⟩ : ∃ z_, z_ = pb1 ++ (keyB k) := ⟨_, rfl⟩
        rw [← pe2] at p2
        have ph2 : pb1.length + (keyB k).length = pb2.length := by rw [pe2]; simp only [List.length_append, numS_len, List.length_cons, List.length_nil]
        have p3 := c_PutPrincipal pb2 (m := pb1.length + (keyB k).length) ph2 s1 s2 s3 (by omega)
        obtain ⟨pb3, pe3⟩ : ∃ z_, z_ = pb2 ++ s1 ++ [0] ++ s2 ++ [0] ++ s3 ++ [0] := ⟨_, rfl⟩
        rw [← pe3] at p3
        have ph3 : pb2.length + s1.length + 1 + s2.length + 1 + s3.length + 1 = pb3.length := by rw [pe3]; simp only [List.length_append, numS_len, List.length_cons, List.length_nil]; try omega
        have p4 := c_PutOctet pb3 (m := pb2.length + s1.length + 1 + s2.length + 1 + s3.length + 1) ph3 (by omega) lf
        obtain ⟨pb4, pe4⟩ : ∃ z_, z_ = pb3 ++ numS false 1 lf := ⟨_, rfl⟩
        rw [← pe4] at p4
        have ph4 : pb3.length + 1 = pb4.length := by rw [pe4]; simp only [List.length_append, numS_len, List.length_cons, List.length_nil]
        have p5 := c_PutOctet pb4 (m := pb3.length + 1) ph4 (by omega) kv
        obtain ⟨pb5, pe5⟩ : ∃ z_, z_ = pb4 ++ numS false 1 kv := ⟨_, rfl⟩
        rw [← pe5] at p5
        have ph5 : pb4.length + 1 = pb5.length := by rw [pe5]; simp only [List.length_append, numS_len, List.length_cons, List.length_nil]
        have p6 := c_PutOctet pb5 (m := pb4.length + 1) ph5 (by omega) (tk.length : Int)
        obtain ⟨pb6, pe6⟩ : ∃ z_, z_ = pb5 ++ numS false 1 (tk.length : Int) := ⟨_, rfl⟩
        rw [← pe6] at p6
        have ph6 : pb5.length + 1 = pb6.length := by rw [pe6]; simp only [List.length_append, numS_len, List.length_cons, List.length_nil]
        have p7 := c_concat2 pb6 tk (m := pb5.length + 1) (n := tk.length) ph6 rfl (by omega)
        obtain ⟨pb7, pe7⟩ : ∃ z_, z_ = pb6 ++ tk := ⟨_, rfl⟩
        rw [← pe7] at p7
        have ph7 : pb6.length + tk.length = pb7.length := by rw [pe7]; simp only [List.length_append, numS_len, List.length_cons, List.length_nil]
        have p8 := c_PutNumber pb7 (m := pb6.length + tk.length) ph7 (by omega) tm true
        obtain ⟨pb8, pe8⟩ : ∃ z_, z_ = pb7 ++ numS true 4 tm := ⟨_, rfl⟩
        rw [← pe8] at p8
        have ph8 : pb7.length + 4 = pb8.length := by rw [pe8]; simp only [List.length_append, numS_len, List.length_cons, List.length_nil]
        have pp := c_Pad pb8 (m := pb7.length + 4) ph8 (by omega)
        have fin : kpB true ⟨k, s1, s2, s3, lf, kv, tk, tm⟩ = pb8 := by rw [pe8, pe7, pe6, pe5, pe4, pe3, pe2, pe1]; rfl
        rw [fin]
        rw [fin] at hB
        clear fin pe8 pe7 pe6 pe5 pe4 pe3 pe2 pe1
        (repeat' ((conv => whnf) <;> first | exact rfl | with_reducible refine boolK_dec (fun _ => ?_) (fun _ => ?_) <;> try (exfalso; omega) | refine boolK_beq (fun _ => ?_) (fun _ => ?_) <;> try (exfalso; first | omega | with_reducible contradiction) | refine boolK_bne (fun _ => ?_) (fun _ => ?_) <;> try (exfalso; first | omega | with_reducible contradiction) | (with_reducible first | refine boolK_not ?_ | refine boolK_and ?_ | refine boolK_or ?_ | refine boolK_true ?_ | refine boolK_false ?_) | refine boolK_intro (fun _ => ?_) (fun _ => ?_) <;> try (exfalso; simp_all; done) | with_reducible refine natK_lit ?_ | refine natK_of rfl ?_ | refine natK_any ?_ | refine je ?_ | refine jf ?_ | refine jg ?_ | refine jh ?_ | refine ji ?_ | refine jj ?_ | refine jk ?_ | refine jn ?_ | refine callK_intro (v3) ?_ | refine callK_intro (v2) ?_ | refine callK_intro (v4) ?_ | refine callK_intro (c_withinK _ _) ?_ | refine callK_intro (p1) ?_ | refine callK_intro (p2) ?_ | refine callK_intro (p3) ?_ | refine callK_intro (p4) ?_ | refine callK_intro (p5) ?_ | refine callK_intro (p6) ?_ | refine callK_intro (p7) ?_ | refine callK_intro (p8) ?_ | refine callK_intro (pp) ?_ | refine jy ?_ | refine ju ?_ | refine sideK_intro (by first | (exact ⟨rfl, rfl, rfl⟩)) ?_ | refine jv ?_)) <;> (try (conv => whnf))
    · rw [n4 rfl rfl h2 h3]
      (repeat' ((conv => whnf) <;> first | exact rfl | with_reducible refine boolK_dec (fun _ => ?_) (fun _ => ?_) <;> try (exfalso; omega) | refine boolK_beq (fun _ => ?_) (fun _ => ?_) <;> try (exfalso; first | omega | with_reducible contradiction) | refine boolK_bne (fun _ => ?_) (fun _ => ?_) <;> try (exfalso; first | omega | with_reducible contradiction) | (with_reducible first | refine boolK_not ?_ | refine boolK_and ?_ | refine boolK_or ?_ | refine boolK_true ?_ | refine boolK_false ?_) | refine boolK_intro (fun _ => ?_) (fun _ => ?_) <;> try (exfalso; simp_all; done) | with_reducible refine natK_lit ?_ | refine natK_of rfl ?_ | refine natK_any ?_ | refine je ?_ | refine jf ?_ | refine jg ?_ | refine jh ?_ | refine ji ?_ | refine jj ?_ | refine jk ?_ | refine jn ?_ | refine callK_intro (v3) ?_ | refine callK_intro (v2) ?_ | refine callK_intro (c_withinK _ _) ?_ | refine jy ?_ | refine ju ?_ | refine jv ?_)) <;> (try (conv => whnf))
  · rw [n2 rfl rfl h2]
    (repeat' ((conv => whnf) <;> first | exact rfl | with_reducible refine boolK_dec (fun _ => ?_) (fun _ => ?_) <;> try (exfalso; omega) | refine boolK_beq (fun _ => ?_) (fun _ => ?_) <;> try (exfalso; first | omega | with_reducible contradiction) | refine boolK_bne (fun _ => ?_) (fun _ => ?_) <;> try (exfalso; first | omega | with_reducible contradiction) | (with_reducible first | refine boolK_not ?_ | refine boolK_and ?_ | refine boolK_or ?_ | refine boolK_true ?_ | refine boolK_false ?_) | refine boolK_intro (fun _ => ?_) (fun _ => ?_) <;> try (exfalso; simp_all; done) | with_reducible refine natK_lit ?_ | refine natK_of rfl ?_ | refine natK_any ?_ | refine je ?_ | refine jf ?_ | refine jg ?_ | refine jh ?_ | refine ji ?_ | refine jj ?_ | refine jk ?_ | refine jn ?_ | refine callK_intro (v3) ?_ | refine callK_intro (v2) ?_ | refine callK_intro (c_withinK _ _) ?_ | refine jy ?_ | refine ju ?_ | refine jv ?_)) <;> (try (conv => whnf))
theorem c_rEncK (l : Bool) (k : Int) (s1 s2 s3 : List UInt8) (lf kv : Int) (tk : List UInt8) (tm : Int) {m : Nat} (hm : m = tk.length) (hl : s1.length ≤ 100000 ∧ s2.length ≤ 100000 ∧ s3.length ≤ 100000 ∧ tk.length ≤ 100000) (hk : 0 ≤ k ∧ k ≤ 18446744073709551615) : Fn Tryz.prog 38 [.a [.i .u64 k, .s s1, .s s2, .s s3, .i .i64 lf, .i .i64 kv, .sl (tk.map u8) m, .i .i64 tm], .o (.b l)] [] (.tup [.fr ((kpN l ⟨k, s1, s2, s3, lf, kv, tk, tm⟩).1.map u8) (kpN l ⟨k, s1, s2, s3, lf, kv, tk, tm⟩).1.length 1, .c (.o (.i .i64 (kpN l ⟨k, s1, s2, s3, lf, kv, tk, tm⟩).2))]) [] := by
  subst hm
  have v2 := c_rValid s1 s2 s3 (by omega) (by omega) (by omega)
  have v3 := c_rkeyValid k hk
  have v4 := c_rkeyBytes k hk
  have n0 := @kpN_10 l ⟨k, s1, s2, s3, lf, kv, tk, tm⟩
  have n1 := @kpN_103 l ⟨k, s1, s2, s3, lf, kv, tk, tm⟩
  have n2 := @kpN_104 l ⟨k, s1, s2, s3, lf, kv, tk, tm⟩
  have n4 := @kpN_105 l ⟨k, s1, s2, s3, lf, kv, tk, tm⟩
  have n3 := @kpN_ok l ⟨k, s1, s2, s3, lf, kv, tk, tm⟩
  dsimp only [kpR] at n0 n1 n2 n3 n4
  have hB := kpB_len l ⟨k, s1, s2, s3, lf, kv, tk, tm⟩
  dsimp only at hB
  generalize kpN l ⟨k, s1, s2, s3, lf, kv, tk, tm⟩ = N at *
  generalize keyOk k = C at *
  generalize validS s1 s2 s3 = A2 at *
  refine Fn_intro (G := g38) (goodA rfl) (fn := Tryz.f38) rfl rfl rfl rfl rfl ?_
  cases C
  · rw [n0 (by simp)]
    (repeat' ((conv => whnf) <;> first | exact rfl | with_reducible refine boolK_dec (fun _ => ?_) (fun _ => ?_) <;> try (exfalso; omega) | refine boolK_beq (fun _ => ?_) (fun _ => ?_) <;> try (exfalso; first | omega | with_reducible contradiction) | refine boolK_bne (fun _ => ?_) (fun _ => ?_) <;> try (exfalso; first | omega | with_reducible contradiction) | (with_reducible first | refine boolK_not ?_ | refine boolK_and ?_ | refine boolK_or ?_ | refine boolK_true ?_ | refine boolK_false ?_) | refine boolK_intro (fun _ => ?_) (fun _ => ?_) <;> try (exfalso; simp_all; done) | with_reducible refine natK_lit ?_ | refine natK_of rfl ?_ | refine natK_any ?_ | refine jP ?_ | refine jQ ?_ | refine jR ?_ | refine jS ?_ | refine jT ?_ | refine jU (fun _ => ?_) | refine jV ?_ | refine jX ?_ | refine jY ?_ | refine jZ ?_ | refine ja ?_ | refine jb ?_ | refine jc ?_ | refine jd ?_ | refine jn ?_ | refine jo ?_ | refine jp ?_ | refine jq ?_ | refine jr ?_ | refine js ?_ | refine callK_intro (v3) ?_ | refine callK_intro (v2) ?_ | refine jt ?_ | refine jy ?_ | refine ju ?_ | refine jv ?_)) <;> (try (conv => whnf))
  cases A2
  · rw [n1 rfl (by simp)]
    (repeat' ((conv => whnf) <;> first | exact rfl | with_reducible refine boolK_dec (fun _ => ?_) (fun _ => ?_) <;> try (exfalso; omega) | refine boolK_beq (fun _ => ?_) (fun _ => ?_) <;> try (exfalso; first | omega | with_reducible contradiction) | refine boolK_bne (fun _ => ?_) (fun _ => ?_) <;> try (exfalso; first | omega | with_reducible contradiction) | (with_reducible first | refine boolK_not ?_ | refine boolK_and ?_ | refine boolK_or ?_ | refine boolK_true ?_ | refine boolK_false ?_) | refine boolK_intro (fun _ => ?_) (fun _ => ?_) <;> try (exfalso; simp_all; done) | with_reducible refine natK_lit ?_ | refine natK_of rfl ?_ | refine natK_any ?_ | refine jP ?_ | refine jQ ?_ | refine jR ?_ | refine jS ?_ | refine jT ?_ | refine jU (fun _ => ?_) | refine jV ?_ | refine jX ?_ | refine jY ?_ | refine jZ ?_ | refine ja ?_ | refine jb ?_ | refine jc ?_ | refine jd ?_ | refine jn ?_ | refine jo ?_ | refine jp ?_ | refine jq ?_ | refine jr ?_ | refine js ?_ | refine callK_intro (v3) ?_ | refine callK_intro (v2) ?_ | refine jt ?_ | refine jy ?_ | refine ju ?_ | refine jv ?_)) <;> (try (conv => whnf))
  by_cases h2 : (0 ≤ lf ∧ lf ≤ 255) ∧ (0 ≤ kv ∧ kv ≤ 255) ∧ (0 ≤ tm ∧ tm ≤ 4294967295)
  · by_cases h3 : tk.length ≤ 255
    · rw [n3 rfl rfl h2 h3]
      clear n0 n1 n2 n3 n4
      have p0 := c_rPutOrder [] (m := 0) rfl (by decide) l
      obtain ⟨B0, e0⟩ : ∃ x, x = ([] : List UInt8) ++ numS false 1 (ordN l) := ⟨_, rfl⟩
      rw [← e0] at p0
      have h0 : ([] : List UInt8).length + 1 = B0.length := by rw [e0]; simp only [List.length_append, numS_len, List.length_nil]
      have q0 : ([] : List UInt8).length = 0 := rfl
      have q1 : (keyB k).length = 8 := rfl
      obtain ⟨pb1, pe1⟩ : ∃ z_, z_ = B0 ++ keyB k := ⟨_, rfl⟩
      have ph1 : ([] : List UInt8).length + 1 + 8 = pb1.length := by rw [pe1]; simp only [List.length_append, numS_len, List.length_cons, List.length_nil]; try omega
      have p2 := c_rPutPrincipal pb1 (m := ([] : List UInt8).length + 1 + 8) ph1 s1 s2 s3 (by omega)
      obtain ⟨pb2, pe2⟩ : ∃ z_, z_ = pb1 ++ s1 ++ [0] ++ s2 ++ [0] ++ s3 ++ [0] := ⟨_, rfl⟩
      rw [← pe2] at p2
      have ph2 : pb1.length + s1.length + 1 + s2.length + 1 + s3.length + 1 = pb2.length := by rw [pe2]; simp only [List.length_append, numS_len, List.length_cons, List.length_nil]; try omega
      have p3 := c_rPutOctet pb2 (m := pb1.length + s1.length + 1 + s2.length + 1 + s3.length + 1) ph2 (by omega) lf
      obtain ⟨pb3, pe3⟩ : ∃ z_, z_ = pb2 ++ numS false 1 lf := ⟨_, rfl⟩
      rw [← pe3] at p3
      have ph3 : pb2.length + 1 = pb3.length := by rw [pe3]; simp only [List.length_append, numS_len, List.length_cons, List.length_nil]
      have p4 := c_rPutOctet pb3 (m := pb2.length + 1) ph3 (by omega) kv
      obtain ⟨pb4, pe4⟩ : ∃ z_, z_ = pb3 ++ numS false 1 kv := ⟨_, rfl⟩
      rw [← pe4] at p4
      have ph4 : pb3.length + 1 = pb4.length := by rw [pe4]; simp only [List.length_append, numS_len, List.length_cons, List.length_nil]
      have p5 := c_rPutOctet pb4 (m := pb3.length + 1) ph4 (by omega) (tk.length : Int)
      obtain ⟨pb5, pe5⟩ : ∃ z_, z_ = pb4 ++ numS false 1 (tk.length : Int) := ⟨_, rfl⟩
      rw [← pe5] at p5
      have ph5 : pb4.length + 1 = pb5.length := by rw [pe5]; simp only [List.length_append, numS_len, List.length_cons, List.length_nil]
      obtain ⟨pb6, pe6⟩ : ∃ z_, z_ = pb5 ++ tk := ⟨_, rfl⟩
      have ph6 : pb4.length + 1 + tk.length = pb6.length := by rw [pe6]; simp only [List.length_append, numS_len, List.length_cons, List.length_nil]; try omega
      have p7 := c_rPutNumber pb6 (m := pb4.length + 1 + tk.length) ph6 (by omega) tm l
      obtain ⟨pb7, pe7⟩ : ∃ z_, z_ = pb6 ++ numS l 4 tm := ⟨_, rfl⟩
      rw [← pe7] at p7
      have ph7 : pb6.length + 4 = pb7.length := by rw [pe7]; simp only [List.length_append, numS_len, List.length_cons, List.length_nil]
      have pp := c_rPad pb7 (m := pb6.length + 4) ph7 (by omega)
      have fin : kpB l ⟨k, s1, s2, s3, lf, kv, tk, tm⟩ = pb7 := by rw [pe7, pe6, pe5, pe4, pe3, pe2, pe1, e0]; rfl
      have g1 : B0.map u8 ++ (keyB k).map u8 = pb1.map u8 := by rw [pe1, List.map_append]
      have g6 : pb5.map u8 ++ tk.map u8 = pb6.map u8 := by rw [pe6, List.map_append]
      rw [fin]
      rw [fin] at hB
      clear fin pe7 pe6 pe5 pe4 pe3 pe2 pe1 e0
      (repeat' ((conv => whnf) <;> first | refine catK_of g1 ?_ | refine catK_of g6 ?_ | exact rfl | with_reducible refine boolK_dec (fun _ => ?_) (fun _ => ?_) <;> try (exfalso; omega) | refine boolK_beq (fun _ => ?_) (fun _ => ?_) <;> try (exfalso; first | omega | with_reducible contradiction) | refine boolK_bne (fun _ => ?_) (fun _ => ?_) <;> try (exfalso; first | omega | with_reducible contradiction) | (with_reducible first | refine boolK_not ?_ | refine boolK_and ?_ | refine boolK_or ?_ | refine boolK_true ?_ | refine boolK_false ?_) | refine boolK_intro (fun _ => ?_) (fun _ => ?_) <;> try (exfalso; simp_all; done) | with_reducible refine natK_lit ?_ | refine natK_of rfl ?_ | refine natK_any ?_ | refine jP ?_ | refine jQ ?_ | refine jR ?_ | refine jS ?_ | refine jT ?_ | refine jU (fun _ => ?_) | refine jV ?_ | refine jX ?_ | refine jY ?_ | refine jZ ?_ | refine ja ?_ | refine jb ?_ | refine jc ?_ | refine jd ?_ | refine jn ?_ | refine jo ?_ | refine jp ?_ | refine jq ?_ | refine jr ?_ | refine js ?_ | refine callK_intro (v3) ?_ | refine callK_intro (v2) ?_ | refine callK_intro (v4) ?_ | refine callK_intro (c_rwithinK _ _) ?_ | refine callK_intro (p0) ?_ | refine callK_intro (p2) ?_ | refine callK_intro (p3) ?_ | refine callK_intro (p4) ?_ | refine callK_intro (p5) ?_ | refine callK_intro (p7) ?_ | refine callK_intro (pp) ?_ | refine jt ?_ | refine jy ?_ | refine ju ?_ | refine sideK_intro (by first | (exact ⟨rfl, rfl, rfl⟩) | (exact ⟨(by first | omega | (simp only [List.length_append, List.length_singleton, List.length_nil, List.length_cons, numS_len, keyB_len] <;> omega)), by simp [keyB_len]⟩)) ?_ | refine jv ?_)) <;> (try (conv => whnf))
    · rw [n4 rfl rfl h2 h3]
      (repeat' ((conv => whnf) <;> first | exact rfl | with_reducible refine boolK_dec (fun _ => ?_) (fun _ => ?_) <;> try (exfalso; omega) | refine boolK_beq (fun _ => ?_) (fun _ => ?_) <;> try (exfalso; first | omega | with_reducible contradiction) | refine boolK_bne (fun _ => ?_) (fun _ => ?_) <;> try (exfalso; first | omega | with_reducible contradiction) | (with_reducible first | refine boolK_not ?_ | refine boolK_and ?_ | refine boolK_or ?_ | refine boolK_true ?_ | refine boolK_false ?_) | refine boolK_intro (fun _ => ?_) (fun _ => ?_) <;> try (exfalso; simp_all; done) | with_reducible refine natK_lit ?_ | refine natK_of rfl ?_ | refine natK_any ?_ | refine jP ?_ | refine jQ ?_ | refine jR ?_ | refine jS ?_ | refine jT ?_ | refine jU (fun _ => ?_) | refine jV ?_ | refine jX ?_ | refine jY ?_ | refine jZ ?_ | refine ja ?_ | refine jb ?_ | refine jc ?_ | refine jd ?_ | refine jn ?_ | refine jo ?_ | refine jp ?_ | refine jq ?_ | refine jr ?_ | refine js ?_ | refine callK_intro (v3) ?_ | refine callK_intro (v2) ?_ | refine callK_intro (c_rwithinK _ _) ?_ | refine jt ?_ | refine jy ?_ | refine ju ?_ | refine jv ?_)) <;> (try (conv => whnf))
  · rw [n2 rfl rfl h2]
    (repeat' ((conv => whnf) <;> first | exact rfl | with_reducible refine boolK_dec (fun _ => ?_) (fun _ => ?_) <;> try (exfalso; omega) | refine boolK_beq (fun _ => ?_) (fun _ => ?_) <;> try (exfalso; first | omega | with_reducible contradiction) | refine boolK_bne (fun _ => ?_) (fun _ => ?_) <;> try (exfalso; first | omega | with_reducible contradiction) | (with_reducible first | refine boolK_not ?_ | refine boolK_and ?_ | refine boolK_or ?_ | refine boolK_true ?_ | refine boolK_false ?_) | refine boolK_intro (fun _ => ?_) (fun _ => ?_) <;> try (exfalso; simp_all; done) | with_reducible refine natK_lit ?_ | refine natK_of rfl ?_ | refine natK_any ?_ | refine jP ?_ | refine jQ ?_ | refine jR ?_ | refine jS ?_ | refine jT ?_ | refine jU (fun _ => ?_) | refine jV ?_ | refine jX ?_ | refine jY ?_ | refine jZ ?_ | refine ja ?_ | refine jb ?_ | refine jc ?_ | refine jd ?_ | refine jn ?_ | refine jo ?_ | refine jp ?_ | refine jq ?_ | refine jr ?_ | refine js ?_ | refine callK_intro (v3) ?_ | refine callK_intro (v2) ?_ | refine callK_intro (c_rwithinK _ _) ?_ | refine jt ?_ | refine jy ?_ | refine ju ?_ | refine jv ?_)) <;> (try (conv => whnf))
end Go.Sx

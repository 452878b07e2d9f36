/-
  Contracts of the functions that take messages apart, make them and open them.
-/
import Derived.Test.YtkphcbogdmblnaaCProtP
set_option linter.all false
namespace Go.Sx
open Go.Proofs Go.RowKit
noncomputable def g37 : Par := par 29 (nthLL [[0, 1, 2], [1, 2, 7], [1, 7, 13, 14, 15], [1, 7, 13, 14, 15, 16], [1, 7, 9, 13, 14, 15], [1, 7, 13, 14, 15], [1, 7, 13, 14, 15], [6]]) [6, 7] (nthLL [])
noncomputable def g39 : Par := par 14 (nthLL [[0, 1, 2], [6]]) [6] (nthLL [])
noncomputable def g36 : Par := par 33 (nthLL [[1, 2, 3, 4], [2, 3, 11, 12], [2, 3, 11, 12, 21], [8, 9, 10], [11, 12, 13], [8, 9, 10]]) [8, 9, 10, 11, 12, 13] (nthLL [])
noncomputable def g38 : Par := par 32 (nthLL [[1, 2, 3, 4], [2, 3, 8, 10], [2, 3, 8, 10, 18], [8, 9, 10], [8, 9, 10], [8, 9, 10, 28], [8, 9, 10], [8, 9, 10]]) [8, 9, 10] (nthLL [])
noncomputable def g24 : Par := par 26 (nthLL [[1, 2, 3], [1, 9, 10], [1, 9, 10, 20], [6, 7], [6, 7]]) [6, 7, 10] (nthLL [])
noncomputable def g26 : Par := par 27 (nthLL [[1, 2, 3], [1, 9, 10], [1, 9, 10, 20], [6, 7], [6, 7]]) [6, 7, 10] (nthLL [])
noncomputable def g23 : Par := par 27 (nthLL [[1, 2, 3], [1, 8, 9, 10], [1, 8, 9, 10, 20], [6, 7], [6, 7]]) [6, 7, 10] (nthLL [])
noncomputable def g25 : Par := par 30 (nthLL [[1, 2, 3], [1, 8, 9, 10], [1, 8, 9, 10, 20], [6, 7], [6, 7]]) [6, 7, 10] (nthLL [])
set_option maxRecDepth 10000
set_option maxHeartbeats 4000000
theorem c_join1 (l : Bool) (x : List UInt8) (hx : x.length ≤ 100000) : Fn Try.prog 37 [.o (.i .i64 6), .o (.b l), .o (.sl [.sl (x.map u8) x.length] 1)] [] (.one (.fr ((msg6 l x).map u8) (msg6 l x).length 1)) [] := by
  have q0 := putS_len2 (k := 6) (l := l) (by decide) (by decide)
  have p1 := c_PutShort (putS 6 l) (m := (putS 6 l).length) rfl (by omega) (x.length : Int) l
  obtain ⟨pb1, pe1⟩ : ∃ z_, z_ = (putS 6 l) ++ numS l 2 (x.length : Int) := ⟨_, rfl⟩
  rw [← pe1] at p1
  have ph1 : (putS 6 l).length + 2 = pb1.length := by rw [pe1]; simp only [List.length_append, numS_len, List.length_cons, List.length_nil]
  have p2 := c_concat2 pb1 x (m := (putS 6 l).length + 2) (n := x.length) ph1 rfl (by omega)
  obtain ⟨pb2, pe2⟩ : ∃ z_, z_ = pb1 ++ x := ⟨_, rfl⟩
  rw [← pe2] at p2
  have ph2 : pb1.length + x.length = pb2.length := by rw [pe2]; simp only [List.length_append, numS_len, List.length_cons, List.length_nil]
  have fin : msg6 l x = pb2 := by rw [msg6, pe2, pe1]
  rw [fin]
  clear fin pe2 pe1
  refine Fn_intro (G := g37) (goodA rfl) (fn := Try.f37) rfl rfl rfl rfl rfl ?_
  (repeat' ((conv => whnf) <;> first | exact rfl | with_reducible refine boolK_dec (fun _ => ?_) (fun _ => ?_) <;> try (exfalso; omega) | refine boolK_beq (fun _ => ?_) (fun _ => ?_) <;> try (exfalso; first | omega | contradiction) | refine boolK_bne (fun _ => ?_) (fun _ => ?_) <;> try (exfalso; first | omega | contradiction) | (with_reducible first | refine boolK_not ?_ | refine boolK_and ?_ | refine boolK_or ?_ | refine boolK_true ?_ | refine boolK_false ?_) | refine boolK_intro (fun _ => ?_) (fun _ => ?_) <;> try (exfalso; simp_all; done) | refine jA ?_ | refine jB ?_ | refine jH ?_ | refine jI ?_ | refine jJ ?_ | refine jK ?_ | with_reducible refine natK_lit ?_ | refine natK_of rfl ?_ | refine natK_any ?_ | refine jP ?_ | refine jQ ?_ | refine jR ?_ | refine jS ?_ | refine jT ?_ | refine jU (fun _ => ?_) | refine jV ?_ | refine jW ?_ | refine jX ?_ | refine jY ?_ | refine jZ ?_ | refine ja ?_ | refine jb ?_ | refine jc ?_ | refine jd ?_ | refine je ?_ | refine jf ?_ | refine jg ?_ | refine jh ?_ | refine ji ?_ | refine jj ?_ | refine jk ?_ | refine jn ?_ | refine jo ?_ | refine jp ?_ | refine jq ?_ | refine jr ?_ | refine js ?_ | refine callK_intro (c_put 6 l) ?_ | refine callK_intro (p1) ?_ | refine callK_intro (p2) ?_ | refine loopK_step (G := g37) ?_ | refine jt ?_ | refine jx ?_ | refine jy ?_ | refine ju ?_ | refine sideK_intro (by first | (exact ⟨rfl, by omega, rfl⟩)) ?_ | refine jv ?_)) <;> (try (conv => whnf))
theorem c_join2 (l : Bool) (t x : List UInt8) (ht : t.length ≤ 100000) (hx : x.length ≤ 100000) : Fn Try.prog 37 [.o (.i .i64 7), .o (.b l), .o (.sl [.sl (t.map u8) t.length, .sl (x.map u8) x.length] 2)] [] (.one (.fr ((msg7 l t x).map u8) (msg7 l t x).length 1)) [] := by
  have q0 := putS_len2 (k := 7) (l := l) (by decide) (by decide)
  have p1 := c_PutShort (putS 7 l) (m := (putS 7 l).length) rfl (by omega) (t.length : Int) l
  obtain ⟨pb1, pe1⟩ : ∃ z_, z_ = (putS 7 l) ++ numS l 2 (t.length : Int) := ⟨_, rfl⟩
  rw [← pe1] at p1
  have ph1 : (putS 7 l).length + 2 = pb1.length := by rw [pe1]; simp only [List.length_append, numS_len, List.length_cons, List.length_nil]
  have p2 := c_concat2 pb1 t (m := (putS 7 l).length + 2) (n := t.length) ph1 rfl (by omega)
  obtain ⟨pb2, pe2⟩ : ∃ z_, z_ = pb1 ++ t := ⟨_, rfl⟩
  rw [← pe2] at p2
  have ph2 : pb1.length + t.length = pb2.length := by rw [pe2]; simp only [List.length_append, numS_len, List.length_cons, List.length_nil]
  have p3 := c_PutShort pb2 (m := pb1.length + t.length) ph2 (by omega) (x.length : Int) l
  obtain ⟨pb3, pe3⟩ : ∃ z_, z_ = pb2 ++ numS l 2 (x.length : Int) := ⟨_, rfl⟩
  rw [← pe3] at p3
  have ph3 : pb2.length + 2 = pb3.length := by rw [pe3]; simp only [List.length_append, numS_len, List.length_cons, List.length_nil]
  have p4 := c_concat2 pb3 x (m := pb2.length + 2) (n := x.length) ph3 rfl (by omega)
  obtain ⟨pb4, pe4⟩ : ∃ z_, z_ = pb3 ++ x := ⟨_, rfl⟩
  rw [← pe4] at p4
  have ph4 : pb3.length + x.length = pb4.length := by rw [pe4]; simp only [List.length_append, numS_len, List.length_cons, List.length_nil]
  have fin : msg7 l t x = pb4 := by rw [msg7, pe4, pe3, pe2, pe1]
  rw [fin]
  clear fin pe4 pe3 pe2 pe1
  refine Fn_intro (G := g37) (goodA rfl) (fn := Try.f37) rfl rfl rfl rfl rfl ?_
  (repeat' ((conv => whnf) <;> first | exact rfl | with_reducible refine boolK_dec (fun _ => ?_) (fun _ => ?_) <;> try (exfalso; omega) | refine boolK_beq (fun _ => ?_) (fun _ => ?_) <;> try (exfalso; first | omega | contradiction) | refine boolK_bne (fun _ => ?_) (fun _ => ?_) <;> try (exfalso; first | omega | contradiction) | (with_reducible first | refine boolK_not ?_ | refine boolK_and ?_ | refine boolK_or ?_ | refine boolK_true ?_ | refine boolK_false ?_) | refine boolK_intro (fun _ => ?_) (fun _ => ?_) <;> try (exfalso; simp_all; done) | refine jA ?_ | refine jB ?_ | refine jH ?_ | refine jI ?_ | refine jJ ?_ | refine jK ?_ | with_reducible refine natK_lit ?_ | refine natK_of rfl ?_ | refine natK_any ?_ | refine jP ?_ | refine jQ ?_ | refine jR ?_ | refine jS ?_ | refine jT ?_ | refine jU (fun _ => ?_) | refine jV ?_ | refine jW ?_ | refine jX ?_ | refine jY ?_ | refine jZ ?_ | refine ja ?_ | refine jb ?_ | refine jc ?_ | refine jd ?_ | refine je ?_ | refine jf ?_ | refine jg ?_ | refine jh ?_ | refine ji ?_ | refine jj ?_ | refine jk ?_ | refine jn ?_ | refine jo ?_ | refine jp ?_ | refine jq ?_ | refine jr ?_ | refine js ?_ | refine callK_intro (c_put 7 l) ?_ | refine callK_intro (p1) ?_ | refine callK_intro (p2) ?_ | refine callK_intro (p3) ?_ | refine callK_intro (p4) ?_ | refine loopK_step (G := g37) ?_ | refine jt ?_ | refine jx ?_ | refine jy ?_ | refine ju ?_ | refine sideK_intro (by first | (exact ⟨rfl, by omega, rfl⟩)) ?_ | refine jv ?_)) <;> (try (conv => whnf))
theorem c_rputS (b x : List UInt8) {m k : Nat} (hm : m = b.length) (hk : k = x.length) (hb : b.length ≤ 100000) (hx : x.length ≤ 100000) (l : Bool) : Fn Try.prog 39 [.o (.sl (b.map u8) m), .o (.sl (x.map u8) k), .o (.b l)] [] (.one (.fr ((b ++ numS l 2 (x.length : Int) ++ x).map u8) (b.length + 2 + x.length) 1)) [] := by
  subst hk
  have c := c_rPutShort b hm (by omega) (x.length : Int) l
  refine Fn_intro (G := g39) (goodA rfl) (fn := Try.f39) rfl rfl rfl rfl rfl ?_
  (repeat' ((conv => whnf) <;> first | exact rfl | with_reducible refine boolK_dec (fun _ => ?_) (fun _ => ?_) <;> try (exfalso; omega) | refine boolK_beq (fun _ => ?_) (fun _ => ?_) <;> try (exfalso; first | omega | contradiction) | refine boolK_bne (fun _ => ?_) (fun _ => ?_) <;> try (exfalso; first | omega | contradiction) | (with_reducible first | refine boolK_not ?_ | refine boolK_and ?_ | refine boolK_or ?_ | refine boolK_true ?_ | refine boolK_false ?_) | refine boolK_intro (fun _ => ?_) (fun _ => ?_) <;> try (exfalso; simp_all; done) | with_reducible refine natK_lit ?_ | refine natK_of rfl ?_ | refine natK_any ?_ | refine jP ?_ | refine jQ ?_ | refine jR ?_ | refine jS ?_ | refine jT ?_ | refine jU (fun _ => ?_) | refine jV ?_ | refine jW ?_ | refine jX ?_ | refine jY ?_ | refine jZ ?_ | refine ja ?_ | refine jb ?_ | refine jc ?_ | refine jd ?_ | refine je ?_ | refine jf ?_ | refine jg ?_ | refine jh ?_ | refine ji ?_ | refine jj ?_ | refine jk ?_ | refine jn ?_ | refine jo ?_ | refine jp ?_ | refine jq ?_ | refine jr ?_ | refine js ?_ | refine callK_intro (c) ?_ | refine jt ?_ | refine jx ?_ | refine jy ?_ | refine ju ?_ | refine sideK_intro (by first | (exact ⟨rfl, rfl, rfl⟩)) ?_ | refine jv ?_)) <;> (try (conv => whnf))
theorem prN_nil {l : Bool} {x : PrT} (h : ¬ (prN l x).2 = 0) : (prN l x).1 = [] := by
  unfold prN at h ⊢
  split
  · rename_i h1
    rw [if_pos h1] at h
    split
    · rename_i h2; rw [if_pos h2] at h; exact absurd rfl h
    · rfl
  · rfl
theorem c_sealP (l : Bool) (d : List UInt8) (tk ad tm : Int) (hd : 0 ≤ d.length) (kd k : Int) (hk : 0 ≤ k ∧ k ≤ 18446744073709551615) : Fn Try.prog 36 [.a [.sl (d.map u8) d.length, .i .i64 tk, .i .i64 ad, .i .i64 tm], .o (.b l), .o (.i .i64 kd), .o (.i .u64 k)] [] (.tup [.c (.o (.sl ((prN l (d, tk, ad, tm)).1.map u8) (prN l (d, tk, ad, tm)).1.length)), .c (.o (.sl ((sealS kd k (prN l (d, tk, ad, tm))).1.map u8) (sealS kd k (prN l (d, tk, ad, tm))).1.length)), .c (.o (.i .i64 (sealS kd k (prN l (d, tk, ad, tm))).2))]) [] := by
  have cE := c_EncodeP l d tk ad tm hd
  have hl := prN_len l (d, tk, ad, tm)
  have hn := @prN_nil l (d, tk, ad, tm)
  generalize prN l (d, tk, ad, tm) = N at *
  have cM := c_boxMake kd k hk N.1 rfl (by omega)
  have sy := @sealS_yes kd k N
  have sn := @sealS_no kd k N
  generalize sealS kd k N = S at *
  generalize makeS kd k N.1 = M at *
  refine Fn_intro (G := g36) (goodA rfl) (fn := Try.f36) rfl rfl rfl rfl rfl ?_
  (repeat' ((conv => whnf) <;> first | exact rfl | with_reducible refine boolK_dec (fun _ => ?_) (fun _ => ?_) <;> try (exfalso; omega) | refine boolK_beq (fun _ => ?_) (fun _ => ?_) <;> try (exfalso; first | omega | contradiction) | refine boolK_bne (fun _ => ?_) (fun _ => ?_) <;> try (exfalso; first | omega | contradiction) | (with_reducible first | refine boolK_not ?_ | refine boolK_and ?_ | refine boolK_or ?_ | refine boolK_true ?_ | refine boolK_false ?_) | refine boolK_intro (fun _ => ?_) (fun _ => ?_) <;> try (exfalso; simp_all; done) | with_reducible refine natK_lit ?_ | refine natK_of rfl ?_ | refine natK_any ?_ | refine jP ?_ | refine jQ ?_ | refine jR ?_ | refine jS ?_ | refine jT ?_ | refine jU (fun _ => ?_) | refine jV ?_ | refine jW ?_ | refine jX ?_ | refine jY ?_ | refine jZ ?_ | refine ja ?_ | refine jb ?_ | refine jc ?_ | refine jd ?_ | refine je ?_ | refine jf ?_ | refine jg ?_ | refine jh ?_ | refine ji ?_ | refine jj ?_ | refine jk ?_ | refine jn ?_ | refine jo ?_ | refine jp ?_ | refine jq ?_ | refine jr ?_ | refine js ?_ | refine callK_intro (cE) ?_ | refine callK_intro (cM) ?_ | refine jt ?_ | refine jx ?_ | refine jy ?_ | refine ju ?_ | refine sideK_intro (by first | (rw [hn (by assumption)] <;> first | rfl | exact ⟨rfl, rfl⟩ | exact ⟨rfl, rfl, rfl⟩) | (rw [sn (by assumption)] <;> first | rfl | exact ⟨rfl, rfl⟩ | exact ⟨rfl, rfl, rfl⟩) | (rw [sy (by assumption)] <;> first | rfl | exact ⟨rfl, rfl⟩ | exact ⟨rfl, rfl, rfl⟩) | (rw [sy (by assumption)]; exact ⟨rfl, rfl, rfl⟩)) ?_ | refine jv ?_)) <;> (try (conv => whnf))
theorem c_rsealP_ok (l : Bool) (d : List UInt8) (tk ad tm : Int) (hd : 0 ≤ d.length) (kd k : Int) (hk : 0 ≤ k ∧ k ≤ 18446744073709551615) (h0 : (sealS kd k (prN l (d, tk, ad, tm))).2 = 0) : Fn Try.prog 38 [.a [.sl (d.map u8) d.length, .i .i64 tk, .i .i64 ad, .i .i64 tm], .o (.b l), .o (.i .i64 kd), .o (.i .u64 k)] [] (.tup [.c (.o (.sl ((prN l (d, tk, ad, tm)).1.map u8) (prN l (d, tk, ad, tm)).1.length)), .c (.o (.sl ((sealS kd k (prN l (d, tk, ad, tm))).1.map u8) (sealS kd k (prN l (d, tk, ad, tm))).1.length)), .c (.o (.i .i64 0))]) [] := by
  have cE := c_rEncodeP l d tk ad tm hd
  have hl := prN_len l (d, tk, ad, tm)
  generalize prN l (d, tk, ad, tm) = N at *
  have cM := c_rboxMake kd k hk N.1 rfl (by omega)
  have sy := @sealS_yes kd k N
  have sn := @sealS_no kd k N
  have hN : N.2 = 0 := by
    by_cases h : N.2 = 0
    · exact h
    · rw [sn h] at h0; exact h0
  have sy := sy hN
  rw [sy] at h0 ⊢
  clear sy sn
  generalize makeS kd k N.1 = M at *
  refine Fn_intro (G := g38) (goodA rfl) (fn := Try.f38) rfl rfl rfl rfl rfl ?_
  (repeat' ((conv => whnf) <;> first | exact rfl | with_reducible refine boolK_dec (fun _ => ?_) (fun _ => ?_) <;> try (exfalso; omega) | refine boolK_beq (fun _ => ?_) (fun _ => ?_) <;> try (exfalso; first | omega | contradiction) | refine boolK_bne (fun _ => ?_) (fun _ => ?_) <;> try (exfalso; first | omega | contradiction) | (with_reducible first | refine boolK_not ?_ | refine boolK_and ?_ | refine boolK_or ?_ | refine boolK_true ?_ | refine boolK_false ?_) | refine boolK_intro (fun _ => ?_) (fun _ => ?_) <;> try (exfalso; simp_all; done) | with_reducible refine natK_lit ?_ | refine natK_of rfl ?_ | refine natK_any ?_ | refine jP ?_ | refine jQ ?_ | refine jR ?_ | refine jS ?_ | refine jT ?_ | refine jU (fun _ => ?_) | refine jV ?_ | refine jW ?_ | refine jX ?_ | refine jY ?_ | refine jZ ?_ | refine ja ?_ | refine jb ?_ | refine jc ?_ | refine jd ?_ | refine je ?_ | refine jf ?_ | refine jg ?_ | refine jh ?_ | refine ji ?_ | refine jj ?_ | refine jk ?_ | refine jn ?_ | refine jo ?_ | refine jp ?_ | refine jq ?_ | refine jr ?_ | refine js ?_ | refine callK_intro (cE) ?_ | refine callK_intro (cM) ?_ | refine jt ?_ | refine jx ?_ | refine jy ?_ | refine ju ?_ | refine sideK_intro (by first | (exact ⟨rfl, rfl, rfl⟩)) ?_ | refine jv ?_)) <;> (try (conv => whnf))
theorem c_rsealP_no (l : Bool) (d : List UInt8) (tk ad tm : Int) (hd : 0 ≤ d.length) (kd k : Int) (hk : 0 ≤ k ∧ k ≤ 18446744073709551615) (h0 : ¬ (sealS kd k (prN l (d, tk, ad, tm))).2 = 0) : Fn Try.prog 38 [.a [.sl (d.map u8) d.length, .i .i64 tk, .i .i64 ad, .i .i64 tm], .o (.b l), .o (.i .i64 kd), .o (.i .u64 k)] [] (.tup [.c (.o (.sl [] 0)), .c (.o (.sl [] 0)), .c (.o (.i .i64 (sealS kd k (prN l (d, tk, ad, tm))).2))]) [] := by
  have cE := c_rEncodeP l d tk ad tm hd
  have hl := prN_len l (d, tk, ad, tm)
  generalize prN l (d, tk, ad, tm) = N at *
  have cM := c_rboxMake kd k hk N.1 rfl (by omega)
  have sy := @sealS_yes kd k N
  have sn := @sealS_no kd k N
  generalize sealS kd k N = S at *
  generalize makeS kd k N.1 = M at *
  have sy := fun h => congrArg Prod.snd (sy h)
  have sn := fun h => congrArg Prod.snd (sn h)
  refine Fn_intro (G := g38) (goodA rfl) (fn := Try.f38) rfl rfl rfl rfl rfl ?_
  (repeat' ((conv => whnf) <;> first | exact rfl | with_reducible refine boolK_dec (fun _ => ?_) (fun _ => ?_) <;> try (exfalso; omega) | refine boolK_beq (fun _ => ?_) (fun _ => ?_) <;> try (exfalso; first | omega | contradiction) | refine boolK_bne (fun _ => ?_) (fun _ => ?_) <;> try (exfalso; first | omega | contradiction) | (with_reducible first | refine boolK_not ?_ | refine boolK_and ?_ | refine boolK_or ?_ | refine boolK_true ?_ | refine boolK_false ?_) | refine boolK_intro (fun _ => ?_) (fun _ => ?_) <;> try (exfalso; simp_all; done) | with_reducible refine natK_lit ?_ | refine natK_of rfl ?_ | refine natK_any ?_ | refine jP ?_ | refine jQ ?_ | refine jR ?_ | refine jS ?_ | refine jT ?_ | refine jU (fun _ => ?_) | refine jV ?_ | refine jW ?_ | refine jX ?_ | refine jY ?_ | refine jZ ?_ | refine ja ?_ | refine jb ?_ | refine jc ?_ | refine jd ?_ | refine je ?_ | refine jf ?_ | refine jg ?_ | refine jh ?_ | refine ji ?_ | refine jj ?_ | refine jk ?_ | refine jn ?_ | refine jo ?_ | refine jp ?_ | refine jq ?_ | refine jr ?_ | refine js ?_ | refine callK_intro (cE) ?_ | refine callK_intro (cM) ?_ | refine jt ?_ | refine jx ?_ | refine jy ?_ | refine ju ?_ | refine sideK_intro (by first | (rw [sn (by assumption)]; done) | (rw [sy (by assumption)]; done)) ?_ | refine jv ?_)) <;> (try (conv => whnf))
theorem c_MakePrivate (l : Bool) (d : List UInt8) (tk ad tm : Int) (hd : 0 ≤ d.length) (k : Int) (hk : 0 ≤ k ∧ k ≤ 18446744073709551615) : Fn Try.prog 24 [.a [.sl (d.map u8) d.length, .i .i64 tk, .i .i64 ad, .i .i64 tm], .o (.b l), .o (.i .u64 k)] [] (.tup [.fr ((mk6 l k (prN l (d, tk, ad, tm))).1.map u8) (mk6 l k (prN l (d, tk, ad, tm))).1.length 1, .c (.o (.i .i64 (mk6 l k (prN l (d, tk, ad, tm))).2))]) [] := by
  have cS := c_sealP l d tk ad tm hd 5 k hk
  have hl := prN_len l (d, tk, ad, tm)
  generalize prN l (d, tk, ad, tm) = N at *
  have hs := sealS_len 5 k N
  have my := @mk6_ok l k N
  have mn := @mk6_no l k N
  generalize mk6 l k N = R at *
  generalize sealS 5 k N = S at *
  have cJ := c_join1 l S.1 (by omega)
  refine Fn_intro (G := g24) (goodA rfl) (fn := Try.f24) rfl rfl rfl rfl rfl ?_
  (repeat' ((conv => whnf) <;> first | exact rfl | with_reducible refine boolK_dec (fun _ => ?_) (fun _ => ?_) <;> try (exfalso; omega) | refine boolK_beq (fun _ => ?_) (fun _ => ?_) <;> try (exfalso; first | omega | contradiction) | refine boolK_bne (fun _ => ?_) (fun _ => ?_) <;> try (exfalso; first | omega | contradiction) | (with_reducible first | refine boolK_not ?_ | refine boolK_and ?_ | refine boolK_or ?_ | refine boolK_true ?_ | refine boolK_false ?_) | refine boolK_intro (fun _ => ?_) (fun _ => ?_) <;> try (exfalso; simp_all; done) | with_reducible refine natK_lit ?_ | refine natK_of rfl ?_ | refine natK_any ?_ | refine jP ?_ | refine jQ ?_ | refine jR ?_ | refine jS ?_ | refine jT ?_ | refine jU (fun _ => ?_) | refine jV ?_ | refine jW ?_ | refine jX ?_ | refine jY ?_ | refine jZ ?_ | refine ja ?_ | refine jb ?_ | refine jc ?_ | refine jd ?_ | refine je ?_ | refine jf ?_ | refine jg ?_ | refine jh ?_ | refine ji ?_ | refine jj ?_ | refine jk ?_ | refine jn ?_ | refine jo ?_ | refine jp ?_ | refine jq ?_ | refine jr ?_ | refine js ?_ | refine callK_intro (cS) ?_ | refine callK_intro (cJ) ?_ | refine jt ?_ | refine jx ?_ | refine jy ?_ | refine ju ?_ | refine sideK_intro (by first | (rw [mn (by assumption)] <;> first | rfl | exact ⟨rfl, rfl⟩ | exact ⟨rfl, rfl, rfl⟩) | (rw [my (by assumption)] <;> first | rfl | exact ⟨rfl, rfl⟩ | exact ⟨rfl, rfl, rfl⟩) | (rw [my (by assumption)]; exact ⟨rfl, rfl, rfl⟩)) ?_ | refine jv ?_)) <;> (try (conv => whnf))
theorem c_rMakePrivate (l : Bool) (d : List UInt8) (tk ad tm : Int) (hd : 0 ≤ d.length) (k : Int) (hk : 0 ≤ k ∧ k ≤ 18446744073709551615) : Fn Try.prog 26 [.a [.sl (d.map u8) d.length, .i .i64 tk, .i .i64 ad, .i .i64 tm], .o (.b l), .o (.i .u64 k)] [] (.tup [.fr ((mk6 l k (prN l (d, tk, ad, tm))).1.map u8) (mk6 l k (prN l (d, tk, ad, tm))).1.length 1, .c (.o (.i .i64 (mk6 l k (prN l (d, tk, ad, tm))).2))]) [] := by
  have sy := c_rsealP_ok l d tk ad tm hd 5 k hk
  have sn := c_rsealP_no l d tk ad tm hd 5 k hk
  have hl := prN_len l (d, tk, ad, tm)
  generalize prN l (d, tk, ad, tm) = N at *
  have hs := sealS_len 5 k N
  refine Fn_intro (G := g26) (goodA rfl) (fn := Try.f26) rfl rfl rfl rfl rfl ?_
  by_cases h0 : (sealS 5 k N).2 = 0
  · have sy := sy h0
    rw [mk6_ok h0]
    clear sn
    generalize sealS 5 k N = S at *
    have cP := c_rput 6 l
    have q0 := putS_len2 (k := 6) (l := l) (by decide) (by decide)
    have c1 := c_rputS (putS 6 l) S.1 rfl rfl (by omega) (by omega) l
    have fin : msg6 l S.1 = putS 6 l ++ numS l 2 (S.1.length : Int) ++ S.1 := rfl
    have hq := msg6_len l S.1
    rw [← fin] at c1
    clear fin
    generalize msg6 l S.1 = B at *
    (repeat' ((conv => whnf) <;> first | exact rfl | with_reducible refine boolK_dec (fun _ => ?_) (fun _ => ?_) <;> try (exfalso; omega) | refine boolK_beq (fun _ => ?_) (fun _ => ?_) <;> try (exfalso; first | omega | contradiction) | refine boolK_bne (fun _ => ?_) (fun _ => ?_) <;> try (exfalso; first | omega | contradiction) | (with_reducible first | refine boolK_not ?_ | refine boolK_and ?_ | refine boolK_or ?_ | refine boolK_true ?_ | refine boolK_false ?_) | refine boolK_intro (fun _ => ?_) (fun _ => ?_) <;> try (exfalso; simp_all; done) | with_reducible refine natK_lit ?_ | refine natK_of rfl ?_ | refine natK_any ?_ | refine jP ?_ | refine jQ ?_ | refine jR ?_ | refine jS ?_ | refine jT ?_ | refine jU (fun _ => ?_) | refine jV ?_ | refine jW ?_ | refine jX ?_ | refine jY ?_ | refine jZ ?_ | refine ja ?_ | refine jb ?_ | refine jc ?_ | refine jd ?_ | refine je ?_ | refine jf ?_ | refine jg ?_ | refine jh ?_ | refine ji ?_ | refine jj ?_ | refine jk ?_ | refine jn ?_ | refine jo ?_ | refine jp ?_ | refine jq ?_ | refine jr ?_ | refine js ?_ | refine callK_intro (sy) ?_ | refine callK_intro (cP) ?_ | refine callK_intro (c1) ?_ | refine jt ?_ | refine jx ?_ | refine jy ?_ | refine ju ?_ | refine sideK_intro (by first | (exact ⟨rfl, by omega, rfl⟩)) ?_ | refine jv ?_)) <;> (try (conv => whnf))
  · have sn := sn h0
    rw [mk6_no h0]
    clear sy
    generalize sealS 5 k N = S at *
    (repeat' ((conv => whnf) <;> first | exact rfl | with_reducible refine boolK_dec (fun _ => ?_) (fun _ => ?_) <;> try (exfalso; omega) | refine boolK_beq (fun _ => ?_) (fun _ => ?_) <;> try (exfalso; first | omega | contradiction) | refine boolK_bne (fun _ => ?_) (fun _ => ?_) <;> try (exfalso; first | omega | contradiction) | (with_reducible first | refine boolK_not ?_ | refine boolK_and ?_ | refine boolK_or ?_ | refine boolK_true ?_ | refine boolK_false ?_) | refine boolK_intro (fun _ => ?_) (fun _ => ?_) <;> try (exfalso; simp_all; done) | with_reducible refine natK_lit ?_ | refine natK_of rfl ?_ | refine natK_any ?_ | refine jP ?_ | refine jQ ?_ | refine jR ?_ | refine jS ?_ | refine jT ?_ | refine jU (fun _ => ?_) | refine jV ?_ | refine jW ?_ | refine jX ?_ | refine jY ?_ | refine jZ ?_ | refine ja ?_ | refine jb ?_ | refine jc ?_ | refine jd ?_ | refine je ?_ | refine jf ?_ | refine jg ?_ | refine jh ?_ | refine ji ?_ | refine jj ?_ | refine jk ?_ | refine jn ?_ | refine jo ?_ | refine jp ?_ | refine jq ?_ | refine jr ?_ | refine js ?_ | refine callK_intro (sn) ?_ | refine jt ?_ | refine jx ?_ | refine jy ?_ | refine ju ?_ | refine jv ?_)) <;> (try (conv => whnf))
theorem c_MakeSafe (l : Bool) (d : List UInt8) (tk ad tm : Int) (hd : 0 ≤ d.length) (k : Int) (hk : 0 ≤ k ∧ k ≤ 18446744073709551615) : Fn Try.prog 23 [.a [.sl (d.map u8) d.length, .i .i64 tk, .i .i64 ad, .i .i64 tm], .o (.b l), .o (.i .u64 k)] [] (.tup [.fr ((mk7 l k (prN l (d, tk, ad, tm))).1.map u8) (mk7 l k (prN l (d, tk, ad, tm))).1.length 1, .c (.o (.i .i64 (mk7 l k (prN l (d, tk, ad, tm))).2))]) [] := by
  have cS := c_sealP l d tk ad tm hd 6 k hk
  have hl := prN_len l (d, tk, ad, tm)
  generalize prN l (d, tk, ad, tm) = N at *
  have hs := sealS_len 6 k N
  have my := @mk7_ok l k N
  have mn := @mk7_no l k N
  generalize mk7 l k N = R at *
  generalize sealS 6 k N = S at *
  have cJ := c_join2 l N.1 S.1 (by omega) (by omega)
  refine Fn_intro (G := g23) (goodA rfl) (fn := Try.f23) rfl rfl rfl rfl rfl ?_
  (repeat' ((conv => whnf) <;> first | exact rfl | with_reducible refine boolK_dec (fun _ => ?_) (fun _ => ?_) <;> try (exfalso; omega) | refine boolK_beq (fun _ => ?_) (fun _ => ?_) <;> try (exfalso; first | omega | contradiction) | refine boolK_bne (fun _ => ?_) (fun _ => ?_) <;> try (exfalso; first | omega | contradiction) | (with_reducible first | refine boolK_not ?_ | refine boolK_and ?_ | refine boolK_or ?_ | refine boolK_true ?_ | refine boolK_false ?_) | refine boolK_intro (fun _ => ?_) (fun _ => ?_) <;> try (exfalso; simp_all; done) | with_reducible refine natK_lit ?_ | refine natK_of rfl ?_ | refine natK_any ?_ | refine jP ?_ | refine jQ ?_ | refine jR ?_ | refine jS ?_ | refine jT ?_ | refine jU (fun _ => ?_) | refine jV ?_ | refine jW ?_ | refine jX ?_ | refine jY ?_ | refine jZ ?_ | refine ja ?_ | refine jb ?_ | refine jc ?_ | refine jd ?_ | refine je ?_ | refine jf ?_ | refine jg ?_ | refine jh ?_ | refine ji ?_ | refine jj ?_ | refine jk ?_ | refine jn ?_ | refine jo ?_ | refine jp ?_ | refine jq ?_ | refine jr ?_ | refine js ?_ | refine callK_intro (cS) ?_ | refine callK_intro (cJ) ?_ | refine jt ?_ | refine jx ?_ | refine jy ?_ | refine ju ?_ | refine sideK_intro (by first | (rw [mn (by assumption)] <;> first | rfl | exact ⟨rfl, rfl⟩ | exact ⟨rfl, rfl, rfl⟩) | (rw [my (by assumption)] <;> first | rfl | exact ⟨rfl, rfl⟩ | exact ⟨rfl, rfl, rfl⟩) | (rw [my (by assumption)]; exact ⟨rfl, rfl, rfl⟩)) ?_ | refine jv ?_)) <;> (try (conv => whnf))
theorem c_rMakeSafe (l : Bool) (d : List UInt8) (tk ad tm : Int) (hd : 0 ≤ d.length) (k : Int) (hk : 0 ≤ k ∧ k ≤ 18446744073709551615) : Fn Try.prog 25 [.a [.sl (d.map u8) d.length, .i .i64 tk, .i .i64 ad, .i .i64 tm], .o (.b l), .o (.i .u64 k)] [] (.tup [.fr ((mk7 l k (prN l (d, tk, ad, tm))).1.map u8) (mk7 l k (prN l (d, tk, ad, tm))).1.length 1, .c (.o (.i .i64 (mk7 l k (prN l (d, tk, ad, tm))).2))]) [] := by
  have sy := c_rsealP_ok l d tk ad tm hd 6 k hk
  have sn := c_rsealP_no l d tk ad tm hd 6 k hk
  have hl := prN_len l (d, tk, ad, tm)
  generalize prN l (d, tk, ad, tm) = N at *
  have hs := sealS_len 6 k N
  refine Fn_intro (G := g25) (goodA rfl) (fn := Try.f25) rfl rfl rfl rfl rfl ?_
  by_cases h0 : (sealS 6 k N).2 = 0
  · have sy := sy h0
    rw [mk7_ok h0]
    clear sn
    generalize sealS 6 k N = S at *
    have cP := c_rput 7 l
    have q0 := putS_len2 (k := 7) (l := l) (by decide) (by decide)
    have c1 := c_rputS (putS 7 l) N.1 rfl rfl (by omega) (by omega) l
    have c2 := c_rputS (putS 7 l ++ numS l 2 (N.1.length : Int) ++ N.1) S.1 (m := (putS 7 l).length + 2 + N.1.length) (by simp; omega) rfl (by simp; omega) (by omega) l
    have fin : msg7 l N.1 S.1 = putS 7 l ++ numS l 2 (N.1.length : Int) ++ N.1 ++ numS l 2 (S.1.length : Int) ++ S.1 := rfl
    have hq := msg7_len l N.1 S.1
    rw [← fin] at c2
    have hB1 : (putS 7 l ++ numS l 2 (N.1.length : Int) ++ N.1).length = 4 + N.1.length := by simp; omega
    clear fin
    generalize msg7 l N.1 S.1 = B at *
    generalize putS 7 l ++ numS l 2 (N.1.length : Int) ++ N.1 = B1 at *
    (repeat' ((conv => whnf) <;> first | exact rfl | with_reducible refine boolK_dec (fun _ => ?_) (fun _ => ?_) <;> try (exfalso; omega) | refine boolK_beq (fun _ => ?_) (fun _ => ?_) <;> try (exfalso; first | omega | contradiction) | refine boolK_bne (fun _ => ?_) (fun _ => ?_) <;> try (exfalso; first | omega | contradiction) | (with_reducible first | refine boolK_not ?_ | refine boolK_and ?_ | refine boolK_or ?_ | refine boolK_true ?_ | refine boolK_false ?_) | refine boolK_intro (fun _ => ?_) (fun _ => ?_) <;> try (exfalso; simp_all; done) | with_reducible refine natK_lit ?_ | refine natK_of rfl ?_ | refine natK_any ?_ | refine jP ?_ | refine jQ ?_ | refine jR ?_ | refine jS ?_ | refine jT ?_ | refine jU (fun _ => ?_) | refine jV ?_ | refine jW ?_ | refine jX ?_ | refine jY ?_ | refine jZ ?_ | refine ja ?_ | refine jb ?_ | refine jc ?_ | refine jd ?_ | refine je ?_ | refine jf ?_ | refine jg ?_ | refine jh ?_ | refine ji ?_ | refine jj ?_ | refine jk ?_ | refine jn ?_ | refine jo ?_ | refine jp ?_ | refine jq ?_ | refine jr ?_ | refine js ?_ | refine callK_intro (sy) ?_ | refine callK_intro (cP) ?_ | refine callK_intro (c1) ?_ | refine callK_intro (c2) ?_ | refine jt ?_ | refine jx ?_ | refine jy ?_ | refine ju ?_ | refine sideK_intro (by first | (exact ⟨rfl, by omega, rfl⟩)) ?_ | refine jv ?_)) <;> (try (conv => whnf))
  · have sn := sn h0
    rw [mk7_no h0]
    clear sy
    generalize sealS 6 k N = S at *
    (repeat' ((conv => whnf) <;> first | exact rfl | with_reducible refine boolK_dec (fun _ => ?_) (fun _ => ?_) <;> try (exfalso; omega) | refine boolK_beq (fun _ => ?_) (fun _ => ?_) <;> try (exfalso; first | omega | contradiction) | refine boolK_bne (fun _ => ?_) (fun _ => ?_) <;> try (exfalso; first | omega | contradiction) | (with_reducible first | refine boolK_not ?_ | refine boolK_and ?_ | refine boolK_or ?_ | refine boolK_true ?_ | refine boolK_false ?_) | refine boolK_intro (fun _ => ?_) (fun _ => ?_) <;> try (exfalso; simp_all; done) | with_reducible refine natK_lit ?_ | refine natK_of rfl ?_ | refine natK_any ?_ | refine jP ?_ | refine jQ ?_ | refine jR ?_ | refine jS ?_ | refine jT ?_ | refine jU (fun _ => ?_) | refine jV ?_ | refine jW ?_ | refine jX ?_ | refine jY ?_ | refine jZ ?_ | refine ja ?_ | refine jb ?_ | refine jc ?_ | refine jd ?_ | refine je ?_ | refine jf ?_ | refine jg ?_ | refine jh ?_ | refine ji ?_ | refine jj ?_ | refine jk ?_ | refine jn ?_ | refine jo ?_ | refine jp ?_ | refine jq ?_ | refine jr ?_ | refine js ?_ | refine callK_intro (sn) ?_ | refine jt ?_ | refine jx ?_ | refine jy ?_ | refine ju ?_ | refine jv ?_)) <;> (try (conv => whnf))
end Go.Sx

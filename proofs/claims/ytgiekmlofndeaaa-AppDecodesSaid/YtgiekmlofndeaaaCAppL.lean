/-
  Contracts of the small functions of the laws about messages of applications.
-/
import Derived.Test.YtgiekmlofndeaaaCAppD
import Derived.Test.YtgiekmlofndeaaaCData
set_option linter.all false
namespace Go.Sx
open Go.Proofs Go.RowKit
noncomputable def g26 : Par := par 49 (nthLL [[2, 3], [4]]) [4] (nthLL [])
noncomputable def g29 : Par := par 38 (nthLL [[2, 3], [4]]) [4] (nthLL [])
noncomputable def g16 : Par := par 43 (nthLL [[], [1, 2], [1, 2, 3, 4], [0]]) [0] (nthLL [])
noncomputable def g18 : Par := par 37 (nthLL [[1, 2], [2, 3], [2, 3, 23], [2, 3], [2, 3, 31], [2, 3], [2]]) [2] (nthLL [[], [0, 1, 0, 4, 0, 16, 48, 0, 128, 384, 896, 0, 2048, 0, 8192, 32767, 0, 131071]])
set_option maxRecDepth 10000
set_option maxHeartbeats 4000000
theorem c_SameAp (li mu : Bool) (kv : Int) (re t u : List UInt8) : Fn Try.prog 26 [.a [.b li, .b mu, .i .i64 kv, .s re, .sl (t.map u8) t.length, .sl (u.map u8) u.length], .a [.b li, .b mu, .i .i64 kv, .s re, .sl (t.map u8) t.length, .sl (u.map u8) u.length]] [] (.one (.c (.o (.b true)))) [] := by
  refine Fn_intro (G := g26) (goodA rfl) (fn := Try.f26) rfl rfl rfl rfl rfl ?_
  (repeat' ((conv => whnf) <;> first | with_reducible refine boolK_refl ?_ | exact rfl | with_reducible refine boolK_dec (fun _ => ?_) (fun _ => ?_) <;> try (exfalso; omega) | refine boolK_beq (fun _ => ?_) (fun _ => ?_) <;> try (exfalso; first | omega | contradiction) | refine boolK_bne (fun _ => ?_) (fun _ => ?_) <;> try (exfalso; first | omega | contradiction) | (with_reducible first | refine boolK_not ?_ | refine boolK_and ?_ | refine boolK_or ?_ | refine boolK_true ?_ | refine boolK_false ?_) | refine boolK_intro (fun _ => ?_) (fun _ => ?_) <;> try (exfalso; simp_all; done) | refine jC ?_ | refine jD ?_ | refine jE ?_ | refine jF ?_ | refine jG ?_ | with_reducible refine natK_lit ?_ | refine natK_of rfl ?_ | refine natK_any ?_ | refine jP ?_ | refine jQ ?_ | refine jR ?_ | refine jS ?_ | refine jT ?_ | refine jU (fun _ => ?_) | refine jV ?_ | refine jW ?_ | refine jX ?_ | refine jY ?_ | refine jZ ?_ | refine ja ?_ | refine jb ?_ | refine jc ?_ | refine jd ?_ | refine je ?_ | refine jf ?_ | refine jg ?_ | refine jh ?_ | refine ji ?_ | refine jj ?_ | refine jk ?_ | refine jn ?_ | refine jo ?_ | refine jp ?_ | refine jq ?_ | refine jr ?_ | refine js ?_ | refine jt ?_ | refine jx ?_ | refine jy ?_ | refine ju ?_ | refine jv ?_)) <;> (try (conv => whnf))
theorem c_SameTgs (li mu : Bool) (kv tm lf : Int) (re t u sv si : List UInt8) : Fn Try.prog 29 [.a [.b li, .b mu, .i .i64 kv, .s re, .sl (t.map u8) t.length, .sl (u.map u8) u.length, .i .i64 tm, .i .i64 lf, .s sv, .s si], .a [.b li, .b mu, .i .i64 kv, .s re, .sl (t.map u8) t.length, .sl (u.map u8) u.length, .i .i64 tm, .i .i64 lf, .s sv, .s si]] [] (.one (.c (.o (.b true)))) [] := by
  have c := c_SameAp li mu kv re t u
  refine Fn_intro (G := g29) (goodA rfl) (fn := Try.f29) rfl rfl rfl rfl rfl ?_
  (repeat' ((conv => whnf) <;> first | with_reducible refine boolK_refl ?_ | exact rfl | with_reducible refine boolK_dec (fun _ => ?_) (fun _ => ?_) <;> try (exfalso; omega) | refine boolK_beq (fun _ => ?_) (fun _ => ?_) <;> try (exfalso; first | omega | contradiction) | refine boolK_bne (fun _ => ?_) (fun _ => ?_) <;> try (exfalso; first | omega | contradiction) | (with_reducible first | refine boolK_not ?_ | refine boolK_and ?_ | refine boolK_or ?_ | refine boolK_true ?_ | refine boolK_false ?_) | refine boolK_intro (fun _ => ?_) (fun _ => ?_) <;> try (exfalso; simp_all; done) | with_reducible refine natK_lit ?_ | refine natK_of rfl ?_ | refine natK_any ?_ | refine jP ?_ | refine jQ ?_ | refine jR ?_ | refine jS ?_ | refine jT ?_ | refine jU (fun _ => ?_) | refine jV ?_ | refine jW ?_ | refine jX ?_ | refine jY ?_ | refine jZ ?_ | refine ja ?_ | refine jb ?_ | refine jc ?_ | refine jd ?_ | refine je ?_ | refine jf ?_ | refine jg ?_ | refine jh ?_ | refine ji ?_ | refine jj ?_ | refine jk ?_ | refine jn ?_ | refine jo ?_ | refine jp ?_ | refine jq ?_ | refine jr ?_ | refine js ?_ | refine callK_intro (c) ?_ | refine jt ?_ | refine jx ?_ | refine jy ?_ | refine ju ?_ | refine jv ?_)) <;> (try (conv => whnf))
theorem awk10_h1 : mtN true (1, 0, 0) = (([1, 1, 0, 0, 0, 0, 0, 0, 0, 0, 0, 0, 0, 0, 0, 0] : List UInt8), 0) := by decide +kernel
theorem awk10_h2 : apN (false, true, 0, [82], [], []) = (([4, 8, 0, 82, 0, 0, 0] : List UInt8), 0) := by decide +kernel
theorem c_awk10 : Fn Try.prog 50 [.a [.i .i64 1, .i .i64 0, .i .i64 0], .o (.b true)] [] (.tup [.fr (([1, 1, 0, 0, 0, 0, 0, 0, 0, 0, 0, 0, 0, 0, 0, 0] : List UInt8).map u8) 16 1, .c (.o (.i .i64 0))]) [] := by
  have c := c_EncodeMutual true 1 0 0
  rw [awk10_h1] at c
  exact c
theorem c_awk10b : Fn Try.prog 51 [.a [.b false, .b true, .i .i64 0, .s [82], .sl [] 0, .sl [] 0]] [] (.tup [.fr (([4, 8, 0, 82, 0, 0, 0] : List UInt8).map u8) 7 1, .c (.o (.i .i64 0))]) [] := by
  have c := c_EncodeAp false true 0 [82] [] [] (by decide) (by decide) (by decide)
  rw [awk10_h2] at c
  exact c
theorem c_awake10 : Fn Try.prog 16 [] [] (.one (.c (.o (.b true)))) [] := by
  refine Fn_intro (G := g16) (goodA rfl) (fn := Try.f16) rfl rfl rfl rfl rfl ?_
  (repeat' ((conv => whnf) <;> first | exact rfl | with_reducible refine boolK_dec (fun _ => ?_) (fun _ => ?_) <;> try (exfalso; omega) | refine boolK_beq (fun _ => ?_) (fun _ => ?_) <;> try (exfalso; first | omega | contradiction) | refine boolK_bne (fun _ => ?_) (fun _ => ?_) <;> try (exfalso; first | omega | contradiction) | (with_reducible first | refine boolK_not ?_ | refine boolK_and ?_ | refine boolK_or ?_ | refine boolK_true ?_ | refine boolK_false ?_) | refine boolK_intro (fun _ => ?_) (fun _ => ?_) <;> try (exfalso; simp_all; done) | with_reducible refine natK_lit ?_ | refine natK_of rfl ?_ | refine natK_any ?_ | refine jP ?_ | refine jQ ?_ | refine jR ?_ | refine jS ?_ | refine jT ?_ | refine jU (fun _ => ?_) | refine jV ?_ | refine jW ?_ | refine jX ?_ | refine jY ?_ | refine jZ ?_ | refine ja ?_ | refine jb ?_ | refine jc ?_ | refine jd ?_ | refine je ?_ | refine jf ?_ | refine jg ?_ | refine jh ?_ | refine ji ?_ | refine jj ?_ | refine jk ?_ | refine jn ?_ | refine jo ?_ | refine jp ?_ | refine jq ?_ | refine jr ?_ | refine js ?_ | refine callK_intro (c_awk10) ?_ | refine callK_intro (c_awk10b) ?_ | refine jt ?_ | refine jx ?_ | refine jy ?_ | refine ju ?_ | refine jv ?_)) <;> (try (conv => whnf))
theorem mt_pack (l : Bool) (ck tk tm : Int) : ∃ V : List UInt8 × Int, V.1.length ≤ 16 ∧ Fn Try.prog 50 [.a [.i .i64 ck, .i .i64 tk, .i .i64 tm], .o (.b l)] [] (.tup [.fr (V.1.map u8) V.1.length 1, .c (.o (.i .i64 V.2))]) [] ∧ Fn Try.prog 21 [.a [.i .i64 ck, .i .i64 tk, .i .i64 tm], .o (.b l)] [] (.tup [.fr (V.1.map u8) V.1.length 1, .c (.o (.i .i64 V.2))]) [] ∧
    (V.2 = 0 → Fn Try.prog 30 [.o (.sl (V.1.map u8) V.1.length), .o (.b l)] [] (.tup [.c (.a [.i .i64 ck, .i .i64 tk, .i .i64 tm]), .c (.o (.i .i64 0))]) []) ∧ (V.2 = 0 → Fn Try.prog 30 [.o (.sl (V.1.map u8) V.1.length), .o (.b (!l))] [] (.tup [.c (.a [.i .i64 0, .i .i64 0, .i .i64 0]), .c (.o (.i .i64 100))]) []) := by
  have n1 := mtN_len l (ck, tk, tm)
  refine ⟨mtN l (ck, tk, tm), n1, c_EncodeMutual l ck tk tm, c_rEncodeMutual l ck tk tm, fun h => ?_, fun h => ?_⟩
  · have c := c_DecodeMutual (mtN l (ck, tk, tm)).1 rfl (by omega) l
    rw [mtD_trip (x := (ck, tk, tm)) (pair_of h rfl)] at c
    exact c
  · have c := c_DecodeMutual (mtN l (ck, tk, tm)).1 rfl (by omega) (!l)
    rw [mtD_other (x := (ck, tk, tm)) (pair_of h rfl)] at c
    exact c
theorem an_pack (l : Bool) (d : List UInt8) (hd : d.length ≤ 90000) : ∃ V : List UInt8 × Int, V.1.length ≤ 1016 ∧ Fn Try.prog 80 [.o (.sl (d.map u8) d.length), .o (.b l)] [] (.tup [.fr (V.1.map u8) V.1.length 1, .c (.o (.i .i64 V.2))]) [] ∧ Fn Try.prog 22 [.o (.sl (d.map u8) d.length), .o (.b l)] [] (.tup [.fr (V.1.map u8) V.1.length 1, .c (.o (.i .i64 V.2))]) [] ∧
    (V.2 = 0 → Fn Try.prog 32 [.o (.sl (V.1.map u8) V.1.length)] [] (.tup [.c (.o (.sl (d.map u8) d.length)), .c (.o (.b l)), .c (.o (.i .i64 0))]) []) := by
  have n1 := anN_len (d, l)
  refine ⟨anN (d, l), n1, c_EncodeAnswer d rfl (by omega) l, c_rEncodeAnswer d rfl (by omega) l, fun h => ?_⟩
  have c := c_DecodeAnswer (anN (d, l)).1 rfl (by omega)
  rw [anD_trip (x := (d, l)) (pair_of h rfl)] at c
  exact c
theorem take_of {t : List UInt8} (h : t.length > 255) : (t.take 255).length = 255 := by simp; omega
theorem c_request (li mu : Bool) (kv re : UInt8) (t u : List UInt8) : ∃ (t' u' : List UInt8), t'.length ≤ 255 ∧ u'.length ≤ 255 ∧ t'.length ≤ t.length ∧ u'.length ≤ u.length ∧ Fn Try.prog 18 [.a [.b li, .b mu, .i .u8 (kv.toNat : Int), .i .u8 (re.toNat : Int), .sl (t.map u8) t.length, .sl (u.map u8) u.length]] [] (.one (.c (.a [.b li, .b mu, .i .i64 (kv.toNat : Int), .s (realmN (re.toNat : Int)), .sl (t'.map u8) t'.length, .sl (u'.map u8) u'.length]))) [] := by
  have hk := byte_lt kv
  have hr := byte_lt re
  have cR := c_Realm (re.toNat : Int) (by omega)
  by_cases ht : t.length > 255
  · by_cases hu : u.length > 255
    · refine ⟨t.take 255, u.take 255, by simp; omega, by simp; omega, by simp; omega, by simp; omega, ?_⟩
      rw [take_of ht, take_of hu]
      refine Fn_intro (G := g18) (goodA rfl) (fn := Try.f18) rfl rfl rfl rfl rfl ?_
      (repeat' ((conv => whnf) <;> first | exact rfl | with_reducible refine boolK_dec (fun _ => ?_) (fun _ => ?_) <;> try (exfalso; omega) | refine boolK_beq (fun _ => ?_) (fun _ => ?_) <;> try (exfalso; first | omega | contradiction) | refine boolK_bne (fun _ => ?_) (fun _ => ?_) <;> try (exfalso; first | omega | contradiction) | (with_reducible first | refine boolK_not ?_ | refine boolK_and ?_ | refine boolK_or ?_ | refine boolK_true ?_ | refine boolK_false ?_) | refine boolK_intro (fun _ => ?_) (fun _ => ?_) <;> try (exfalso; simp_all; done) | refine jC ?_ | refine jD ?_ | refine jE ?_ | refine jF ?_ | refine jG ?_ | with_reducible refine natK_lit ?_ | refine natK_of rfl ?_ | refine natK_any ?_ | refine jP ?_ | refine jQ ?_ | refine jR ?_ | refine jS ?_ | refine jT ?_ | refine jU (fun _ => ?_) | refine jV ?_ | refine jW ?_ | refine jX ?_ | refine jY ?_ | refine jZ ?_ | refine ja ?_ | refine jb ?_ | refine jc ?_ | refine jd ?_ | refine je ?_ | refine jf ?_ | refine jg ?_ | refine jh ?_ | refine ji ?_ | refine jj ?_ | refine jk ?_ | refine jn ?_ | refine jo ?_ | refine jp ?_ | refine jq ?_ | refine jr ?_ | refine js ?_ | refine callK_intro (cR) ?_ | refine jt ?_ | refine jx ?_ | refine jy ?_ | refine ju ?_ | refine jv ?_)) <;> (try (conv => whnf))
    · refine ⟨t.take 255, u, by simp; omega, by omega, by simp; omega, by omega, ?_⟩
      rw [take_of ht]
      refine Fn_intro (G := g18) (goodA rfl) (fn := Try.f18) rfl rfl rfl rfl rfl ?_
      (repeat' ((conv => whnf) <;> first | exact rfl | with_reducible refine boolK_dec (fun _ => ?_) (fun _ => ?_) <;> try (exfalso; omega) | refine boolK_beq (fun _ => ?_) (fun _ => ?_) <;> try (exfalso; first | omega | contradiction) | refine boolK_bne (fun _ => ?_) (fun _ => ?_) <;> try (exfalso; first | omega | contradiction) | (with_reducible first | refine boolK_not ?_ | refine boolK_and ?_ | refine boolK_or ?_ | refine boolK_true ?_ | refine boolK_false ?_) | refine boolK_intro (fun _ => ?_) (fun _ => ?_) <;> try (exfalso; simp_all; done) | refine jC ?_ | refine jD ?_ | refine jE ?_ | refine jF ?_ | refine jG ?_ | with_reducible refine natK_lit ?_ | refine natK_of rfl ?_ | refine natK_any ?_ | refine jP ?_ | refine jQ ?_ | refine jR ?_ | refine jS ?_ | refine jT ?_ | refine jU (fun _ => ?_) | refine jV ?_ | refine jW ?_ | refine jX ?_ | refine jY ?_ | refine jZ ?_ | refine ja ?_ | refine jb ?_ | refine jc ?_ | refine jd ?_ | refine je ?_ | refine jf ?_ | refine jg ?_ | refine jh ?_ | refine ji ?_ | refine jj ?_ | refine jk ?_ | refine jn ?_ | refine jo ?_ | refine jp ?_ | refine jq ?_ | refine jr ?_ | refine js ?_ | refine callK_intro (cR) ?_ | refine jt ?_ | refine jx ?_ | refine jy ?_ | refine ju ?_ | refine jv ?_)) <;> (try (conv => whnf))
  · by_cases hu : u.length > 255
    · refine ⟨t, u.take 255, by omega, by simp; omega, by omega, by simp; omega, ?_⟩
      rw [take_of hu]
      refine Fn_intro (G := g18) (goodA rfl) (fn := Try.f18) rfl rfl rfl rfl rfl ?_
      (repeat' ((conv => whnf) <;> first | exact rfl | with_reducible refine boolK_dec (fun _ => ?_) (fun _ => ?_) <;> try (exfalso; omega) | refine boolK_beq (fun _ => ?_) (fun _ => ?_) <;> try (exfalso; first | omega | contradiction) | refine boolK_bne (fun _ => ?_) (fun _ => ?_) <;> try (exfalso; first | omega | contradiction) | (with_reducible first | refine boolK_not ?_ | refine boolK_and ?_ | refine boolK_or ?_ | refine boolK_true ?_ | refine boolK_false ?_) | refine boolK_intro (fun _ => ?_) (fun _ => ?_) <;> try (exfalso; simp_all; done) | refine jC ?_ | refine jD ?_ | refine jE ?_ | refine jF ?_ | refine jG ?_ | with_reducible refine natK_lit ?_ | refine natK_of rfl ?_ | refine natK_any ?_ | refine jP ?_ | refine jQ ?_ | refine jR ?_ | refine jS ?_ | refine jT ?_ | refine jU (fun _ => ?_) | refine jV ?_ | refine jW ?_ | refine jX ?_ | refine jY ?_ | refine jZ ?_ | refine ja ?_ | refine jb ?_ | refine jc ?_ | refine jd ?_ | refine je ?_ | refine jf ?_ | refine jg ?_ | refine jh ?_ | refine ji ?_ | refine jj ?_ | refine jk ?_ | refine jn ?_ | refine jo ?_ | refine jp ?_ | refine jq ?_ | refine jr ?_ | refine js ?_ | refine callK_intro (cR) ?_ | refine jt ?_ | refine jx ?_ | refine jy ?_ | refine ju ?_ | refine jv ?_)) <;> (try (conv => whnf))
    · refine ⟨t, u, by omega, by omega, by omega, by omega, ?_⟩
      refine Fn_intro (G := g18) (goodA rfl) (fn := Try.f18) rfl rfl rfl rfl rfl ?_
      (repeat' ((conv => whnf) <;> first | exact rfl | with_reducible refine boolK_dec (fun _ => ?_) (fun _ => ?_) <;> try (exfalso; omega) | refine boolK_beq (fun _ => ?_) (fun _ => ?_) <;> try (exfalso; first | omega | contradiction) | refine boolK_bne (fun _ => ?_) (fun _ => ?_) <;> try (exfalso; first | omega | contradiction) | (with_reducible first | refine boolK_not ?_ | refine boolK_and ?_ | refine boolK_or ?_ | refine boolK_true ?_ | refine boolK_false ?_) | refine boolK_intro (fun _ => ?_) (fun _ => ?_) <;> try (exfalso; simp_all; done) | refine jC ?_ | refine jD ?_ | refine jE ?_ | refine jF ?_ | refine jG ?_ | with_reducible refine natK_lit ?_ | refine natK_of rfl ?_ | refine natK_any ?_ | refine jP ?_ | refine jQ ?_ | refine jR ?_ | refine jS ?_ | refine jT ?_ | refine jU (fun _ => ?_) | refine jV ?_ | refine jW ?_ | refine jX ?_ | refine jY ?_ | refine jZ ?_ | refine ja ?_ | refine jb ?_ | refine jc ?_ | refine jd ?_ | refine je ?_ | refine jf ?_ | refine jg ?_ | refine jh ?_ | refine ji ?_ | refine jj ?_ | refine jk ?_ | refine jn ?_ | refine jo ?_ | refine jp ?_ | refine jq ?_ | refine jr ?_ | refine js ?_ | refine callK_intro (cR) ?_ | refine jt ?_ | refine jx ?_ | refine jy ?_ | refine ju ?_ | refine jv ?_)) <;> (try (conv => whnf))
theorem request_ok {kv re : UInt8} {t u : List UInt8} (ht : t.length ≤ 255) (hu : u.length ≤ 255) : apC (kv.toNat : Int) (realmN (re.toNat : Int)) t u = 0 := by
  have hk := byte_lt kv
  exact apC_0 (realm_valid _) (by omega) ⟨ht, hu⟩
end Go.Sx

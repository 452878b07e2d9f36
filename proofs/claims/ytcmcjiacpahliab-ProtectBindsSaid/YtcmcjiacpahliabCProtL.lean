/-
  Contracts of the small functions of the laws about safe and private messages.
-/
import Derived.Test.YtcmcjiacpahliabCProtO
import Derived.Test.YtcmcjiacpahliabCAuthD
set_option linter.all false
namespace Go.Sx
open Go.Proofs Go.RowKit
noncomputable def g55 : Par := par 16 (nthLL [[0, 1, 4], [0, 4, 5], [4]]) [4] (nthLL [])
noncomputable def g54 : Par := par 40 (nthLL [[], [1], [1, 2, 3], [2, 3, 4, 5], [0]]) [0] (nthLL [])
set_option maxRecDepth 10000
set_option maxHeartbeats 16000000
theorem pr_pack (l : Bool) (d : List UInt8) (tk ad tm : Int) (hd : d.length ≤ 90000) : ∃ V : List UInt8 × Int, V.1.length ≤ 520 ∧ Fn Try.prog 56 [.a [.sl (d.map u8) d.length, .i .i64 tk, .i .i64 ad, .i .i64 tm], .o (.b l)] [] (.tup [.fr (V.1.map u8) V.1.length 1, .c (.o (.i .i64 V.2))]) [] ∧ Fn Try.prog 57 [.a [.sl (d.map u8) d.length, .i .i64 tk, .i .i64 ad, .i .i64 tm], .o (.b l)] [] (.tup [.fr (V.1.map u8) V.1.length 1, .c (.o (.i .i64 V.2))]) [] ∧
    (V.2 = 0 → Fn Try.prog 58 [.o (.sl (V.1.map u8) V.1.length), .o (.b l)] [] (.tup [.c (.a [.sl (d.map u8) d.length, .i .i64 tk, .i .i64 ad, .i .i64 tm]), .c (.o (.i .i64 0))]) []) ∧ (V.2 = 0 → Fn Try.prog 58 [.o (.sl (V.1.map u8) V.1.length), .o (.b (!l))] [] (.tup [.c (.a [.sl [] 0, .i .i64 0, .i .i64 0, .i .i64 0]), .c (.o (.i .i64 100))]) []) := by
  have n1 := prN_len l (d, tk, ad, tm)
  refine ⟨prN l (d, tk, ad, tm), n1, c_EncodeP l d tk ad tm (by omega), c_rEncodeP l d tk ad tm (by omega), fun h => ?_, fun h => ?_⟩
  · have c := c_DecodeP (prN l (d, tk, ad, tm)).1 rfl (by omega) l
    rw [prD_trip (x := (d, tk, ad, tm)) (pair_of h rfl)] at c
    exact c
  · have c := c_DecodeP (prN l (d, tk, ad, tm)).1 rfl (by omega) (!l)
    rw [prD_other (x := (d, tk, ad, tm)) (pair_of h rfl)] at c
    exact c
theorem c_content11 (d q : List UInt8) {m : Nat} (hm : m = d.length) (hq : q.length ≤ 900000) : ∃ tk ad tm : Int, ((0 ≤ tk ∧ tk ≤ 199) ∧ (0 ≤ ad ∧ ad ≤ 4294967295) ∧ (0 ≤ tm ∧ tm ≤ 4294967295)) ∧ ∀ (cs : List L), cs = d.map u8 → Fn Try.prog 55 [.o (.sl cs m), .o (.sl (q.map u8) q.length)] [] (.one (.c (.a [.sl (d.map u8) d.length, .i .i64 tk, .i .i64 ad, .i .i64 tm]))) [] := by
  subst hm
  obtain ⟨x, y, z, ck, tk, tm, hv, cA⟩ := c_Auth q rfl hq
  obtain ⟨_, h1, h2, h3⟩ := authC_ok hv
  refine ⟨tk, ck, tm, ⟨h2, h1, h3⟩, ?_⟩
  rintro cs rfl
  refine Fn_intro (G := g55) (goodA rfl) (fn := Try.f55) rfl rfl rfl rfl rfl ?_
  (repeat' ((conv => whnf) <;> first | exact rfl | with_reducible refine boolK_dec (fun _ => ?_) (fun _ => ?_) <;> try (exfalso; omega) | refine boolK_beq (fun _ => ?_) (fun _ => ?_) <;> try (exfalso; first | omega | contradiction) | refine boolK_bne (fun _ => ?_) (fun _ => ?_) <;> try (exfalso; first | omega | contradiction) | (with_reducible first | refine boolK_not ?_ | refine boolK_and ?_ | refine boolK_or ?_ | refine boolK_true ?_ | refine boolK_false ?_) | refine boolK_intro (fun _ => ?_) (fun _ => ?_) <;> try (exfalso; simp_all; done) | with_reducible refine natK_lit ?_ | refine natK_of rfl ?_ | refine natK_any ?_ | refine jP ?_ | refine jQ ?_ | refine jR ?_ | refine jS ?_ | refine jT ?_ | refine jU (fun _ => ?_) | refine jV ?_ | refine jW ?_ | refine jX ?_ | refine jY ?_ | refine jZ ?_ | refine ja ?_ | refine jb ?_ | refine jc ?_ | refine jd ?_ | refine je ?_ | refine jf ?_ | refine jg ?_ | refine jh ?_ | refine ji ?_ | refine jj ?_ | refine jk ?_ | refine jn ?_ | refine jo ?_ | refine jp ?_ | refine jq ?_ | refine jr ?_ | refine js ?_ | refine callK_intro (cA) ?_ | refine jt ?_ | refine jx ?_ | refine jy ?_ | refine ju ?_ | refine jv ?_)) <;> (try (conv => whnf))
theorem mk6_made {l : Bool} {k : Int} {x : PrT} {E : List UInt8} (h : prN l x = (E, 0)) (ho : keyOk k = true) (hE : E.length ≤ 1000) : mk6 l k (prN l x) = (msg6 l (boxB 5 k E), 0) := by
  have e : sealS 5 k (prN l x) = (boxB 5 k E, 0) := by rw [h, sealS_yes rfl, makeS_ok (by omega) ho (by dsimp only; omega)]
  rw [mk6_ok (by rw [e]), e]
theorem mk7_made {l : Bool} {k : Int} {x : PrT} {E : List UInt8} (h : prN l x = (E, 0)) (ho : keyOk k = true) (hE : E.length ≤ 1000) : mk7 l k (prN l x) = (msg7 l E (boxB 6 k E), 0) := by
  have e : sealS 6 k (prN l x) = (boxB 6 k E, 0) := by rw [h, sealS_yes rfl, makeS_ok (by omega) ho (by dsimp only; omega)]
  rw [mk7_ok (by rw [e]), e, h]
theorem openS_made {l : Bool} {k k' : Int} {x : PrT} {E : List UInt8} (h : prN l x = (E, 0)) (hk : 0 ≤ k ∧ k ≤ 18446744073709551615) (ho : keyOk k = true) (hE : E.length ≤ 1000) : openS (msg7 l E (boxB 6 k E)) k' = if k = k' then (x, 0) else (pr0, 41) := by
  have hl := boxB_len 6 k E
  have p := parts_msg7 (l := l) (t := E) (x := boxB 6 k E) hE (by omega)
  by_cases h1 : k = k'
  · subst h1
    have e := boxO_boxB (kd := 6) (by omega) hk ho hE
    rw [if_pos rfl, openS_c (by rw [p]) (by rw [p]) (by rw [p]; simp only; rw [e]) (by rw [p]; simp only; rw [e]), p]
    simp only
    have t := prD_trip h
    rw [cont_yes (by rw [t]), t]
  · rw [if_neg h1, openS_m (by rw [p]) (by rw [p]) (.inl (by rw [p]; simp only; rw [boxO_other (by omega) hk ho hE h1]))]
theorem openP_made {l : Bool} {k k' : Int} {x : PrT} {E : List UInt8} (h : prN l x = (E, 0)) (hk : 0 ≤ k ∧ k ≤ 18446744073709551615) (ho : keyOk k = true) (hE : E.length ≤ 1000) : openP (msg6 l (boxB 5 k E)) k' = if k = k' then (x, 0) else (pr0, 41) := by
  have hl := boxB_len 5 k E
  have p := parts_msg6 (l := l) (x := boxB 5 k E) (by omega)
  by_cases h1 : k = k'
  · subst h1
    have e := boxO_boxB (kd := 5) (by omega) hk ho hE
    rw [if_pos rfl, openP_c (by rw [p]) (by rw [p]) (by rw [p]; simp only; rw [e]), p]
    simp only
    have t := prD_trip h
    rw [e]
    simp only
    rw [cont_yes (by rw [t]), t]
  · rw [if_neg h1, openP_m (by rw [p]) (by rw [p]) (by rw [p]; simp only; rw [boxO_other (by omega) hk ho hE h1])]
theorem openP_7 {l : Bool} {k : Int} {t x : List UInt8} (ht : t.length ≤ 1000) (hx : x.length ≤ 1012) : openP (msg7 l t x) k = (pr0, 40) := by
  have p := parts_msg7 (l := l) ht hx
  rw [openP_t (by rw [p]) (by rw [p]; simp)]
theorem openS_6 {l : Bool} {k : Int} {x : List UInt8} (hx : x.length ≤ 1012) : openS (msg6 l x) k = (pr0, 40) := by
  have p := parts_msg6 (l := l) hx
  rw [openS_t (by rw [p]) (by rw [p]; simp)]
theorem c_awk11 : ∃ B : List UInt8, B.length = 50 ∧ Fn Try.prog 63 [.a [.sl [] 0, .i .i64 3, .i .i64 0, .i .i64 9], .o (.b true), .o (.i .u64 (sessN 1))] [] (.tup [.fr (B.map u8) 50 1, .c (.o (.i .i64 0))]) [] ∧ Fn Try.prog 67 [.o (.sl (B.map u8) 50), .o (.i .u64 (sessN 1))] [] (.tup [.c (.a [.sl [] 0, .i .i64 3, .i .i64 0, .i .i64 9]), .c (.o (.i .i64 0))]) [] := by
  have hx : prN true ([], 3, 0, 9) = (prE true [] 3 0 9, 0) := prN_ok (by decide) (by decide)
  have hl : (prE true [] 3 0 9).length = 16 := by rw [prE, padS_len, prB_len]; rfl
  have rk := sess_range' (n := 1) (by omega)
  have ok := (sess_ok (n := 1) (by omega)).1
  have c1 := c_MakeSafe true [] 3 0 9 (by decide) (sessN 1) rk
  rw [mk7_made hx ok (by omega)] at c1
  have hb := boxB_len 6 (sessN 1) (prE true [] 3 0 9)
  have hm := msg7_len true (prE true [] 3 0 9) (boxB 6 (sessN 1) (prE true [] 3 0 9))
  have c2 := c_OpenSafe (msg7 true (prE true [] 3 0 9) (boxB 6 (sessN 1) (prE true [] 3 0 9))) rfl (by omega) (sessN 1)
  rw [openS_made hx rk ok (by omega), if_pos rfl] at c2
  generalize msg7 true (prE true [] 3 0 9) (boxB 6 (sessN 1) (prE true [] 3 0 9)) = B at *
  have h50 : B.length = 50 := by omega
  dsimp only at c1 c2
  rw [h50] at c1 c2
  exact ⟨B, h50, c1, c2⟩
theorem c_awake11 : Fn Try.prog 54 [] [] (.one (.c (.o (.b true)))) [] := by
  obtain ⟨B, hB, c1, c2⟩ := c_awk11
  have cK := c_Session 1 (by omega)
  generalize sessN 1 = k at *
  refine Fn_intro (G := g54) (goodA rfl) (fn := Try.f54) rfl rfl rfl rfl rfl ?_
  (repeat' ((conv => whnf) <;> first | exact rfl | with_reducible refine boolK_dec (fun _ => ?_) (fun _ => ?_) <;> try (exfalso; omega) | refine boolK_beq (fun _ => ?_) (fun _ => ?_) <;> try (exfalso; first | omega | contradiction) | refine boolK_bne (fun _ => ?_) (fun _ => ?_) <;> try (exfalso; first | omega | contradiction) | (with_reducible first | refine boolK_not ?_ | refine boolK_and ?_ | refine boolK_or ?_ | refine boolK_true ?_ | refine boolK_false ?_) | refine boolK_intro (fun _ => ?_) (fun _ => ?_) <;> try (exfalso; simp_all; done) | with_reducible refine natK_lit ?_ | refine natK_of rfl ?_ | refine natK_any ?_ | refine jP ?_ | refine jQ ?_ | refine jR ?_ | refine jS ?_ | refine jT ?_ | refine jU (fun _ => ?_) | refine jV ?_ | refine jW ?_ | refine jX ?_ | refine jY ?_ | refine jZ ?_ | refine ja ?_ | refine jb ?_ | refine jc ?_ | refine jd ?_ | refine je ?_ | refine jf ?_ | refine jg ?_ | refine jh ?_ | refine ji ?_ | refine jj ?_ | refine jk ?_ | refine jn ?_ | refine jo ?_ | refine jp ?_ | refine jq ?_ | refine jr ?_ | refine js ?_ | refine callK_intro (cK) ?_ | refine callK_intro (c1) ?_ | refine callK_intro (c2) ?_ | refine jt ?_ | refine jx ?_ | refine jy ?_ | refine ju ?_ | refine jv ?_)) <;> (try (conv => whnf))
end Go.Sx

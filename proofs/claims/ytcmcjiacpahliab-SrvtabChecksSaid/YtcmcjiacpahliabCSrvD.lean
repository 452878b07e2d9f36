/-
  Contracts of the functions that decode lists of keys of services, and of their reference.
-/
import Derived.Test.YtcmcjiacpahliabCSrvE
set_option linter.all false
namespace Go.Sx
open Go.Proofs Go.RowKit
noncomputable def g91 : Par := par 54 (nthLL [[0, 1, 4], [0, 1, 4, 7], [0, 1, 4, 7], [0, 1, 4, 7, 8], [0, 1, 4, 7, 21], [4, 5, 6], [0, 1, 4, 7, 8], [0, 1, 4, 7, 32], [4, 5, 6], [1, 4, 7, 8, 9], [1, 4, 7, 9, 42], [4, 5, 6], [1, 4, 7, 10, 11], [1, 4, 7, 11], [4, 5, 6]]) [1, 4, 5, 6, 11] (nthLL [])
noncomputable def g23 : Par := par 48 (nthLL [[0], [0, 4], [0, 4, 5], [0, 4, 5, 19], [0, 4, 6, 7, 8], [0, 4, 6, 7, 28], [2, 3], [0, 4, 7], [0, 4, 5], [0, 4, 9, 10], [4, 46], [2, 3], [2, 3]]) [2, 3, 4] (nthLL [])
noncomputable def g26 : Par := par 51 (nthLL [[0], [0, 4], [0, 4, 5], [0, 4, 5, 23], [0, 4, 5, 6], [0, 4, 5, 6], [0, 4, 5, 6], [0, 4, 5], [5, 49], [2, 3], [2, 3]]) [2, 3, 5] (nthLL [])
set_option maxRecDepth 10000
set_option maxHeartbeats 4000000
theorem c_readKey (b : List UInt8) {m : Nat} (hm : m = b.length) (hb : b.length ≤ 90000) (k : Int) (hk : 0 ≤ k ∧ k ≤ b.length) : Fn Try.prog 91 [.o (.sl (b.map u8) m), .o (.i .i64 k)] [] (.tup [.c (.a [.s (skRd b k).1.x, .s (skRd b k).1.y, .s (skRd b k).1.z, .i .i64 (skRd b k).1.n, .i .u64 (skRd b k).1.k]), .c (.o (.i .i64 (skRd b k).2.1)), .c (.o (.b (skRd b k).2.2))]) [] := by
  have c1 := c_Principal b hm (by omega) k (by omega)
  have n1 := prin_next b k
  have e1 := @skRd_1 b k
  have e2 := @skRd_2 b k
  have e3 := @skRd_3 b k
  have e4 := @skRd_4 b k
  have c2 := c_Octet b hm (by omega) (prinS b k).2.1 (by omega)
  have n2 := get_next false 1 b (prinS b k).2.1
  generalize prinS b k = P at *
  have c3 := c_Bytes b hm (by omega) (getS false 1 b P.2.1).2.1 8 (by omega)
  have l3 := bytesS_le b (getS false 1 b P.2.1).2.1 8
  generalize getS false 1 b P.2.1 = G at *
  have c4 := c_keyRead (bytesS b G.2.1 8).1 rfl (by omega)
  generalize bytesS b G.2.1 8 = Q at *
  generalize readK Q.1 = U at *
  generalize skRd b k = R at *
  subst hm
  refine Fn_intro (G := g91) (goodA rfl) (fn := Try.f91) rfl rfl rfl rfl rfl ?_
  (repeat' ((conv => whnf) <;> first | exact rfl | with_reducible refine boolK_dec (fun _ => ?_) (fun _ => ?_) <;> try (exfalso; omega) | refine boolK_beq (fun _ => ?_) (fun _ => ?_) <;> try (exfalso; first | omega | contradiction) | refine boolK_bne (fun _ => ?_) (fun _ => ?_) <;> try (exfalso; first | omega | contradiction) | (with_reducible first | refine boolK_not ?_ | refine boolK_and ?_ | refine boolK_or ?_ | refine boolK_true ?_ | refine boolK_false ?_) | refine boolK_intro (fun _ => ?_) (fun _ => ?_) <;> try (exfalso; simp_all; done) | with_reducible refine natK_lit ?_ | refine natK_of rfl ?_ | refine natK_any ?_ | refine jP ?_ | refine jQ ?_ | refine jR ?_ | refine jS ?_ | refine jT ?_ | refine jU (fun _ => ?_) | refine jV ?_ | refine jW ?_ | refine jX ?_ | refine jY ?_ | refine jZ ?_ | refine ja ?_ | refine jb ?_ | refine jc ?_ | refine jd ?_ | refine je ?_ | refine jf ?_ | refine jg ?_ | refine jh ?_ | refine ji ?_ | refine jj ?_ | refine jk ?_ | refine jn ?_ | refine jo ?_ | refine jp ?_ | refine jq ?_ | refine jr ?_ | refine js ?_ | refine callK_intro (c1) ?_ | refine callK_intro (c2) ?_ | refine callK_intro (c3) ?_ | refine callK_intro (c4) ?_ | refine jt ?_ | refine jx ?_ | refine jy ?_ | refine ju ?_ | refine sideK_intro (by first | (rw [e1 (by assumption)] <;> first | rfl | exact ⟨rfl, rfl⟩ | exact ⟨rfl, rfl, rfl⟩) | (rw [e2 (by assumption) (by assumption)] <;> first | rfl | exact ⟨rfl, rfl⟩ | exact ⟨rfl, rfl, rfl⟩) | (rw [e3 (by assumption) (by assumption) (by assumption)] <;> first | rfl | exact ⟨rfl, rfl⟩ | exact ⟨rfl, rfl, rfl⟩) | (rw [e4 (by assumption) (by assumption) (by assumption)] <;> first | rfl | exact ⟨rfl, rfl⟩ | exact ⟨rfl, rfl, rfl⟩)) ?_ | refine jv ?_)) <;> (try (conv => whnf))
theorem c_srvDecode (b : List UInt8) {m : Nat} (hm : m = b.length) (hb : b.length ≤ 90000) : Fn Try.prog 23 [.o (.sl (b.map u8) m)] [] (.tup [.c (.o (.sl (flat skR (skD b).1) (skD b).1.length)), .c (.o (.i .i64 (skD b).2))]) [] := by
  subst hm
  refine Fn_intro (G := g23) (goodA rfl) (fn := Try.f23) rfl rfl rfl rfl rfl ?_
  (repeat' ((conv => whnf) <;> first | exact rfl | with_reducible refine boolK_dec (fun _ => ?_) (fun _ => ?_) <;> try (exfalso; omega) | refine boolK_beq (fun _ => ?_) (fun _ => ?_) <;> try (exfalso; first | omega | contradiction) | refine boolK_bne (fun _ => ?_) (fun _ => ?_) <;> try (exfalso; first | omega | contradiction) | (with_reducible first | refine boolK_not ?_ | refine boolK_and ?_ | refine boolK_or ?_ | refine boolK_true ?_ | refine boolK_false ?_) | refine boolK_intro (fun _ => ?_) (fun _ => ?_) <;> try (exfalso; simp_all; done) | with_reducible refine natK_lit ?_ | refine natK_of rfl ?_ | refine natK_any ?_ | refine jP ?_ | refine jQ ?_ | refine jR ?_ | refine jS ?_ | refine jT ?_ | refine jU (fun _ => ?_) | refine jV ?_ | refine jW ?_ | refine jX ?_ | refine jY ?_ | refine jZ ?_ | refine ja ?_ | refine jb ?_ | refine jc ?_ | refine jd ?_ | refine je ?_ | refine jf ?_ | refine jg ?_ | refine jh ?_ | refine ji ?_ | refine jj ?_ | refine jk ?_ | refine jn ?_ | refine jo ?_ | refine jp ?_ | refine jq ?_ | refine jr ?_ | refine js ?_ | refine jt ?_ | refine jx ?_ | refine jy ?_ | refine ju ?_ | refine jv ?_)) <;> (try (conv => whnf))
  refine loopK_inv (G := g23) (fun n st => ∃ (l : List SK) (k : Int), n + l.length = 61 ∧ skI b l k ∧ (∀ s ∈ l, skSm 40 s) ∧ (0 ≤ k ∧ k ≤ b.length) ∧
    ((l = [] ∧ st = ⟨[(0, .c (.o (.sl (b.map u8) b.length))), (4, .c (.o (.nl))), (5, .c (.o (.i .i64 k)))], []⟩) ∨ (0 < l.length ∧ st = ⟨[(0, .c (.o (.sl (b.map u8) b.length))), (4, .c (.o (.gw 4 l.length 5))), (5, .c (.o (.i .i64 k)))], [(4, .ar (flat skR l))]⟩))) (n := 61) ⟨[], 0, rfl, skI_0 b, by simp, by omega, .inl ⟨rfl, rfl⟩⟩ ?_
  rintro n st ⟨l, k, hn, hI, hs, hk, hst⟩
  have cR := c_readKey b rfl hb k hk
  have nR := skRd_next b k
  have sR := skRd_small b k
  have iB := fun h1 => skI_bad (b := b) (l := l) (k := k) hI h1
  have iS := fun h1 => skI_step (b := b) (l := l) (k := k) hI h1
  have ef : flat skR l ++ [.s (skRd b k).1.x, .s (skRd b k).1.y, .s (skRd b k).1.z, .i .i64 (skRd b k).1.n, .i .u64 (skRd b k).1.k] = flat skR (l ++ [(skRd b k).1]) := by rw [flat_append, flat_one]; rfl
  have cE := c_srvEncode l rfl (by omega) (fun s hm => sk_grow (by omega) (hs s hm))
  have iY := fun h1 => skI_yes (b := b) (l := l) (k := k) hI h1
  have iN := fun h1 => skI_no (b := b) (l := l) (k := k) hI h1
  have hs' : ∀ s ∈ l ++ [(skRd b k).1], skSm 40 s := fun s hm => by
    rcases List.mem_append.1 hm with q | q
    · exact hs s q
    · simp at q; subst q; exact sR
  generalize skN l = N at *
  rcases hst with ⟨rfl, rfl⟩ | ⟨h0, rfl⟩
  · generalize skRd b k = R at *
    generalize skD b = D at *
    (repeat' ((conv => whnf) <;> first | exact rfl | with_reducible refine boolK_dec (fun _ => ?_) (fun _ => ?_) <;> try (exfalso; omega) | refine boolK_beq (fun _ => ?_) (fun _ => ?_) <;> try (exfalso; first | omega | contradiction) | refine boolK_bne (fun _ => ?_) (fun _ => ?_) <;> try (exfalso; first | omega | contradiction) | (with_reducible first | refine boolK_not ?_ | refine boolK_and ?_ | refine boolK_or ?_ | refine boolK_true ?_ | refine boolK_false ?_) | refine boolK_intro (fun _ => ?_) (fun _ => ?_) <;> try (exfalso; simp_all; done) | with_reducible refine natK_lit ?_ | refine natK_of rfl ?_ | refine natK_any ?_ | refine jP ?_ | refine jQ ?_ | refine jR ?_ | refine jS ?_ | refine jT ?_ | refine jU (fun _ => ?_) | refine jV ?_ | refine jW ?_ | refine jX ?_ | refine jY ?_ | refine jZ ?_ | refine ja ?_ | refine jb ?_ | refine jc ?_ | refine jd ?_ | refine je ?_ | refine jf ?_ | refine jg ?_ | refine jh ?_ | refine ji ?_ | refine jj ?_ | refine jk ?_ | refine jn ?_ | refine jo ?_ | refine jp ?_ | refine jq ?_ | refine jr ?_ | refine js ?_ | refine callK_intro (cR) ?_ | refine callK_intro (cE) ?_ | refine callK_intro (c_Equal _ _ rfl rfl) ?_ | exact ⟨n - 1, by simp at hn; omega, [R.1], R.2.1, by simp at hn ⊢; omega, iS (by omega) (by assumption), hs', nR, .inr ⟨by simp, by simp only [flat_one]; rfl⟩⟩ | refine jt ?_ | refine jx ?_ | refine jy ?_ | refine ju ?_ | refine sideK_intro (by first | (rw [iB (by omega) (by assumption)] <;> first | rfl | exact ⟨rfl, rfl⟩ | exact ⟨rfl, rfl, rfl⟩) | (rw [iN (.inl (by omega)) (.inl (by assumption))] <;> first | rfl | exact ⟨rfl, rfl⟩ | exact ⟨rfl, rfl, rfl⟩) | (rw [iN (.inl (by omega)) (.inr (by assumption))] <;> first | rfl | exact ⟨rfl, rfl⟩ | exact ⟨rfl, rfl, rfl⟩) | (rw [iY (.inl (by omega)) (by assumption) (by assumption)] <;> first | rfl | exact ⟨rfl, rfl⟩ | exact ⟨rfl, rfl, rfl⟩)) ?_ | refine jv ?_)) <;> (try (conv => whnf))
  · generalize skRd b k = R at *
    generalize skD b = D at *
    have hf := flat_len skR_len l
    by_cases h60 : l.length ≤ 60
    · (repeat' ((conv => whnf) <;> first | exact rfl | with_reducible refine boolK_dec (fun _ => ?_) (fun _ => ?_) <;> try (exfalso; omega) | refine boolK_beq (fun _ => ?_) (fun _ => ?_) <;> try (exfalso; first | omega | contradiction) | refine boolK_bne (fun _ => ?_) (fun _ => ?_) <;> try (exfalso; first | omega | contradiction) | (with_reducible first | refine boolK_not ?_ | refine boolK_and ?_ | refine boolK_or ?_ | refine boolK_true ?_ | refine boolK_false ?_) | refine boolK_intro (fun _ => ?_) (fun _ => ?_) <;> try (exfalso; simp_all; done) | with_reducible refine natK_lit ?_ | refine natK_of rfl ?_ | refine natK_any ?_ | refine jP ?_ | refine jQ ?_ | refine jR ?_ | refine jS ?_ | refine jT ?_ | refine jU (fun _ => ?_) | refine jV ?_ | refine jW ?_ | refine jX ?_ | refine jY ?_ | refine jZ ?_ | refine ja ?_ | refine jb ?_ | refine jc ?_ | refine jd ?_ | refine je ?_ | refine jf ?_ | refine jg ?_ | refine jh ?_ | refine ji ?_ | refine jj ?_ | refine jk ?_ | refine jn ?_ | refine jo ?_ | refine jp ?_ | refine jq ?_ | refine jr ?_ | refine js ?_ | refine callK_intro (cR) ?_ | refine callK_intro (cE) ?_ | refine callK_intro (c_Equal _ _ rfl rfl) ?_ | refine catK_of ef ?_ | exact ⟨n - 1, by omega, l ++ [R.1], R.2.1, by rw [List.length_append, List.length_singleton]; omega, iS (by omega) (by assumption), hs', nR, .inr ⟨by rw [List.length_append]; omega, by rw [List.length_append]; rfl⟩⟩ | refine jt ?_ | refine jx ?_ | refine jy ?_ | refine ju ?_ | refine sideK_intro (by first | (exact ⟨by omega, rfl⟩) | (rw [iB (by omega) (by assumption)] <;> first | rfl | exact ⟨rfl, rfl⟩ | exact ⟨rfl, rfl, rfl⟩) | (rw [iN (.inl (by omega)) (.inl (by assumption))] <;> first | rfl | exact ⟨rfl, rfl⟩ | exact ⟨rfl, rfl, rfl⟩) | (rw [iN (.inl (by omega)) (.inr (by assumption))] <;> first | rfl | exact ⟨rfl, rfl⟩ | exact ⟨rfl, rfl, rfl⟩) | (rw [iY (.inl (by omega)) (by assumption) (by assumption)] <;> first | rfl | exact ⟨rfl, rfl⟩ | exact ⟨rfl, rfl, rfl⟩)) ?_ | refine jv ?_)) <;> (try (conv => whnf))
    · (repeat' ((conv => whnf) <;> first | exact rfl | with_reducible refine boolK_dec (fun _ => ?_) (fun _ => ?_) <;> try (exfalso; omega) | refine boolK_beq (fun _ => ?_) (fun _ => ?_) <;> try (exfalso; first | omega | contradiction) | refine boolK_bne (fun _ => ?_) (fun _ => ?_) <;> try (exfalso; first | omega | contradiction) | (with_reducible first | refine boolK_not ?_ | refine boolK_and ?_ | refine boolK_or ?_ | refine boolK_true ?_ | refine boolK_false ?_) | refine boolK_intro (fun _ => ?_) (fun _ => ?_) <;> try (exfalso; simp_all; done) | with_reducible refine natK_lit ?_ | refine natK_of rfl ?_ | refine natK_any ?_ | refine jP ?_ | refine jQ ?_ | refine jR ?_ | refine jS ?_ | refine jT ?_ | refine jU (fun _ => ?_) | refine jV ?_ | refine jW ?_ | refine jX ?_ | refine jY ?_ | refine jZ ?_ | refine ja ?_ | refine jb ?_ | refine jc ?_ | refine jd ?_ | refine je ?_ | refine jf ?_ | refine jg ?_ | refine jh ?_ | refine ji ?_ | refine jj ?_ | refine jk ?_ | refine jn ?_ | refine jo ?_ | refine jp ?_ | refine jq ?_ | refine jr ?_ | refine js ?_ | refine callK_intro (cR) ?_ | refine callK_intro (cE) ?_ | refine callK_intro (c_Equal _ _ rfl rfl) ?_ | refine jt ?_ | refine jx ?_ | refine jy ?_ | refine ju ?_ | refine sideK_intro (by first | (rw [iN (.inr (by omega)) (.inl (by assumption))] <;> first | rfl | exact ⟨rfl, rfl⟩ | exact ⟨rfl, rfl, rfl⟩) | (rw [iN (.inr (by omega)) (.inr (by assumption))] <;> first | rfl | exact ⟨rfl, rfl⟩ | exact ⟨rfl, rfl, rfl⟩) | (rw [iY (.inr (by omega)) (by assumption) (by assumption)] <;> first | rfl | exact ⟨rfl, rfl⟩ | exact ⟨rfl, rfl, rfl⟩)) ?_ | refine jv ?_)) <;> (try (conv => whnf))
theorem c_rsrvDecode (b : List UInt8) {m : Nat} (hm : m = b.length) (hb : b.length ≤ 90000) : Fn Try.prog 26 [.o (.sl (b.map u8) m)] [] (.tup [.c (.o (.sl (flat skR (skD b).1) (skD b).1.length)), .c (.o (.i .i64 (skD b).2))]) [] := by
  subst hm
  refine Fn_intro (G := g26) (goodA rfl) (fn := Try.f26) rfl rfl rfl rfl rfl ?_
  (repeat' ((conv => whnf) <;> first | exact rfl | with_reducible refine boolK_dec (fun _ => ?_) (fun _ => ?_) <;> try (exfalso; omega) | refine boolK_beq (fun _ => ?_) (fun _ => ?_) <;> try (exfalso; first | omega | contradiction) | refine boolK_bne (fun _ => ?_) (fun _ => ?_) <;> try (exfalso; first | omega | contradiction) | (with_reducible first | refine boolK_not ?_ | refine boolK_and ?_ | refine boolK_or ?_ | refine boolK_true ?_ | refine boolK_false ?_) | refine boolK_intro (fun _ => ?_) (fun _ => ?_) <;> try (exfalso; simp_all; done) | with_reducible refine natK_lit ?_ | refine natK_of rfl ?_ | refine natK_any ?_ | refine jP ?_ | refine jQ ?_ | refine jR ?_ | refine jS ?_ | refine jT ?_ | refine jU (fun _ => ?_) | refine jV ?_ | refine jW ?_ | refine jX ?_ | refine jY ?_ | refine jZ ?_ | refine ja ?_ | refine jb ?_ | refine jc ?_ | refine jd ?_ | refine je ?_ | refine jf ?_ | refine jg ?_ | refine jh ?_ | refine ji ?_ | refine jj ?_ | refine jk ?_ | refine jn ?_ | refine jo ?_ | refine jp ?_ | refine jq ?_ | refine jr ?_ | refine js ?_ | refine jt ?_ | refine jx ?_ | refine jy ?_ | refine ju ?_ | refine jv ?_)) <;> (try (conv => whnf))
  refine loopK_inv (G := g26) (fun n st => ∃ (l : List SK) (k : Int) (bad : Bool), (bad = true ∨ k.toNat + n = b.length + 1) ∧ skJ b l k bad ∧ (∀ s ∈ l, skSm 40 s) ∧ (0 ≤ k ∧ k ≤ b.length) ∧ l.length ≤ b.length + 1 ∧ (bad = false → (l.length : Int) ≤ k) ∧
    ((l = [] ∧ k = 0 ∧ bad = false ∧ st = ⟨[(0, .c (.o (.sl (b.map u8) b.length))), (4, .c (.o (.p 9 0))), (5, .c (.o (.nl)))], [(9, .st [.sl (b.map u8) b.length, .i .i64 0, .ff, .ff])]⟩) ∨ (0 < l.length ∧ st = ⟨[(0, .c (.o (.sl (b.map u8) b.length))), (4, .c (.o (.p 9 0))), (5, .c (.o (.gw 5 l.length 5)))], [(5, .ar (flat skR l)), (9, .st [.sl (b.map u8) b.length, .i .i64 k, .b false, .b bad])]⟩))) (n := b.length + 1) ⟨[], 0, false, .inr (by simp), skJ_0 b, by simp, by omega, by simp, fun _ => by simp, .inl ⟨rfl, rfl, rfl, rfl⟩⟩ ?_
  rintro n st ⟨l, k, bad, hn, hJ, hs, hk, hl, hlk, hst⟩
  have iB := fun h => skJ_bad (b := b) (l := l) (k := k) (by rw [← (show bad = true from h)]; exact hJ)
  have iN := skJ_no (b := b) (l := l) (k := k) hJ
  have cC := c_rsrvCheck l rfl (by omega) (fun s hm => sk_grow (by omega) (hs s hm))
  cases bad with
  | true =>
    rcases hst with ⟨_, _, h, _⟩ | ⟨h0, rfl⟩
    · cases h
    · have e := iB rfl
      rw [e]
      (repeat' ((conv => whnf) <;> first | exact rfl | with_reducible refine boolK_dec (fun _ => ?_) (fun _ => ?_) <;> try (exfalso; omega) | refine boolK_beq (fun _ => ?_) (fun _ => ?_) <;> try (exfalso; first | omega | contradiction) | refine boolK_bne (fun _ => ?_) (fun _ => ?_) <;> try (exfalso; first | omega | contradiction) | (with_reducible first | refine boolK_not ?_ | refine boolK_and ?_ | refine boolK_or ?_ | refine boolK_true ?_ | refine boolK_false ?_) | refine boolK_intro (fun _ => ?_) (fun _ => ?_) <;> try (exfalso; simp_all; done) | with_reducible refine natK_lit ?_ | refine natK_of rfl ?_ | refine natK_any ?_ | refine jP ?_ | refine jQ ?_ | refine jR ?_ | refine jS ?_ | refine jT ?_ | refine jU (fun _ => ?_) | refine jV ?_ | refine jW ?_ | refine jX ?_ | refine jY ?_ | refine jZ ?_ | refine ja ?_ | refine jb ?_ | refine jc ?_ | refine jd ?_ | refine je ?_ | refine jf ?_ | refine jg ?_ | refine jh ?_ | refine ji ?_ | refine jj ?_ | refine jk ?_ | refine jn ?_ | refine jo ?_ | refine jp ?_ | refine jq ?_ | refine jr ?_ | refine js ?_ | refine jt ?_ | refine jx ?_ | refine jy ?_ | refine ju ?_ | refine jv ?_)) <;> (try (conv => whnf))
  | false =>
    have iY := skJ_yes (b := b) (l := l) (k := k) hJ
    have hR := skRr_bounds (b := b) (k := k) false hk
    have iS := skJ_step (b := b) (l := l) (k := k) hJ
    have iM := skRr_more (b := b) (k := k) (bad := false)
    have sR := skRr_small b k false
    have ef : flat skR l ++ [.s (skRr b k false).s.x, .s (skRr b k false).s.y, .s (skRr b k false).s.z, .i .i64 (skRr b k false).s.n, .i .u64 (skRr b k false).s.k] = flat skR (l ++ [(skRr b k false).s]) := by rw [flat_append, flat_one]; rfl
    have cP := c_rdPrincipal b rfl (by omega) k hk false false (skRr b k false).k1 (skRr b k false).k2 rfl rfl
    rw [show (textS b k).1 = (skRr b k false).s.x from rfl, show (textS b (skRr b k false).k1).1 = (skRr b k false).s.y from rfl, show (textS b (skRr b k false).k2).1 = (skRr b k false).s.z from rfl,
      show mvA (skRr b k false).k2 (mvB (mvB false (textS b k).2.2) (textS b (skRr b k false).k1).2.2) (textS b (skRr b k false).k2).2.1 (textS b (skRr b k false).k2).2.2 = (skRr b k false).k3 from rfl,
      show mvB (mvB (mvB false (textS b k).2.2) (textS b (skRr b k false).k1).2.2) (textS b (skRr b k false).k2).2.2 = (skRr b k false).b3 from rfl] at cP
    have cO := c_rdOctet b rfl (by omega) (skRr b k false).k3 (by omega) false (skRr b k false).b3
    rw [show (getS false 1 b (skRr b k false).k3).1 = (skRr b k false).s.n from rfl, show mvA (skRr b k false).k3 (skRr b k false).b3 (getS false 1 b (skRr b k false).k3).2.1 (getS false 1 b (skRr b k false).k3).2.2 = (skRr b k false).k4 from rfl, show mvB (skRr b k false).b3 (getS false 1 b (skRr b k false).k3).2.2 = (skRr b k false).b4 from rfl] at cO
    have cB := c_rdBytes b rfl (by omega) (skRr b k false).k4 8 (by omega) false (skRr b k false).b4
    rw [show mvA (skRr b k false).k4 (skRr b k false).b4 (bytesS b (skRr b k false).k4 8).2.1 (bytesS b (skRr b k false).k4 8).2.2 = (skRr b k false).k5 from rfl, show mvB (skRr b k false).b4 (bytesS b (skRr b k false).k4 8).2.2 = (skRr b k false).b5 from rfl] at cB
    have lB := bytesS_le b (skRr b k false).k4 8
    have cK := c_rkeyRead (bytesS b (skRr b k false).k4 8).1 rfl (by omega)
    rw [show (readK (bytesS b (skRr b k false).k4 8).1).1 = (skRr b k false).s.k from rfl] at cK
    have hs' : ∀ s ∈ l ++ [(skRr b k false).s], skSm 40 s := fun s hm => by
      rcases List.mem_append.1 hm with q | q
      · exact hs s q
      · simp at q; subst q; exact sR
    have hm : k < b.length → ∃ m, m < n ∧ ((skRr b k false).b5 = true ∨ (skRr b k false).k5.toNat + m = b.length + 1) := fun hkb => by
      rcases hn with h | h
      · cases h
      · cases hb5 : (skRr b k false).b5 with
        | true => exact ⟨0, by omega, .inl rfl⟩
        | false =>
          have := iM hb5
          exact ⟨b.length + 1 - (skRr b k false).k5.toNat, by omega, .inr (by omega)⟩
    have hlk := hlk rfl
    have hlk' : (skRr b k false).b5 = false → ((l ++ [(skRr b k false).s]).length : Int) ≤ (skRr b k false).k5 := fun h => by
      have := iM h
      rw [List.length_append, List.length_singleton]; omega
    generalize bytesS b (skRr b k false).k4 8 = Q at *
    generalize readK Q.1 = U at *
    generalize skRr b k false = R at *
    generalize skC l = C at *
    have fin : k < b.length → ∀ st : St, (0 < (l ++ [R.s]).length ∧ st = ⟨[(0, .c (.o (.sl (b.map u8) b.length))), (4, .c (.o (.p 9 0))), (5, .c (.o (.gw 5 (l ++ [R.s]).length 5)))], [(5, .ar (flat skR (l ++ [R.s]))), (9, .st [.sl (b.map u8) b.length, .i .i64 R.k5, .b false, .b R.b5])]⟩) → ∃ m, m < n ∧ ∃ (l : List SK) (k : Int) (bad : Bool), (bad = true ∨ k.toNat + m = b.length + 1) ∧ skJ b l k bad ∧ (∀ s ∈ l, skSm 40 s) ∧ (0 ≤ k ∧ k ≤ b.length) ∧ l.length ≤ b.length + 1 ∧ (bad = false → (l.length : Int) ≤ k) ∧
    ((l = [] ∧ k = 0 ∧ bad = false ∧ st = ⟨[(0, .c (.o (.sl (b.map u8) b.length))), (4, .c (.o (.p 9 0))), (5, .c (.o (.nl)))], [(9, .st [.sl (b.map u8) b.length, .i .i64 0, .ff, .ff])]⟩) ∨ (0 < l.length ∧ st = ⟨[(0, .c (.o (.sl (b.map u8) b.length))), (4, .c (.o (.p 9 0))), (5, .c (.o (.gw 5 l.length 5)))], [(5, .ar (flat skR l)), (9, .st [.sl (b.map u8) b.length, .i .i64 k, .b false, .b bad])]⟩)) := by
      intro hkb st hst
      obtain ⟨m, h1, h2⟩ := hm hkb
      exact ⟨m, h1, l ++ [R.s], R.k5, R.b5, h2, iS hkb, hs', hR.2.2.2.2, by rw [List.length_append, List.length_singleton]; omega, hlk', .inr hst⟩
    have hf := flat_len skR_len l
    generalize skD b = D at *
    rcases hst with ⟨rfl, rfl, _, rfl⟩ | ⟨h0, rfl⟩
    · (repeat' ((conv => whnf) <;> first | exact rfl | with_reducible refine boolK_dec (fun _ => ?_) (fun _ => ?_) <;> try (exfalso; omega) | refine boolK_beq (fun _ => ?_) (fun _ => ?_) <;> try (exfalso; first | omega | contradiction) | refine boolK_bne (fun _ => ?_) (fun _ => ?_) <;> try (exfalso; first | omega | contradiction) | (with_reducible first | refine boolK_not ?_ | refine boolK_and ?_ | refine boolK_or ?_ | refine boolK_true ?_ | refine boolK_false ?_) | refine boolK_intro (fun _ => ?_) (fun _ => ?_) <;> try (exfalso; simp_all; done) | with_reducible refine natK_lit ?_ | refine natK_of rfl ?_ | refine natK_any ?_ | refine jP ?_ | refine jQ ?_ | refine jR ?_ | refine jS ?_ | refine jT ?_ | refine jU (fun _ => ?_) | refine jV ?_ | refine jW ?_ | refine jX ?_ | refine jY ?_ | refine jZ ?_ | refine ja ?_ | refine jb ?_ | refine jc ?_ | refine jd ?_ | refine je ?_ | refine jf ?_ | refine jg ?_ | refine jh ?_ | refine ji ?_ | refine jj ?_ | refine jk ?_ | refine jn ?_ | refine jo ?_ | refine jp ?_ | refine jq ?_ | refine jr ?_ | refine js ?_ | refine callK_intro (cP) ?_ | refine callK_intro (cO) ?_ | refine callK_intro (cB) ?_ | refine callK_intro (cK) ?_ | refine callK_intro (cC) ?_ | exact fin (by omega) _ (by exact ⟨by simp, by simp only [List.nil_append, flat_one]; rfl⟩) | refine jt ?_ | refine jx ?_ | refine jy ?_ | refine ju ?_ | refine sideK_intro (by first | (rw [iN (by omega) (by assumption)] <;> first | rfl | exact ⟨rfl, rfl⟩ | exact ⟨rfl, rfl, rfl⟩) | (rw [iY (by omega) (by assumption)] <;> first | rfl | exact ⟨rfl, rfl⟩ | exact ⟨rfl, rfl, rfl⟩)) ?_ | refine jv ?_)) <;> (try (conv => whnf))
    · (repeat' ((conv => whnf) <;> first | exact rfl | with_reducible refine boolK_dec (fun _ => ?_) (fun _ => ?_) <;> try (exfalso; omega) | refine boolK_beq (fun _ => ?_) (fun _ => ?_) <;> try (exfalso; first | omega | contradiction) | refine boolK_bne (fun _ => ?_) (fun _ => ?_) <;> try (exfalso; first | omega | contradiction) | (with_reducible first | refine boolK_not ?_ | refine boolK_and ?_ | refine boolK_or ?_ | refine boolK_true ?_ | refine boolK_false ?_) | refine boolK_intro (fun _ => ?_) (fun _ => ?_) <;> try (exfalso; simp_all; done) | with_reducible refine natK_lit ?_ | refine natK_of rfl ?_ | refine natK_any ?_ | refine jP ?_ | refine jQ ?_ | refine jR ?_ | refine jS ?_ | refine jT ?_ | refine jU (fun _ => ?_) | refine jV ?_ | refine jW ?_ | refine jX ?_ | refine jY ?_ | refine jZ ?_ | refine ja ?_ | refine jb ?_ | refine jc ?_ | refine jd ?_ | refine je ?_ | refine jf ?_ | refine jg ?_ | refine jh ?_ | refine ji ?_ | refine jj ?_ | refine jk ?_ | refine jn ?_ | refine jo ?_ | refine jp ?_ | refine jq ?_ | refine jr ?_ | refine js ?_ | refine callK_intro (cP) ?_ | refine callK_intro (cO) ?_ | refine callK_intro (cB) ?_ | refine callK_intro (cK) ?_ | refine callK_intro (cC) ?_ | refine catK_of ef ?_ | exact fin (by omega) _ (by exact ⟨by simp, by rw [List.length_append]; rfl⟩) | refine jt ?_ | refine jx ?_ | refine jy ?_ | refine ju ?_ | refine sideK_intro (by first | (exact ⟨by omega, rfl⟩) | (rw [iN (by omega) (by assumption)] <;> first | rfl | exact ⟨rfl, rfl⟩ | exact ⟨rfl, rfl, rfl⟩) | (rw [iY (by omega) (by assumption)] <;> first | rfl | exact ⟨rfl, rfl⟩ | exact ⟨rfl, rfl, rfl⟩)) ?_ | refine jv ?_)) <;> (try (conv => whnf))
end Go.Sx

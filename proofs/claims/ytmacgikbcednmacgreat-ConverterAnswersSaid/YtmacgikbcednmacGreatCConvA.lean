/-
  Contracts of what a converter answers, and of its reference.
-/
import Derived.Test.YtmacgikbcednmacGreatPX2
import Derived.Test.YtmacgikbcednmacGreatCFiveI
import Derived.Test.YtmacgikbcednmacGreatCTickS
import Derived.Test.YtmacgikbcednmacGreatCCcA
import Derived.Test.YtmacgikbcednmacGreatCConv
import Derived.Test.YtmacgikbcednmacGreatCKdc
set_option linter.all false
namespace Go.Sx
open Go.Proofs Go.RowKit
noncomputable def g39 : Par := par 8 (nthLL [[0, 1, 4], [4]]) [4] (nthLL [])
noncomputable def g6 : Par := par 12 (nthLL [[1], [2, 3]]) [2, 3] (nthLL [])
noncomputable def g7 : Par := par 12 (nthLL [[1], [2, 3]]) [2, 3] (nthLL [])
noncomputable def g27 : Par := par 95 (nthLL [[1, 2, 3, 6, 7], [1, 3, 6, 7, 9, 10], [1, 3, 6, 7, 9, 35], [6, 7, 8], [1, 3, 6, 7, 9, 10, 11], [1, 3, 6, 7, 9, 11, 51], [6, 7, 8], [1, 6, 7, 9, 12], [1, 6, 7, 9, 12, 13, 14], [1, 6, 7, 9, 12, 13, 68], [6, 7, 8], [1, 6, 7, 9, 10, 12, 15], [6, 7, 12, 15, 90], [6, 7, 8], [6, 7, 8]]) [6, 7, 8] (nthLL [[], [], [], [], [], [], [], [], [], [], [], [], [], [], [0, 0, 1, 7, 15]])
noncomputable def g29 : Par := par 48 (nthLL [[2, 3, 4, 5], [4, 10, 11], [4, 10, 11, 29], [8, 9], [4, 11, 12], [4, 11, 12, 39], [8, 9], [8, 9]]) [8, 9, 11] (nthLL [])
noncomputable def g11 : Par := par 82 (nthLL [[1, 2, 3, 7], [3, 7, 9, 10, 11], [3, 7, 9, 10, 25], [6, 7, 8], [3, 7, 9, 10, 11, 12], [3, 7, 9, 10, 12, 33], [6, 7, 8], [3, 7, 9, 10, 12, 13, 14], [3, 7, 9, 10, 12, 13, 43], [6, 7, 8], [3, 7, 9, 12, 13, 14, 15], [3, 7, 9, 12, 13, 15, 55], [6, 7, 8], [6, 7, 8]]) [6, 7, 8, 15] (nthLL [[], [], [], [], [], [], [], [], [], [], [], [], [], [0, 0, 2, 0, 8, 30, 0, 64, 0, 256, 0, 1024, 0, 4096, 0, 16384, 0, 0, 131072, 0, 524288, 0, 2097152, 7864382, 16777214, 16252991, 67108863, 134217727]])
noncomputable def g12 : Par := par 175 (nthLL [[1, 2, 3, 7], [1, 3, 7, 9, 10], [1, 3, 7, 9, 43], [6, 7, 8], [1, 3, 7, 9, 10, 11], [1, 3, 7, 9, 11, 58], [6, 7, 8], [1, 3, 7, 9, 11, 12, 13], [1, 3, 7, 9, 11, 12, 73], [6, 7, 8], [1, 3, 7, 9, 10, 11, 14], [3, 7, 9, 11, 14, 94], [6, 7, 8], [3, 7, 9, 11, 13, 14, 15], [3, 7, 9, 11, 14, 15, 102], [6, 7, 8], [3, 7, 9, 11, 14, 15, 16], [3, 7, 9, 14, 15, 16, 18], [3, 7, 9, 14, 15, 16, 20], [3, 7, 14, 15, 16, 22], [6, 7, 8]]) [6, 7, 8, 22] (nthLL [[], [], [], [], [], [], [], [0, 1, 0, 4, 0, 28, 60, 124, 255, 511, 1023, 1023, 2047, 8191], [], [], [], [], [], [], [], [], [0, 0, 2, 0, 14, 30, 62, 127, 255, 511, 511, 1023, 4095], [0, 1, 0, 4, 0, 16, 0, 64, 0, 448, 960, 1984, 0, 0, 8192, 32767, 65535, 131071, 262143, 262143, 524287, 2097151], [], [], [0, 0, 2, 0, 8, 30, 0, 64, 0, 256, 0, 1024, 0, 4096, 0, 16384, 0, 0, 131072, 0, 524288, 0, 2097152, 7864382, 16777214, 16252991, 67108863, 134217727]])
set_option maxRecDepth 10000
set_option maxHeartbeats 16000000
theorem c_rTgs (r t : List UInt8) : Fn Tryz.prog 39 [.o (.s r), .o (.s t)] [] (.one (.c (.a [.s [107, 114, 98, 116, 103, 116], .s t, .s r]))) [] := by
  refine Fn_intro (G := g39) (goodA rfl) (fn := Tryz.f39) rfl rfl rfl rfl rfl ?_
  (repeat' ((conv => whnf) <;> first | exact rfl | with_reducible refine boolK_dec (fun _ => ?_) (fun _ => ?_) <;> try (exfalso; omega) | refine boolK_beq (fun _ => ?_) (fun _ => ?_) <;> try (exfalso; first | omega | with_reducible contradiction) | refine boolK_bne (fun _ => ?_) (fun _ => ?_) <;> try (exfalso; first | omega | with_reducible contradiction) | (with_reducible first | refine boolK_not ?_ | refine boolK_and ?_ | refine boolK_or ?_ | refine boolK_true ?_ | refine boolK_false ?_) | refine boolK_intro (fun _ => ?_) (fun _ => ?_) <;> try (exfalso; simp_all; done) | with_reducible refine natK_lit ?_ | refine natK_of rfl ?_ | refine natK_any ?_ | refine jy ?_ | refine ju ?_ | refine jv ?_)) <;> (try (conv => whnf))
theorem c_Request (k : Int) (s1 s2 s3 : List UInt8) (st en : Int) (rc : List UInt8) {m : Nat} (hm : m = rc.length) (hl : s1.length ≤ 100000 ∧ s2.length ≤ 100000 ∧ s3.length ≤ 100000 ∧ rc.length ≤ 100000) : Fn Tryz.prog 6 [.a [.s s1, .s s2, .s s3, .i .u64 k, .i .i64 st, .i .i64 en, .sl (rc.map u8) m]] [] (.tup [.fr ((fmN ⟨2, s1, s2, s3, rc⟩).1.map u8) (fmN ⟨2, s1, s2, s3, rc⟩).1.length 1, .c (.o (.i .i64 (fmN ⟨2, s1, s2, s3, rc⟩).2))]) [] := by
  have c0 := c_EncM 2 s1 s2 s3 rc hm hl
  generalize fmN ⟨2, s1, s2, s3, rc⟩ = N at *
  refine Fn_intro (G := g6) (goodA rfl) (fn := Tryz.f6) rfl rfl rfl rfl rfl ?_
  (repeat' ((conv => whnf) <;> first | exact rfl | with_reducible refine boolK_dec (fun _ => ?_) (fun _ => ?_) <;> try (exfalso; omega) | refine boolK_beq (fun _ => ?_) (fun _ => ?_) <;> try (exfalso; first | omega | with_reducible contradiction) | refine boolK_bne (fun _ => ?_) (fun _ => ?_) <;> try (exfalso; first | omega | with_reducible contradiction) | (with_reducible first | refine boolK_not ?_ | refine boolK_and ?_ | refine boolK_or ?_ | refine boolK_true ?_ | refine boolK_false ?_) | refine boolK_intro (fun _ => ?_) (fun _ => ?_) <;> try (exfalso; simp_all; done) | with_reducible refine natK_lit ?_ | refine natK_of rfl ?_ | refine natK_any ?_ | refine jn ?_ | refine callK_intro (c0) ?_ | refine jy ?_ | refine ju ?_ | refine sideK_intro (by first | (exact ⟨rfl, rfl, rfl⟩)) ?_ | refine jv ?_)) <;> (try (conv => whnf))
theorem c_rRequest (k : Int) (s1 s2 s3 : List UInt8) (st en : Int) (rc : List UInt8) {m : Nat} (hm : m = rc.length) (hl : s1.length ≤ 100000 ∧ s2.length ≤ 100000 ∧ s3.length ≤ 100000 ∧ rc.length ≤ 100000) : Fn Tryz.prog 7 [.a [.s s1, .s s2, .s s3, .i .u64 k, .i .i64 st, .i .i64 en, .sl (rc.map u8) m]] [] (.tup [.fr ((fmN ⟨2, s1, s2, s3, rc⟩).1.map u8) (fmN ⟨2, s1, s2, s3, rc⟩).1.length 1, .c (.o (.i .i64 (fmN ⟨2, s1, s2, s3, rc⟩).2))]) [] := by
  have c0 := c_rEncM 2 s1 s2 s3 rc hm hl
  generalize fmN ⟨2, s1, s2, s3, rc⟩ = N at *
  refine Fn_intro (G := g7) (goodA rfl) (fn := Tryz.f7) rfl rfl rfl rfl rfl ?_
  (repeat' ((conv => whnf) <;> first | exact rfl | with_reducible refine boolK_dec (fun _ => ?_) (fun _ => ?_) <;> try (exfalso; omega) | refine boolK_beq (fun _ => ?_) (fun _ => ?_) <;> try (exfalso; first | omega | with_reducible contradiction) | refine boolK_bne (fun _ => ?_) (fun _ => ?_) <;> try (exfalso; first | omega | with_reducible contradiction) | (with_reducible first | refine boolK_not ?_ | refine boolK_and ?_ | refine boolK_or ?_ | refine boolK_true ?_ | refine boolK_false ?_) | refine boolK_intro (fun _ => ?_) (fun _ => ?_) <;> try (exfalso; simp_all; done) | with_reducible refine natK_lit ?_ | refine natK_of rfl ?_ | refine natK_any ?_ | refine jn ?_ | refine callK_intro (c0) ?_ | refine jy ?_ | refine ju ?_ | refine sideK_intro (by first | (exact ⟨rfl, rfl, rfl⟩)) ?_ | refine jv ?_)) <;> (try (conv => whnf))
theorem c_record26 (r : List UInt8) (l : List DE) {m : Nat} (hm : m = l.length) (hl : l.length ≤ 1000000) (hs : ∀ s ∈ l, deSm 90000 s) (now : Int) (b : List UInt8) {n : Nat} (hn : n = b.length) (hb : b.length ≤ 90000) : Fn Tryz.prog 27 [.a [.s r, .sl (flat deR l) m], .o (.i .i64 now), .o (.sl (b.map u8) n)] [] (.tup [.c (.a [.s (vF ⟨r, l, now, b⟩).1.1.c1, .s (vF ⟨r, l, now, b⟩).1.1.c2, .s (vF ⟨r, l, now, b⟩).1.1.c3, .s (vF ⟨r, l, now, b⟩).1.1.s1, .s (vF ⟨r, l, now, b⟩).1.1.s2, .s (vF ⟨r, l, now, b⟩).1.1.s3, .i .u64 (vF ⟨r, l, now, b⟩).1.1.k, .i .i64 (vF ⟨r, l, now, b⟩).1.1.st, .i .i64 (vF ⟨r, l, now, b⟩).1.1.en, .i .i64 (vF ⟨r, l, now, b⟩).1.1.ad]), .c (.a [.s (vF ⟨r, l, now, b⟩).1.2.x, .s (vF ⟨r, l, now, b⟩).1.2.y, .i .u64 (vF ⟨r, l, now, b⟩).1.2.k, .i .i64 (vF ⟨r, l, now, b⟩).1.2.kv, .i .i64 (vF ⟨r, l, now, b⟩).1.2.ex, .i .i64 (vF ⟨r, l, now, b⟩).1.2.ml, .i .i64 (vF ⟨r, l, now, b⟩).1.2.atr, .i .i64 (vF ⟨r, l, now, b⟩).1.2.fl, .i .i64 (vF ⟨r, l, now, b⟩).1.2.un]), .c (.o (.b (vF ⟨r, l, now, b⟩).2))]) [] := by
  subst hm
  subst hn
  have c1 := c_DecM b rfl hb
  have hl0 := fmD_len b
  have c2 := c_dbService r l rfl hl (fmD b).1.n1 (fmD b).1.n2 hs now
  have f0 := @vF_0 ⟨r, l, now, b⟩
  have f1 := @vF_1 ⟨r, l, now, b⟩
  have f2 := @vF_2 ⟨r, l, now, b⟩
  have f3 := @vF_3 ⟨r, l, now, b⟩
  have f4 := @vF_4 ⟨r, l, now, b⟩
  have f5 := @vF_5 ⟨r, l, now, b⟩
  have f6 := @vF_ok ⟨r, l, now, b⟩
  dsimp only [fr0, de0] at f0 f1 f2 f3 f4 f5
  dsimp only at f6
  have eS : vSv ⟨r, l, now, b⟩ = dbU (fmD b).1.n1 (fmD b).1.n2 l now (bitOn 2) 2 6 := rfl
  have eB : vBo ⟨r, l, now, b⟩ = boxO (fmD b).1.bx 9 (vEn ⟨r, l, now, b⟩).k := rfl
  have eR : vRd ⟨r, l, now, b⟩ = frD (vBo ⟨r, l, now, b⟩).1 := rfl
  refine Fn_intro (G := g27) (goodA rfl) (fn := Tryz.f27) rfl rfl rfl rfl rfl ?_
  by_cases h0 : (fmD b).2 = 0
  case neg =>
    rw [f0 h0]
    clear f0 f1 f2 f3 f4 f5 f6 eS eB eR c2
    generalize fmD b = M at *
    (repeat' ((conv => whnf) <;> first | exact rfl | with_reducible refine boolK_dec (fun _ => ?_) (fun _ => ?_) <;> try (exfalso; omega) | refine boolK_beq (fun _ => ?_) (fun _ => ?_) <;> try (exfalso; first | omega | with_reducible contradiction) | refine boolK_bne (fun _ => ?_) (fun _ => ?_) <;> try (exfalso; first | omega | with_reducible contradiction) | (with_reducible first | refine boolK_not ?_ | refine boolK_and ?_ | refine boolK_or ?_ | refine boolK_true ?_ | refine boolK_false ?_) | refine boolK_intro (fun _ => ?_) (fun _ => ?_) <;> try (exfalso; simp_all; done) | with_reducible refine natK_lit ?_ | refine natK_of rfl ?_ | refine natK_any ?_ | refine jP ?_ | refine jQ ?_ | refine jR ?_ | refine jS ?_ | refine jT ?_ | refine jU (fun _ => ?_) | refine jV ?_ | refine callK_intro (c1) ?_ | refine jy ?_ | refine ju ?_ | refine jv ?_)) <;> (try (conv => whnf))
  by_cases h1 : (fmD b).1.op = 2 ∧ (fmD b).1.n3 = r
  case neg =>
    rw [f1 h0 h1]
    clear f0 f1 f2 f3 f4 f5 f6 eS eB eR c2
    generalize fmD b = M at *
    (repeat' ((conv => whnf) <;> first | exact rfl | with_reducible refine boolK_dec (fun _ => ?_) (fun _ => ?_) <;> try (exfalso; omega) | refine boolK_beq (fun _ => ?_) (fun _ => ?_) <;> try (exfalso; first | omega | with_reducible contradiction) | refine boolK_bne (fun _ => ?_) (fun _ => ?_) <;> try (exfalso; first | omega | with_reducible contradiction) | (with_reducible first | refine boolK_not ?_ | refine boolK_and ?_ | refine boolK_or ?_ | refine boolK_true ?_ | refine boolK_false ?_) | refine boolK_intro (fun _ => ?_) (fun _ => ?_) <;> try (exfalso; simp_all; done) | with_reducible refine natK_lit ?_ | refine natK_of rfl ?_ | refine natK_any ?_ | refine jP ?_ | refine jQ ?_ | refine jR ?_ | refine jS ?_ | refine jT ?_ | refine jU (fun _ => ?_) | refine jV ?_ | refine callK_intro (c1) ?_ | exact absurd ⟨by assumption, by assumption⟩ h1 | refine jy ?_ | refine ju ?_ | refine jv ?_)) <;> (try (conv => whnf))
  obtain ⟨h1a, h1b⟩ := id h1
  by_cases h2 : (dbU (fmD b).1.n1 (fmD b).1.n2 l now (bitOn 2) 2 6).2 = 0
  case neg =>
    rw [f2 h0 h1 h2]
    clear f0 f1 f2 f3 f4 f5 f6 eS eB eR
    generalize dbU (fmD b).1.n1 (fmD b).1.n2 l now (bitOn 2) 2 6 = U at *
    generalize fmD b = M at *
    (repeat' ((conv => whnf) <;> first | exact rfl | with_reducible refine boolK_dec (fun _ => ?_) (fun _ => ?_) <;> try (exfalso; omega) | refine boolK_beq (fun _ => ?_) (fun _ => ?_) <;> try (exfalso; first | omega | with_reducible contradiction) | refine boolK_bne (fun _ => ?_) (fun _ => ?_) <;> try (exfalso; first | omega | with_reducible contradiction) | (with_reducible first | refine boolK_not ?_ | refine boolK_and ?_ | refine boolK_or ?_ | refine boolK_true ?_ | refine boolK_false ?_) | refine boolK_intro (fun _ => ?_) (fun _ => ?_) <;> try (exfalso; simp_all; done) | with_reducible refine natK_lit ?_ | refine natK_of rfl ?_ | refine natK_any ?_ | refine jP ?_ | refine jQ ?_ | refine jR ?_ | refine jS ?_ | refine jT ?_ | refine jU (fun _ => ?_) | refine jV ?_ | refine callK_intro (c1) ?_ | refine callK_intro (c2) ?_ | refine jy ?_ | refine ju ?_ | refine jv ?_)) <;> (try (conv => whnf))
  obtain ⟨i, i1, i2, _⟩ := dbU_at (by decide) (by decide) h2
  have q1 : vEn ⟨r, l, now, b⟩ = l.getD i de0 := by rw [vEn, eS, i2, Int.toNat_natCast]
  have c3 := c_boxOpen (fmD b).1.bx (m := (fmD b).1.bx.length) rfl (by omega) 9 (vEn ⟨r, l, now, b⟩).k
  have hl2 := boxO_len (fmD b).1.bx 9 (vEn ⟨r, l, now, b⟩).k
  rw [← eB] at c3 hl2
  have c4 := c_DecR (vBo ⟨r, l, now, b⟩).1 (m := (vBo ⟨r, l, now, b⟩).1.length) rfl (by omega)
  rw [← eR] at c4
  have i3 : (dbU (fmD b).1.n1 (fmD b).1.n2 l now (bitOn 2) 2 6).1 = (i : Int) := i2
  have hX := fun z hz K hK => headS_deE (l := l) (j := i) (z := z) hz q1.symm (K := K) i1 hK
  clear eB eR eS q1
  generalize vEn ⟨r, l, now, b⟩ = E at *
  by_cases h3 : (vBo ⟨r, l, now, b⟩).2 = true
  case neg =>
    rw [f3 h0 h1 h2 h3]
    clear f0 f1 f2 f3 f4 f5 f6
    generalize vRd ⟨r, l, now, b⟩ = R at *
    generalize vBo ⟨r, l, now, b⟩ = B at *
    generalize dbU (fmD b).1.n1 (fmD b).1.n2 l now (bitOn 2) 2 6 = U at *
    generalize fmD b = M at *
    (repeat' ((conv => whnf) <;> first | refine natK_of (j := i) (by omega) ?_ | exact rfl | with_reducible refine boolK_dec (fun _ => ?_) (fun _ => ?_) <;> try (exfalso; omega) | refine boolK_beq (fun _ => ?_) (fun _ => ?_) <;> try (exfalso; first | omega | with_reducible contradiction) | refine boolK_bne (fun _ => ?_) (fun _ => ?_) <;> try (exfalso; first | omega | with_reducible contradiction) | (with_reducible first | refine boolK_not ?_ | refine boolK_and ?_ | refine boolK_or ?_ | refine boolK_true ?_ | refine boolK_false ?_) | refine boolK_intro (fun _ => ?_) (fun _ => ?_) <;> try (exfalso; simp_all; done) | with_reducible refine natK_lit ?_ | refine natK_of rfl ?_ | refine natK_any ?_ | refine jP ?_ | refine jQ ?_ | refine jR ?_ | refine jS ?_ | refine jT ?_ | refine jU (fun _ => ?_) | refine jV ?_ | refine callK_intro (c1) ?_ | refine callK_intro (c2) ?_ | refine callK_intro (c3) ?_ | refine hX _ (by first | omega | rfl) _ ?_ | refine jy ?_ | refine ju ?_ | refine jv ?_)) <;> (try (conv => whnf))
  by_cases h4 : (vRd ⟨r, l, now, b⟩).2 = 0
  case neg =>
    rw [f4 h0 h1 h2 h3 h4]
    clear f0 f1 f2 f3 f4 f5 f6
    generalize vRd ⟨r, l, now, b⟩ = R at *
    generalize vBo ⟨r, l, now, b⟩ = B at *
    generalize dbU (fmD b).1.n1 (fmD b).1.n2 l now (bitOn 2) 2 6 = U at *
    generalize fmD b = M at *
    (repeat' ((conv => whnf) <;> first | refine natK_of (j := i) (by omega) ?_ | exact rfl | with_reducible refine boolK_dec (fun _ => ?_) (fun _ => ?_) <;> try (exfalso; omega) | refine boolK_beq (fun _ => ?_) (fun _ => ?_) <;> try (exfalso; first | omega | with_reducible contradiction) | refine boolK_bne (fun _ => ?_) (fun _ => ?_) <;> try (exfalso; first | omega | with_reducible contradiction) | (with_reducible first | refine boolK_not ?_ | refine boolK_and ?_ | refine boolK_or ?_ | refine boolK_true ?_ | refine boolK_false ?_) | refine boolK_intro (fun _ => ?_) (fun _ => ?_) <;> try (exfalso; simp_all; done) | with_reducible refine natK_lit ?_ | refine natK_of rfl ?_ | refine natK_any ?_ | refine jP ?_ | refine jQ ?_ | refine jR ?_ | refine jS ?_ | refine jT ?_ | refine jU (fun _ => ?_) | refine jV ?_ | refine callK_intro (c1) ?_ | refine callK_intro (c2) ?_ | refine callK_intro (c3) ?_ | refine callK_intro (c4) ?_ | refine hX _ (by first | omega | rfl) _ ?_ | refine jy ?_ | refine ju ?_ | refine jv ?_)) <;> (try (conv => whnf))
  by_cases h5 : ((vRd ⟨r, l, now, b⟩).1.s1 = (fmD b).1.n1 ∧ (vRd ⟨r, l, now, b⟩).1.s2 = (fmD b).1.n2 ∧ (vRd ⟨r, l, now, b⟩).1.s3 = (fmD b).1.n3) ∧ now ≤ (vRd ⟨r, l, now, b⟩).1.en
  case neg =>
    rw [f5 h0 h1 h2 h3 h4 h5]
    clear f0 f1 f2 f3 f4 f5 f6
    generalize vRd ⟨r, l, now, b⟩ = R at *
    generalize vBo ⟨r, l, now, b⟩ = B at *
    generalize dbU (fmD b).1.n1 (fmD b).1.n2 l now (bitOn 2) 2 6 = U at *
    generalize fmD b = M at *
    (repeat' ((conv => whnf) <;> first | refine natK_of (j := i) (by omega) ?_ | exact rfl | with_reducible refine boolK_dec (fun _ => ?_) (fun _ => ?_) <;> try (exfalso; omega) | refine boolK_beq (fun _ => ?_) (fun _ => ?_) <;> try (exfalso; first | omega | with_reducible contradiction) | refine boolK_bne (fun _ => ?_) (fun _ => ?_) <;> try (exfalso; first | omega | with_reducible contradiction) | (with_reducible first | refine boolK_not ?_ | refine boolK_and ?_ | refine boolK_or ?_ | refine boolK_true ?_ | refine boolK_false ?_) | refine boolK_intro (fun _ => ?_) (fun _ => ?_) <;> try (exfalso; simp_all; done) | with_reducible refine natK_lit ?_ | refine natK_of rfl ?_ | refine natK_any ?_ | refine jP ?_ | refine jQ ?_ | refine jR ?_ | refine jS ?_ | refine jT ?_ | refine jU (fun _ => ?_) | refine jV ?_ | refine callK_intro (c1) ?_ | refine callK_intro (c2) ?_ | refine callK_intro (c3) ?_ | refine callK_intro (c4) ?_ | refine hX _ (by first | omega | rfl) _ ?_ | exact absurd ⟨⟨by assumption, by assumption, by assumption⟩, by omega⟩ h5 | refine jy ?_ | refine ju ?_ | refine jv ?_)) <;> (try (conv => whnf))
  rw [f6 h0 h1 h2 h3 h4 h5]
  obtain ⟨⟨h5a, h5b, h5c⟩, h5d⟩ := id h5
  clear f0 f1 f2 f3 f4 f5 f6
  generalize vRd ⟨r, l, now, b⟩ = R at *
  generalize vBo ⟨r, l, now, b⟩ = B at *
  generalize dbU (fmD b).1.n1 (fmD b).1.n2 l now (bitOn 2) 2 6 = U at *
  generalize fmD b = M at *
  (repeat' ((conv => whnf) <;> first | refine natK_of (j := i) (by omega) ?_ | exact rfl | with_reducible refine boolK_dec (fun _ => ?_) (fun _ => ?_) <;> try (exfalso; omega) | refine boolK_beq (fun _ => ?_) (fun _ => ?_) <;> try (exfalso; first | omega | with_reducible contradiction) | refine boolK_bne (fun _ => ?_) (fun _ => ?_) <;> try (exfalso; first | omega | with_reducible contradiction) | (with_reducible first | refine boolK_not ?_ | refine boolK_and ?_ | refine boolK_or ?_ | refine boolK_true ?_ | refine boolK_false ?_) | refine boolK_intro (fun _ => ?_) (fun _ => ?_) <;> try (exfalso; simp_all; done) | with_reducible refine natK_lit ?_ | refine natK_of rfl ?_ | refine natK_any ?_ | refine jP ?_ | refine jQ ?_ | refine jR ?_ | refine jS ?_ | refine jT ?_ | refine jU (fun _ => ?_) | refine jV ?_ | refine callK_intro (c1) ?_ | refine callK_intro (c2) ?_ | refine callK_intro (c3) ?_ | refine callK_intro (c4) ?_ | refine hX _ (by first | omega | rfl) _ ?_ | refine jy ?_ | refine ju ?_ | refine jv ?_)) <;> (try (conv => whnf))
theorem c_reply26 (R : FRec) (E : DE) (hg : vGood R E) (hr : rOk R) : Fn Tryz.prog 29 [.a [.s R.c1, .s R.c2, .s R.c3, .s R.s1, .s R.s2, .s R.s3, .i .u64 R.k, .i .i64 R.st, .i .i64 R.en, .i .i64 R.ad], .a [.b false, .s R.c1, .s R.c2, .s R.c3, .i .i64 R.ad, .i .u64 R.k, .i .i64 (rLf R), .i .i64 R.st, .s R.s1, .s R.s2], .o (.sl ((rSl R E).map u8) (rSl R E).length), .o (.i .i64 E.kv)] [] (.tup [.fr ((rMsg R E).map u8) (rMsg R E).length 1, .c (.o (.i .i64 0))]) [] := by
  obtain ⟨e1, e2, e3, e4, e5, l1, l2, l3, l4, l5, k1, k2, k3⟩ := r_steps hg hr
  obtain ⟨g1, g2, g3, g4, g5, g6', g7, g8, g9⟩ := frR_len hg
  have q1 := c_EncK false R.k R.s1 R.s2 R.s3 (rLf R) E.kv (rSl R E) R.st (m := (rSl R E).length) rfl (by omega) k1
  rw [show (⟨R.k, R.s1, R.s2, R.s3, rLf R, E.kv, rSl R E, R.st⟩ : KPart) = rPt R E from rfl, e3] at q1
  have q2 := c_boxMake 3 R.k k1 (padS (kpB false (rPt R E))) (m := (padS (kpB false (rPt R E))).length) rfl (by omega)
  rw [e4] at q2
  have q3 := c_EncM 3 R.s1 R.s2 R.s3 (rBx R E) (m := (rBx R E).length) rfl (by omega)
  rw [show (⟨3, R.s1, R.s2, R.s3, rBx R E⟩ : FMsg) = rMs R E from rfl, e5] at q3
  dsimp only at q1 q2 q3
  clear e1 e2 e3 e4 e5 hg hr
  generalize rMsg R E = MG at *
  generalize rSl R E = SL at *
  generalize rBx R E = BX at *
  generalize padS (kpB false (rPt R E)) = PT at *
  generalize rLf R = LF at *
  refine Fn_intro (G := g29) (goodA rfl) (fn := Tryz.f29) rfl rfl rfl rfl rfl ?_
  (repeat' ((conv => whnf) <;> first | exact rfl | with_reducible refine boolK_dec (fun _ => ?_) (fun _ => ?_) <;> try (exfalso; omega) | refine boolK_beq (fun _ => ?_) (fun _ => ?_) <;> try (exfalso; first | omega | with_reducible contradiction) | refine boolK_bne (fun _ => ?_) (fun _ => ?_) <;> try (exfalso; first | omega | with_reducible contradiction) | (with_reducible first | refine boolK_not ?_ | refine boolK_and ?_ | refine boolK_or ?_ | refine boolK_true ?_ | refine boolK_false ?_) | refine boolK_intro (fun _ => ?_) (fun _ => ?_) <;> try (exfalso; simp_all; done) | with_reducible refine natK_lit ?_ | refine natK_of rfl ?_ | refine natK_any ?_ | refine jn ?_ | refine callK_intro (q1) ?_ | refine callK_intro (q2) ?_ | refine callK_intro (q3) ?_ | refine jy ?_ | refine ju ?_ | refine sideK_intro (by first | (exact ⟨rfl, rfl, rfl⟩)) ?_ | refine jv ?_)) <;> (try (conv => whnf))
theorem c_Answer26 (r : List UInt8) (l : List DE) {m : Nat} (hm : m = l.length) (hl : l.length ≤ 1000000) (hs : ∀ s ∈ l, deSm 90000 s) (now : Int) (b : List UInt8) {n : Nat} (hn : n = b.length) (hb : b.length ≤ 90000) (hkv : ∀ e ∈ l, 0 ≤ e.kv ∧ e.kv ≤ 255) : Fn Tryz.prog 11 [.a [.s r, .sl (flat deR l) m], .o (.i .i64 now), .o (.sl (b.map u8) n)] [] (.tup [.fr ((vA ⟨r, l, now, b⟩).1.1.map u8) (vA ⟨r, l, now, b⟩).1.1.length 1, .c (.a [.i .i64 (vA ⟨r, l, now, b⟩).1.2.kd, .s (vA ⟨r, l, now, b⟩).1.2.v1, .s (vA ⟨r, l, now, b⟩).1.2.v2, .s (vA ⟨r, l, now, b⟩).1.2.v3, .s (vA ⟨r, l, now, b⟩).1.2.c1, .s (vA ⟨r, l, now, b⟩).1.2.c2, .s (vA ⟨r, l, now, b⟩).1.2.c3, .s (vA ⟨r, l, now, b⟩).1.2.s1, .s (vA ⟨r, l, now, b⟩).1.2.s2, .s (vA ⟨r, l, now, b⟩).1.2.s3, .i .u64 (vA ⟨r, l, now, b⟩).1.2.k, .i .u64 (vA ⟨r, l, now, b⟩).1.2.k, .i .u64 (vA ⟨r, l, now, b⟩).1.2.k, .sl ((vA ⟨r, l, now, b⟩).1.2.bx.map u8) (vA ⟨r, l, now, b⟩).1.2.bx.length, .i .i64 (vA ⟨r, l, now, b⟩).1.2.is, .i .i64 (vA ⟨r, l, now, b⟩).1.2.en]), .c (.o (.b (vA ⟨r, l, now, b⟩).2))]) [] := by
  have cR := c_record26 r l hm hl hs now b hn hb
  have hy := @vA_yes ⟨r, l, now, b⟩
  have hn' := @vA_no ⟨r, l, now, b⟩
  have hG := fun h => vF_good (a := ⟨r, l, now, b⟩) h hkv
  dsimp only [vi0, rIs] at hy hn'
  generalize vA ⟨r, l, now, b⟩ = Z at *
  generalize vF ⟨r, l, now, b⟩ = F at *
  obtain ⟨⟨R, E⟩, ok⟩ := F
  dsimp only at cR hy hn' hG
  subst hm
  subst hn
  refine Fn_intro (G := g11) (goodA rfl) (fn := Tryz.f11) rfl rfl rfl rfl rfl ?_
  cases ok
  · rw [hn' (.inl rfl)]
    clear hG hy hn'
    (repeat' ((conv => whnf) <;> first | exact rfl | with_reducible refine boolK_dec (fun _ => ?_) (fun _ => ?_) <;> try (exfalso; omega) | refine boolK_beq (fun _ => ?_) (fun _ => ?_) <;> try (exfalso; first | omega | with_reducible contradiction) | refine boolK_bne (fun _ => ?_) (fun _ => ?_) <;> try (exfalso; first | omega | with_reducible contradiction) | (with_reducible first | refine boolK_not ?_ | refine boolK_and ?_ | refine boolK_or ?_ | refine boolK_true ?_ | refine boolK_false ?_) | refine boolK_intro (fun _ => ?_) (fun _ => ?_) <;> try (exfalso; simp_all; done) | with_reducible refine natK_lit ?_ | refine natK_of rfl ?_ | refine natK_any ?_ | refine jn ?_ | refine callK_intro (cR) ?_ | refine jy ?_ | refine ju ?_ | refine jv ?_)) <;> (try (conv => whnf))
  have hg := hG rfl
  obtain ⟨g1, g2, g3, g4, g5, g6', g7, g8, g9⟩ := frR_len hg
  have cC := c_Convert R.c1 R.c2 R.c3 R.s1 R.s2 R.s3 R.k R.st R.en R.ad g7 (by omega) (by omega) (by omega) (by omega) (by omega) (by omega) (by omega)
  by_cases hr : rOk R
  case neg =>
    rw [hn' (.inr hr)]
    rw [conv_no hr] at cC
    dsimp only [tick0] at cC
    clear hG hy hn'
    (repeat' ((conv => whnf) <;> first | exact rfl | with_reducible refine boolK_dec (fun _ => ?_) (fun _ => ?_) <;> try (exfalso; omega) | refine boolK_beq (fun _ => ?_) (fun _ => ?_) <;> try (exfalso; first | omega | with_reducible contradiction) | refine boolK_bne (fun _ => ?_) (fun _ => ?_) <;> try (exfalso; first | omega | with_reducible contradiction) | (with_reducible first | refine boolK_not ?_ | refine boolK_and ?_ | refine boolK_or ?_ | refine boolK_true ?_ | refine boolK_false ?_) | refine boolK_intro (fun _ => ?_) (fun _ => ?_) <;> try (exfalso; simp_all; done) | with_reducible refine natK_lit ?_ | refine natK_of rfl ?_ | refine natK_any ?_ | refine jn ?_ | refine callK_intro (cR) ?_ | refine callK_intro (cC) ?_ | refine jy ?_ | refine ju ?_ | refine jv ?_)) <;> (try (conv => whnf))
  rw [hy rfl hr]
  rw [conv_yes hr] at cC
  obtain ⟨e1, e2, e3, e4, e5, l1, l2, l3, l4, l5, k1, k2, k3⟩ := r_steps hg hr
  have cS := c_SealT false R.c1 R.c2 R.c3 R.ad R.k (rLf R) R.st R.s1 R.s2 k1 (by omega) (by omega) (by omega) (by omega) (by omega) E.k k2
  rw [e1, sealS_yes rfl, e2] at cS
  have cP := c_reply26 R E hg hr
  have cT := c_Tgs r r
  have cE := c_End R.st (rLf R)
  dsimp only at cC cS
  clear e1 e2 e3 e4 e5 hg hr hG hy hn'
  generalize endS R.st (rLf R) = EN at *
  generalize rMsg R E = MG at *
  generalize rSl R E = SL at *
  generalize rLf R = LF at *
  (repeat' ((conv => whnf) <;> first | exact rfl | with_reducible refine boolK_dec (fun _ => ?_) (fun _ => ?_) <;> try (exfalso; omega) | refine boolK_beq (fun _ => ?_) (fun _ => ?_) <;> try (exfalso; first | omega | with_reducible contradiction) | refine boolK_bne (fun _ => ?_) (fun _ => ?_) <;> try (exfalso; first | omega | with_reducible contradiction) | (with_reducible first | refine boolK_not ?_ | refine boolK_and ?_ | refine boolK_or ?_ | refine boolK_true ?_ | refine boolK_false ?_) | refine boolK_intro (fun _ => ?_) (fun _ => ?_) <;> try (exfalso; simp_all; done) | with_reducible refine natK_lit ?_ | refine natK_of rfl ?_ | refine natK_any ?_ | refine jn ?_ | refine callK_intro (cR) ?_ | refine callK_intro (cC) ?_ | refine callK_intro (cS) ?_ | refine callK_intro (cP) ?_ | refine callK_intro (cT) ?_ | refine callK_intro (cE) ?_ | refine jy ?_ | refine ju ?_ | refine sideK_intro (by first | (exact ⟨rfl, rfl, rfl⟩)) ?_ | refine jv ?_)) <;> (try (conv => whnf))
theorem c_rAnswer26 (r : List UInt8) (l : List DE) {m : Nat} (hm : m = l.length) (hl : l.length ≤ 1000000) (hs : ∀ s ∈ l, deSm 90000 s) (now : Int) (b : List UInt8) {n : Nat} (hn : n = b.length) (hb : b.length ≤ 90000) (hkv : ∀ e ∈ l, 0 ≤ e.kv ∧ e.kv ≤ 255) : Fn Tryz.prog 12 [.a [.s r, .sl (flat deR l) m], .o (.i .i64 now), .o (.sl (b.map u8) n)] [] (.tup [.fr ((vA ⟨r, l, now, b⟩).1.1.map u8) (vA ⟨r, l, now, b⟩).1.1.length 1, .c (.a [.i .i64 (vA ⟨r, l, now, b⟩).1.2.kd, .s (vA ⟨r, l, now, b⟩).1.2.v1, .s (vA ⟨r, l, now, b⟩).1.2.v2, .s (vA ⟨r, l, now, b⟩).1.2.v3, .s (vA ⟨r, l, now, b⟩).1.2.c1, .s (vA ⟨r, l, now, b⟩).1.2.c2, .s (vA ⟨r, l, now, b⟩).1.2.c3, .s (vA ⟨r, l, now, b⟩).1.2.s1, .s (vA ⟨r, l, now, b⟩).1.2.s2, .s (vA ⟨r, l, now, b⟩).1.2.s3, .i .u64 (vA ⟨r, l, now, b⟩).1.2.k, .i .u64 (vA ⟨r, l, now, b⟩).1.2.k, .i .u64 (vA ⟨r, l, now, b⟩).1.2.k, .sl ((vA ⟨r, l, now, b⟩).1.2.bx.map u8) (vA ⟨r, l, now, b⟩).1.2.bx.length, .i .i64 (vA ⟨r, l, now, b⟩).1.2.is, .i .i64 (vA ⟨r, l, now, b⟩).1.2.en]), .c (.o (.b (vA ⟨r, l, now, b⟩).2))]) [] := by
  have hy := @vA_yes ⟨r, l, now, b⟩
  have hn' := @vA_no ⟨r, l, now, b⟩
  have hG := fun h => vF_good (a := ⟨r, l, now, b⟩) h hkv
  dsimp only [vi0, rIs] at hy hn'
  subst hm
  subst hn
  have c1 := c_rDecM b rfl hb
  have hl0 := fmD_len b
  have c2 := c_rdbService r l rfl hl (fmD b).1.n1 (fmD b).1.n2 hs now
  have f0 := @vF_0 ⟨r, l, now, b⟩
  have f1 := @vF_1 ⟨r, l, now, b⟩
  have f2 := @vF_2 ⟨r, l, now, b⟩
  have f3 := @vF_3 ⟨r, l, now, b⟩
  have f4 := @vF_4 ⟨r, l, now, b⟩
  have f5 := @vF_5 ⟨r, l, now, b⟩
  have f6 := @vF_ok ⟨r, l, now, b⟩
  have eS : vSv ⟨r, l, now, b⟩ = dbU (fmD b).1.n1 (fmD b).1.n2 l now (bitOn 2) 2 6 := rfl
  have eB : vBo ⟨r, l, now, b⟩ = boxO (fmD b).1.bx 9 (vEn ⟨r, l, now, b⟩).k := rfl
  have eR : vRd ⟨r, l, now, b⟩ = frD (vBo ⟨r, l, now, b⟩).1 := rfl
  dsimp only at f6
  generalize vA ⟨r, l, now, b⟩ = Z at *
  refine Fn_intro (G := g12) (goodA rfl) (fn := Tryz.f12) rfl rfl rfl rfl rfl ?_
  by_cases h0 : (fmD b).2 = 0
  case neg =>
    rw [f0 h0] at hn'
    rw [hn' (.inl rfl)]
    clear f0 f1 f2 f3 f4 f5 f6 eS eB eR c2 hG hy hn'
    generalize fmD b = M at *
    (repeat' ((conv => whnf) <;> first | exact rfl | with_reducible refine boolK_dec (fun _ => ?_) (fun _ => ?_) <;> try (exfalso; omega) | refine boolK_beq (fun _ => ?_) (fun _ => ?_) <;> try (exfalso; first | omega | with_reducible contradiction) | refine boolK_bne (fun _ => ?_) (fun _ => ?_) <;> try (exfalso; first | omega | with_reducible contradiction) | (with_reducible first | refine boolK_not ?_ | refine boolK_and ?_ | refine boolK_or ?_ | refine boolK_true ?_ | refine boolK_false ?_) | refine boolK_intro (fun _ => ?_) (fun _ => ?_) <;> try (exfalso; simp_all; done) | with_reducible refine natK_lit ?_ | refine natK_of rfl ?_ | refine natK_any ?_ | refine jP ?_ | refine jQ ?_ | refine jR ?_ | refine jS ?_ | refine jT ?_ | refine jU (fun _ => ?_) | refine jV ?_ | refine jn ?_ | refine callK_intro (c1) ?_ | refine jy ?_ | refine ju ?_ | refine jv ?_)) <;> (try (conv => whnf))
  by_cases h1 : (fmD b).1.op = 2 ∧ (fmD b).1.n3 = r
  case neg =>
    rw [f1 h0 h1] at hn'
    rw [hn' (.inl rfl)]
    clear f0 f1 f2 f3 f4 f5 f6 eS eB eR c2 hG hy hn'
    generalize fmD b = M at *
    (repeat' ((conv => whnf) <;> first | exact rfl | with_reducible refine boolK_dec (fun _ => ?_) (fun _ => ?_) <;> try (exfalso; omega) | refine boolK_beq (fun _ => ?_) (fun _ => ?_) <;> try (exfalso; first | omega | with_reducible contradiction) | refine boolK_bne (fun _ => ?_) (fun _ => ?_) <;> try (exfalso; first | omega | with_reducible contradiction) | (with_reducible first | refine boolK_not ?_ | refine boolK_and ?_ | refine boolK_or ?_ | refine boolK_true ?_ | refine boolK_false ?_) | refine boolK_intro (fun _ => ?_) (fun _ => ?_) <;> try (exfalso; simp_all; done) | with_reducible refine natK_lit ?_ | refine natK_of rfl ?_ | refine natK_any ?_ | refine jP ?_ | refine jQ ?_ | refine jR ?_ | refine jS ?_ | refine jT ?_ | refine jU (fun _ => ?_) | refine jV ?_ | refine jn ?_ | refine callK_intro (c1) ?_ | exact absurd ⟨by assumption, by assumption⟩ h1 | refine jy ?_ | refine ju ?_ | refine jv ?_)) <;> (try (conv => whnf))
  obtain ⟨h1a, h1b⟩ := id h1
  by_cases h2 : (dbU (fmD b).1.n1 (fmD b).1.n2 l now (bitOn 2) 2 6).2 = 0
  case neg =>
    rw [f2 h0 h1 h2] at hn'
    rw [hn' (.inl rfl)]
    clear f0 f1 f2 f3 f4 f5 f6 eS eB eR hG hy hn'
    generalize dbU (fmD b).1.n1 (fmD b).1.n2 l now (bitOn 2) 2 6 = U at *
    generalize fmD b = M at *
    (repeat' ((conv => whnf) <;> first | exact rfl | with_reducible refine boolK_dec (fun _ => ?_) (fun _ => ?_) <;> try (exfalso; omega) | refine boolK_beq (fun _ => ?_) (fun _ => ?_) <;> try (exfalso; first | omega | with_reducible contradiction) | refine boolK_bne (fun _ => ?_) (fun _ => ?_) <;> try (exfalso; first | omega | with_reducible contradiction) | (with_reducible first | refine boolK_not ?_ | refine boolK_and ?_ | refine boolK_or ?_ | refine boolK_true ?_ | refine boolK_false ?_) | refine boolK_intro (fun _ => ?_) (fun _ => ?_) <;> try (exfalso; simp_all; done) | with_reducible refine natK_lit ?_ | refine natK_of rfl ?_ | refine natK_any ?_ | refine jP ?_ | refine jQ ?_ | refine jR ?_ | refine jS ?_ | refine jT ?_ | refine jU (fun _ => ?_) | refine jV ?_ | refine jn ?_ | refine callK_intro (c1) ?_ | refine callK_intro (c2) ?_ | refine jy ?_ | refine ju ?_ | refine jv ?_)) <;> (try (conv => whnf))
  obtain ⟨i, i1, i2, _⟩ := dbU_at (by decide) (by decide) h2
  have q1 : vEn ⟨r, l, now, b⟩ = l.getD i de0 := by rw [vEn, eS, i2, Int.toNat_natCast]
  have c3 := c_rboxOpen (fmD b).1.bx (m := (fmD b).1.bx.length) rfl (by omega) 9 (vEn ⟨r, l, now, b⟩).k
  have hl2 := boxO_len (fmD b).1.bx 9 (vEn ⟨r, l, now, b⟩).k
  rw [← eB] at c3 hl2
  have c4 := c_rDecR (vBo ⟨r, l, now, b⟩).1 (m := (vBo ⟨r, l, now, b⟩).1.length) rfl (by omega)
  rw [← eR] at c4
  have i3 : (dbU (fmD b).1.n1 (fmD b).1.n2 l now (bitOn 2) 2 6).1 = (i : Int) := i2
  have hX := fun z hz K hK => headI_deK (l := l) (j := i) (z := z) hz q1.symm (K := K) i1 hK
  have hY := fun z hz K hK => headI_deV (l := l) (j := i) (z := z) hz q1.symm (K := K) i1 hK
  have hX2 := fun z f hz hf K hK => headI_deKK (l := l) (j := i) (z := z) (f := f) hz hf q1.symm (K := K) i1 hK
  have hY2 := fun z f hz hf K hK => headI_deVV (l := l) (j := i) (z := z) (f := f) hz hf q1.symm (K := K) i1 hK
  clear eB eR eS q1
  generalize vEn ⟨r, l, now, b⟩ = E at *
  by_cases h3 : (vBo ⟨r, l, now, b⟩).2 = true
  case neg =>
    rw [f3 h0 h1 h2 h3] at hn'
    rw [hn' (.inl rfl)]
    clear f0 f1 f2 f3 f4 f5 f6 hG hy hn'
    generalize vRd ⟨r, l, now, b⟩ = R at *
    generalize vBo ⟨r, l, now, b⟩ = B at *
    generalize dbU (fmD b).1.n1 (fmD b).1.n2 l now (bitOn 2) 2 6 = U at *
    generalize fmD b = M at *
    (repeat' ((conv => whnf) <;> first | refine natK_of (j := i) (by omega) ?_ | exact rfl | with_reducible refine boolK_dec (fun _ => ?_) (fun _ => ?_) <;> try (exfalso; omega) | refine boolK_beq (fun _ => ?_) (fun _ => ?_) <;> try (exfalso; first | omega | with_reducible contradiction) | refine boolK_bne (fun _ => ?_) (fun _ => ?_) <;> try (exfalso; first | omega | with_reducible contradiction) | (with_reducible first | refine boolK_not ?_ | refine boolK_and ?_ | refine boolK_or ?_ | refine boolK_true ?_ | refine boolK_false ?_) | refine boolK_intro (fun _ => ?_) (fun _ => ?_) <;> try (exfalso; simp_all; done) | with_reducible refine natK_lit ?_ | refine natK_of rfl ?_ | refine natK_any ?_ | refine jP ?_ | refine jQ ?_ | refine jR ?_ | refine jS ?_ | refine jT ?_ | refine jU (fun _ => ?_) | refine jV ?_ | refine jn ?_ | refine callK_intro (c1) ?_ | refine callK_intro (c2) ?_ | refine callK_intro (c3) ?_ | refine hX _ (by omega) _ (fun _ => ?_) | refine hX2 _ _ (by omega) rfl _ (fun _ => ?_) | refine jy ?_ | refine ju ?_ | refine jv ?_)) <;> (try (conv => whnf))
  by_cases h4 : (vRd ⟨r, l, now, b⟩).2 = 0
  case neg =>
    rw [f4 h0 h1 h2 h3 h4] at hn'
    rw [hn' (.inl rfl)]
    clear f0 f1 f2 f3 f4 f5 f6 hG hy hn'
    generalize vRd ⟨r, l, now, b⟩ = R at *
    generalize vBo ⟨r, l, now, b⟩ = B at *
    generalize dbU (fmD b).1.n1 (fmD b).1.n2 l now (bitOn 2) 2 6 = U at *
    generalize fmD b = M at *
    (repeat' ((conv => whnf) <;> first | refine natK_of (j := i) (by omega) ?_ | exact rfl | with_reducible refine boolK_dec (fun _ => ?_) (fun _ => ?_) <;> try (exfalso; omega) | refine boolK_beq (fun _ => ?_) (fun _ => ?_) <;> try (exfalso; first | omega | with_reducible contradiction) | refine boolK_bne (fun _ => ?_) (fun _ => ?_) <;> try (exfalso; first | omega | with_reducible contradiction) | (with_reducible first | refine boolK_not ?_ | refine boolK_and ?_ | refine boolK_or ?_ | refine boolK_true ?_ | refine boolK_false ?_) | refine boolK_intro (fun _ => ?_) (fun _ => ?_) <;> try (exfalso; simp_all; done) | with_reducible refine natK_lit ?_ | refine natK_of rfl ?_ | refine natK_any ?_ | refine jP ?_ | refine jQ ?_ | refine jR ?_ | refine jS ?_ | refine jT ?_ | refine jU (fun _ => ?_) | refine jV ?_ | refine jn ?_ | refine callK_intro (c1) ?_ | refine callK_intro (c2) ?_ | refine callK_intro (c3) ?_ | refine callK_intro (c4) ?_ | refine hX _ (by omega) _ (fun _ => ?_) | refine hX2 _ _ (by omega) rfl _ (fun _ => ?_) | refine jy ?_ | refine ju ?_ | refine jv ?_)) <;> (try (conv => whnf))
  by_cases h5 : ((vRd ⟨r, l, now, b⟩).1.s1 = (fmD b).1.n1 ∧ (vRd ⟨r, l, now, b⟩).1.s2 = (fmD b).1.n2 ∧ (vRd ⟨r, l, now, b⟩).1.s3 = (fmD b).1.n3) ∧ now ≤ (vRd ⟨r, l, now, b⟩).1.en
  case neg =>
    rw [f5 h0 h1 h2 h3 h4 h5] at hn'
    rw [hn' (.inl rfl)]
    clear f0 f1 f2 f3 f4 f5 f6 hG hy hn'
    generalize vRd ⟨r, l, now, b⟩ = R at *
    generalize vBo ⟨r, l, now, b⟩ = B at *
    generalize dbU (fmD b).1.n1 (fmD b).1.n2 l now (bitOn 2) 2 6 = U at *
    generalize fmD b = M at *
    (repeat' ((conv => whnf) <;> first | refine natK_of (j := i) (by omega) ?_ | exact rfl | with_reducible refine boolK_dec (fun _ => ?_) (fun _ => ?_) <;> try (exfalso; omega) | refine boolK_beq (fun _ => ?_) (fun _ => ?_) <;> try (exfalso; first | omega | with_reducible contradiction) | refine boolK_bne (fun _ => ?_) (fun _ => ?_) <;> try (exfalso; first | omega | with_reducible contradiction) | (with_reducible first | refine boolK_not ?_ | refine boolK_and ?_ | refine boolK_or ?_ | refine boolK_true ?_ | refine boolK_false ?_) | refine boolK_intro (fun _ => ?_) (fun _ => ?_) <;> try (exfalso; simp_all; done) | with_reducible refine natK_lit ?_ | refine natK_of rfl ?_ | refine natK_any ?_ | refine jP ?_ | refine jQ ?_ | refine jR ?_ | refine jS ?_ | refine jT ?_ | refine jU (fun _ => ?_) | refine jV ?_ | refine jn ?_ | refine callK_intro (c1) ?_ | refine callK_intro (c2) ?_ | refine callK_intro (c3) ?_ | refine callK_intro (c4) ?_ | refine hX _ (by omega) _ (fun _ => ?_) | refine hX2 _ _ (by omega) rfl _ (fun _ => ?_) | exact absurd ⟨⟨by assumption, by assumption, by assumption⟩, by omega⟩ h5 | refine jy ?_ | refine ju ?_ | refine jv ?_)) <;> (try (conv => whnf))
  rw [f6 h0 h1 h2 h3 h4 h5] at hn' hG hy
  dsimp only at hn' hG hy
  have hg := hG rfl
  obtain ⟨g1, g2, g3, g4, g5, g6', g7, g8, g9⟩ := frR_len hg
  clear f0 f1 f2 f3 f4 f5 f6
  obtain ⟨⟨s1, s2, s3⟩, h6⟩ := h5
  have cC := c_rConvert (vRd ⟨r, l, now, b⟩).1.c1 (vRd ⟨r, l, now, b⟩).1.c2 (vRd ⟨r, l, now, b⟩).1.c3 (vRd ⟨r, l, now, b⟩).1.s1 (vRd ⟨r, l, now, b⟩).1.s2 (vRd ⟨r, l, now, b⟩).1.s3 (vRd ⟨r, l, now, b⟩).1.k (vRd ⟨r, l, now, b⟩).1.st (vRd ⟨r, l, now, b⟩).1.en (vRd ⟨r, l, now, b⟩).1.ad g7 (by omega) (by omega) (by omega) (by omega) (by omega) (by omega) (by omega)
  by_cases hr : rOk (vRd ⟨r, l, now, b⟩).1
  case neg =>
    rw [hn' (.inr hr)]
    rw [conv_no hr] at cC
    dsimp only [tick0] at cC
    clear hG hy hn'
    generalize vRd ⟨r, l, now, b⟩ = R at *
    generalize vBo ⟨r, l, now, b⟩ = B at *
    generalize dbU (fmD b).1.n1 (fmD b).1.n2 l now (bitOn 2) 2 6 = U at *
    generalize fmD b = M at *
    (repeat' ((conv => whnf) <;> first | refine natK_of (j := i) (by omega) ?_ | exact rfl | with_reducible refine boolK_dec (fun _ => ?_) (fun _ => ?_) <;> try (exfalso; omega) | refine boolK_beq (fun _ => ?_) (fun _ => ?_) <;> try (exfalso; first | omega | with_reducible contradiction) | refine boolK_bne (fun _ => ?_) (fun _ => ?_) <;> try (exfalso; first | omega | with_reducible contradiction) | (with_reducible first | refine boolK_not ?_ | refine boolK_and ?_ | refine boolK_or ?_ | refine boolK_true ?_ | refine boolK_false ?_) | refine boolK_intro (fun _ => ?_) (fun _ => ?_) <;> try (exfalso; simp_all; done) | with_reducible refine natK_lit ?_ | refine natK_of rfl ?_ | refine natK_any ?_ | refine jP ?_ | refine jQ ?_ | refine jR ?_ | refine jS ?_ | refine jT ?_ | refine jU (fun _ => ?_) | refine jV ?_ | refine jn ?_ | refine callK_intro (c1) ?_ | refine callK_intro (c2) ?_ | refine callK_intro (c3) ?_ | refine callK_intro (c4) ?_ | refine callK_intro (cC) ?_ | refine hX _ (by omega) _ (fun _ => ?_) | refine hX2 _ _ (by omega) rfl _ (fun _ => ?_) | refine jy ?_ | refine ju ?_ | refine jv ?_)) <;> (try (conv => whnf))
  rw [hy rfl hr]
  rw [conv_yes hr] at cC
  obtain ⟨e1, e2, e3, e4, e5, l1, l2, l3, l4, l5, k1, k2, k3⟩ := r_steps hg hr
  generalize vRd ⟨r, l, now, b⟩ = RR at *
  obtain ⟨R, re⟩ := RR
  dsimp only at *
  have cS := c_rSealT false R.c1 R.c2 R.c3 R.ad R.k (rLf R) R.st R.s1 R.s2 k1 (by omega) (by omega) (by omega) (by omega) (by omega) E.k k2
  rw [e1, sealS_yes rfl, e2] at cS
  have p1 := c_rEncK false R.k R.s1 R.s2 R.s3 (rLf R) E.kv (rSl R E) R.st (m := (rSl R E).length) rfl (by omega) k1
  rw [show (⟨R.k, R.s1, R.s2, R.s3, rLf R, E.kv, rSl R E, R.st⟩ : KPart) = rPt R E from rfl, e3] at p1
  have p2 := c_rboxMake 3 R.k k1 (padS (kpB false (rPt R E))) (m := (padS (kpB false (rPt R E))).length) rfl (by omega)
  rw [e4] at p2
  have p3 := c_rEncM 3 R.s1 R.s2 R.s3 (rBx R E) (m := (rBx R E).length) rfl (by omega)
  rw [show (⟨3, R.s1, R.s2, R.s3, rBx R E⟩ : FMsg) = rMs R E from rfl, e5] at p3
  rw [s1, s2, s3] at p3
  have cT := c_rTgs r r
  have cE := c_rEnd R.st (rLf R)
  dsimp only at cC cS p1 p2 p3
  clear e1 e2 e3 e4 e5 hg hr hG hy hn'
  generalize endS R.st (rLf R) = EN at *
  generalize rMsg R E = MG at *
  generalize padS (kpB false (rPt R E)) = PT at *
  generalize rSl R E = SL at *
  generalize rBx R E = BX at *
  generalize rLf R = LF at *
  generalize vBo ⟨r, l, now, b⟩ = B at *
  generalize dbU (fmD b).1.n1 (fmD b).1.n2 l now (bitOn 2) 2 6 = U at *
  generalize fmD b = M at *
  (repeat' ((conv => whnf) <;> first | refine natK_of (j := i) (by omega) ?_ | exact rfl | with_reducible refine boolK_dec (fun _ => ?_) (fun _ => ?_) <;> try (exfalso; omega) | refine boolK_beq (fun _ => ?_) (fun _ => ?_) <;> try (exfalso; first | omega | with_reducible contradiction) | refine boolK_bne (fun _ => ?_) (fun _ => ?_) <;> try (exfalso; first | omega | with_reducible contradiction) | (with_reducible first | refine boolK_not ?_ | refine boolK_and ?_ | refine boolK_or ?_ | refine boolK_true ?_ | refine boolK_false ?_) | refine boolK_intro (fun _ => ?_) (fun _ => ?_) <;> try (exfalso; simp_all; done) | with_reducible refine natK_lit ?_ | refine natK_of rfl ?_ | refine natK_any ?_ | refine jP ?_ | refine jQ ?_ | refine jR ?_ | refine jS ?_ | refine jT ?_ | refine jU (fun _ => ?_) | refine jV ?_ | refine jn ?_ | refine callK_intro (c1) ?_ | refine callK_intro (c2) ?_ | refine callK_intro (c3) ?_ | refine callK_intro (c4) ?_ | refine callK_intro (cC) ?_ | refine callK_intro (cS) ?_ | refine callK_intro (p1) ?_ | refine callK_intro (p2) ?_ | refine callK_intro (p3) ?_ | refine callK_intro (cT) ?_ | refine callK_intro (cE) ?_ | refine hX _ (by omega) _ (fun _ => ?_) | refine hX2 _ _ (by omega) rfl _ (fun _ => ?_) | refine hY _ (by omega) _ (fun _ => ?_) | refine hY2 _ _ (by omega) rfl _ (fun _ => ?_) | refine jy ?_ | refine ju ?_ | refine sideK_intro (by first | (exact ⟨rfl, rfl, rfl⟩)) ?_ | refine jv ?_)) <;> (try (conv => whnf))
end Go.Sx

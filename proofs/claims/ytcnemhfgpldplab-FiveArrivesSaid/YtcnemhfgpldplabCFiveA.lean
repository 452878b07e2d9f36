/-
  Contracts of Accept of package five and of its reference.
-/
import Derived.Test.YtcnemhfgpldplabCFiveI
set_option linter.all false
namespace Go.Sx
open Go.Proofs Go.RowKit
noncomputable def g11 : Par := par 61 (nthLL [[1, 2, 3, 6], [1, 3, 6, 8, 9], [1, 3, 6, 8, 9, 19], [6, 7], [1, 6, 8, 30], [6, 7], [6, 10, 11], [6, 10, 40], [6, 7], [6, 9, 12], [6, 12, 48], [6, 7], [6, 7]]) [6, 7, 9] (nthLL [])
set_option maxRecDepth 10000
set_option maxHeartbeats 16000000
theorem c_Accept (m1 m2 m3 : List UInt8) (k : Int) (b : List UInt8) {m : Nat} (hm : m = b.length) (hb : b.length ≤ 90000) : Fn Try.prog 11 [.a [.s m1, .s m2, .s m3], .o (.i .u64 k), .o (.sl (b.map u8) m)] [] (.tup [.c (.a [.s (faA m1 m2 m3 k b).1.s1, .s (faA m1 m2 m3 k b).1.s2, .s (faA m1 m2 m3 k b).1.s3, .i .u64 (faA m1 m2 m3 k b).1.k, .i .i64 (faA m1 m2 m3 k b).1.st, .i .i64 (faA m1 m2 m3 k b).1.en, .sl ((faA m1 m2 m3 k b).1.rc.map u8) (faA m1 m2 m3 k b).1.rc.length]), .c (.o (.i .i64 (faA m1 m2 m3 k b).2))]) [] := by
  have c1 := c_DecM b hm hb
  have hl := fmD_len b
  have c2 := c_boxOpen (fmD b).1.bx (m := (fmD b).1.bx.length) rfl (by omega) 10 k
  have hl2 := boxO_len (fmD b).1.bx 10 k
  have c3 := c_DecP (boxO (fmD b).1.bx 10 k).1 (m := (boxO (fmD b).1.bx 10 k).1.length) rfl (by omega)
  have a0 := @faA_0 m1 m2 m3 k b
  have a1 := @faA_1 m1 m2 m3 k b
  have a2 := @faA_2 m1 m2 m3 k b
  have a3 := @faA_3 m1 m2 m3 k b
  have a4 := @faA_ok m1 m2 m3 k b
  dsimp only [fp0] at a0 a1 a2 a3
  generalize faA m1 m2 m3 k b = R at *
  generalize fpD (boxO (fmD b).1.bx 10 k).1 = P at *
  generalize boxO (fmD b).1.bx 10 k = Q at *
  generalize fmD b = M at *
  refine Fn_intro (G := g11) (goodA rfl) (fn := Try.f11) rfl rfl rfl rfl rfl ?_
  (repeat' ((conv => whnf) <;> first | exact rfl | with_reducible refine boolK_dec (fun _ => ?_) (fun _ => ?_) <;> try (exfalso; omega) | refine boolK_beq (fun _ => ?_) (fun _ => ?_) <;> try (exfalso; first | omega | with_reducible contradiction) | refine boolK_bne (fun _ => ?_) (fun _ => ?_) <;> try (exfalso; first | omega | with_reducible contradiction) | (with_reducible first | refine boolK_not ?_ | refine boolK_and ?_ | refine boolK_or ?_ | refine boolK_true ?_ | refine boolK_false ?_) | refine boolK_intro (fun _ => ?_) (fun _ => ?_) <;> try (exfalso; simp_all; done) | with_reducible refine natK_lit ?_ | refine natK_of rfl ?_ | refine natK_any ?_ | refine jP ?_ | refine jQ ?_ | refine jR ?_ | refine jS ?_ | refine jT ?_ | refine jU (fun _ => ?_) | refine jV ?_ | refine jW ?_ | refine jX ?_ | refine jY ?_ | refine jZ ?_ | refine ja ?_ | refine jb ?_ | refine jc ?_ | refine jd ?_ | refine je ?_ | refine jf ?_ | refine jg ?_ | refine jh ?_ | refine ji ?_ | refine jj ?_ | refine jk ?_ | refine jn ?_ | refine jo ?_ | refine jp ?_ | refine jq ?_ | refine jr ?_ | refine js ?_ | refine callK_intro (c1) ?_ | refine callK_intro (c2) ?_ | refine callK_intro (c3) ?_ | refine jt ?_ | refine jx ?_ | refine jy ?_ | refine ju ?_ | refine sideK_intro (by first | (rw [a0 (by assumption)] <;> first | rfl | exact ⟨rfl, rfl⟩ | exact ⟨rfl, rfl, rfl⟩) | (rw [a1 (by assumption) (fun hh => absurd hh.1 (by assumption))] <;> first | rfl | exact ⟨rfl, rfl⟩ | exact ⟨rfl, rfl, rfl⟩) | (rw [a1 (by assumption) (fun hh => absurd hh.2.1 (by assumption))] <;> first | rfl | exact ⟨rfl, rfl⟩ | exact ⟨rfl, rfl, rfl⟩) | (rw [a1 (by assumption) (fun hh => absurd hh.2.2.1 (by assumption))] <;> first | rfl | exact ⟨rfl, rfl⟩ | exact ⟨rfl, rfl, rfl⟩) | (rw [a1 (by assumption) (fun hh => absurd hh.2.2.2 (by assumption))] <;> first | rfl | exact ⟨rfl, rfl⟩ | exact ⟨rfl, rfl, rfl⟩) | (rw [a2 (by assumption) ⟨by assumption, by assumption, by assumption, by assumption⟩ (Bool.eq_false_iff.1 (by assumption))] <;> first | rfl | exact ⟨rfl, rfl⟩ | exact ⟨rfl, rfl, rfl⟩) | (rw [a3 (by assumption) ⟨by assumption, by assumption, by assumption, by assumption⟩ (by assumption) (by assumption)] <;> first | rfl | exact ⟨rfl, rfl⟩ | exact ⟨rfl, rfl, rfl⟩) | (rw [a4 (by assumption) ⟨by assumption, by assumption, by assumption, by assumption⟩ (by assumption) (by assumption)] <;> first | rfl | exact ⟨rfl, rfl⟩ | exact ⟨rfl, rfl, rfl⟩)) ?_ | refine jv ?_)) <;> (try (conv => whnf))
end Go.Sx

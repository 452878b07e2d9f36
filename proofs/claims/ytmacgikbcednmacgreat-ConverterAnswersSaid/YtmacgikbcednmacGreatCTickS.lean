/-
  Contracts of the functions that seal and open tickets.
-/
import Derived.Test.YtmacgikbcednmacGreatPX2
import Derived.Test.YtmacgikbcednmacGreatCTickL
import Derived.Test.YtmacgikbcednmacGreatCBox
set_option linter.all false
namespace Go.Sx
open Go.Proofs Go.RowKit
noncomputable def g28 : Par := par 21 (nthLL [[1, 2], [1, 6, 7], [1, 6, 7, 14], [4, 5], [4, 5]]) [4, 5, 7] (nthLL [])
noncomputable def g37 : Par := par 21 (nthLL [[1, 2], [1, 6, 7], [1, 6, 7, 14], [4, 5], [4, 5]]) [4, 5, 7] (nthLL [])
set_option maxRecDepth 10000
set_option maxHeartbeats 4000000
theorem c_SealT (li : Bool) (x y z : List UInt8) (ad se lf is : Int) (sn si : List UInt8) (hse : 0 ≤ se ∧ se ≤ 18446744073709551615) (hx : x.length ≤ 100000) (hy : y.length ≤ 100000) (hz : z.length ≤ 100000) (hn : sn.length ≤ 100000) (hi : si.length ≤ 100000) (k : Int) (hk : 0 ≤ k ∧ k ≤ 18446744073709551615) : Fn Tryz.prog 28 [.a [.b li, .s x, .s y, .s z, .i .i64 ad, .i .u64 se, .i .i64 lf, .i .i64 is, .s sn, .s si], .o (.i .u64 k)] [] (.tup [.fr ((sealS 1 k (tickN li x y z ad se lf is sn si)).1.map u8) (sealS 1 k (tickN li x y z ad se lf is sn si)).1.length 1, .c (.o (.i .i64 (sealS 1 k (tickN li x y z ad se lf is sn si)).2))]) [] := by
  have cE := c_EncodeT li x y z ad se lf is sn si hse hx hy hz hn hi
  have hl := tickN_len li x y z ad se lf is sn si
  generalize tickN li x y z ad se lf is sn si = N at *
  have cM := c_boxMake 1 k hk N.1 rfl (by omega)
  have hy := @sealS_yes 1 k N
  have hn := @sealS_no 1 k N
  generalize sealS 1 k N = S at *
  generalize makeS 1 k N.1 = M at *
  refine Fn_intro (G := g28) (goodA rfl) (fn := Tryz.f28) rfl rfl rfl rfl rfl ?_
  (repeat' ((conv => whnf) <;> first | exact rfl | with_reducible refine boolK_dec (fun _ => ?_) (fun _ => ?_) <;> try (exfalso; omega) | refine boolK_beq (fun _ => ?_) (fun _ => ?_) <;> try (exfalso; first | omega | with_reducible contradiction) | refine boolK_bne (fun _ => ?_) (fun _ => ?_) <;> try (exfalso; first | omega | with_reducible contradiction) | (with_reducible first | refine boolK_not ?_ | refine boolK_and ?_ | refine boolK_or ?_ | refine boolK_true ?_ | refine boolK_false ?_) | refine boolK_intro (fun _ => ?_) (fun _ => ?_) <;> try (exfalso; simp_all; done) | with_reducible refine natK_lit ?_ | refine natK_of rfl ?_ | refine natK_any ?_ | refine jn ?_ | refine callK_intro (cE) ?_ | refine callK_intro (cM) ?_ | refine jy ?_ | refine ju ?_ | refine sideK_intro (by first | (rw [hn (by assumption)] <;> first | rfl | exact ⟨rfl, rfl⟩ | exact ⟨rfl, rfl, rfl⟩) | (rw [hy (by assumption)] <;> first | rfl | exact ⟨rfl, rfl⟩ | exact ⟨rfl, rfl, rfl⟩) | (rw [hy (by assumption)]; exact ⟨rfl, rfl, rfl⟩)) ?_ | refine jv ?_)) <;> (try (conv => whnf))
theorem c_rSealT (li : Bool) (x y z : List UInt8) (ad se lf is : Int) (sn si : List UInt8) (hse : 0 ≤ se ∧ se ≤ 18446744073709551615) (hx : x.length ≤ 100000) (hy : y.length ≤ 100000) (hz : z.length ≤ 100000) (hn : sn.length ≤ 100000) (hi : si.length ≤ 100000) (k : Int) (hk : 0 ≤ k ∧ k ≤ 18446744073709551615) : Fn Tryz.prog 37 [.a [.b li, .s x, .s y, .s z, .i .i64 ad, .i .u64 se, .i .i64 lf, .i .i64 is, .s sn, .s si], .o (.i .u64 k)] [] (.tup [.fr ((sealS 1 k (tickN li x y z ad se lf is sn si)).1.map u8) (sealS 1 k (tickN li x y z ad se lf is sn si)).1.length 1, .c (.o (.i .i64 (sealS 1 k (tickN li x y z ad se lf is sn si)).2))]) [] := by
  have cE := c_rEncodeT li x y z ad se lf is sn si hse hx hy hz hn hi
  have hl := tickN_len li x y z ad se lf is sn si
  generalize tickN li x y z ad se lf is sn si = N at *
  have cM := c_rboxMake 1 k hk N.1 rfl (by omega)
  have hy := @sealS_yes 1 k N
  have hn := @sealS_no 1 k N
  generalize sealS 1 k N = S at *
  generalize makeS 1 k N.1 = M at *
  refine Fn_intro (G := g37) (goodA rfl) (fn := Tryz.f37) rfl rfl rfl rfl rfl ?_
  (repeat' ((conv => whnf) <;> first | exact rfl | with_reducible refine boolK_dec (fun _ => ?_) (fun _ => ?_) <;> try (exfalso; omega) | refine boolK_beq (fun _ => ?_) (fun _ => ?_) <;> try (exfalso; first | omega | with_reducible contradiction) | refine boolK_bne (fun _ => ?_) (fun _ => ?_) <;> try (exfalso; first | omega | with_reducible contradiction) | (with_reducible first | refine boolK_not ?_ | refine boolK_and ?_ | refine boolK_or ?_ | refine boolK_true ?_ | refine boolK_false ?_) | refine boolK_intro (fun _ => ?_) (fun _ => ?_) <;> try (exfalso; simp_all; done) | with_reducible refine natK_lit ?_ | refine natK_of rfl ?_ | refine natK_any ?_ | refine jn ?_ | refine callK_intro (cE) ?_ | refine callK_intro (cM) ?_ | refine jy ?_ | refine ju ?_ | refine sideK_intro (by first | (rw [hn (by assumption)] <;> first | rfl | exact ⟨rfl, rfl⟩ | exact ⟨rfl, rfl, rfl⟩) | (rw [hy (by assumption)] <;> first | rfl | exact ⟨rfl, rfl⟩ | exact ⟨rfl, rfl, rfl⟩) | (rw [hy (by assumption)]; exact ⟨rfl, rfl, rfl⟩)) ?_ | refine jv ?_)) <;> (try (conv => whnf))
end Go.Sx

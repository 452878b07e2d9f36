/-
  Contracts of the functions that read principals, of the document's reader, and of bytes.Equal.
-/
import Derived.Test.YtcnemhfgpldplabPTrip
import Derived.Test.YtcnemhfgpldplabPAuth
import Derived.Test.YtcnemhfgpldplabCPrin
import Derived.Test.YtcnemhfgpldplabCFieldT
set_option linter.all false
namespace Go.Sx
open Go.Proofs Go.RowKit
noncomputable def g54 : Par := par 40 (nthLL [[0, 1, 4], [0, 1, 4, 7], [0, 1, 4, 7], [0, 1, 4, 7, 14, 15, 16], [0, 1, 4, 7, 14, 15, 16, 17], [0, 1, 4, 7, 10, 14, 15, 16], [0, 1, 4, 7, 8, 14, 15, 16], [0, 1, 4, 7, 8, 14, 15, 16, 30], [4, 5, 6], [0, 1, 4, 7, 14, 15, 16], [1, 4, 7, 36], [4, 5, 6], [4, 5, 6]]) [1, 4, 5, 6, 8] (nthLL [])
noncomputable def g31 : Par := par 10 (nthLL [[0, 1], [4]]) [4] (nthLL [])
set_option maxRecDepth 10000
set_option maxHeartbeats 2000000
theorem c_Principal (b : List UInt8) {m : Nat} (hm : m = b.length) (hb : b.length ≤ 900000) (k : Int) (hk : -9223372036854775808 ≤ k ∧ k ≤ 9223372036854775807) : Fn Try.prog 54 [.o (.sl (b.map u8) m), .o (.i .i64 k)] [] (.tup [.c (.a [.s (prinS b k).1.1, .s (prinS b k).1.2.1, .s (prinS b k).1.2.2]), .c (.o (.i .i64 (prinS b k).2.1)), .c (.o (.i .i64 (prinS b k).2.2))]) [] := by
  subst hm
  have t1 := text_next b k
  have t2 := text_next b (textS b k).2.1
  have t3 := text_next b (textS b (textS b k).2.1).2.1
  have l1 := text_len b k
  have l2 := text_len b (textS b k).2.1
  have l3 := text_len b (textS b (textS b k).2.1).2.1
  refine Fn_intro (G := g54) (goodA rfl) (fn := Try.f54) rfl rfl rfl rfl rfl ?_
  (repeat' ((conv => whnf) <;> first | exact rfl | with_reducible refine boolK_dec (fun _ => ?_) (fun _ => ?_) <;> try (exfalso; omega) | refine boolK_beq (fun _ => ?_) (fun _ => ?_) <;> try (exfalso; first | omega | with_reducible contradiction) | refine boolK_bne (fun _ => ?_) (fun _ => ?_) <;> try (exfalso; first | omega | with_reducible contradiction) | (with_reducible first | refine boolK_not ?_ | refine boolK_and ?_ | refine boolK_or ?_ | refine boolK_true ?_ | refine boolK_false ?_) | refine boolK_intro (fun _ => ?_) (fun _ => ?_) <;> try (exfalso; simp_all; done) | refine jA ?_ | refine jB ?_ | refine jH ?_ | refine jI ?_ | refine jJ ?_ | refine jK ?_ | with_reducible refine natK_lit ?_ | refine natK_of rfl ?_ | refine natK_any ?_ | refine jP ?_ | refine jQ ?_ | refine jR ?_ | refine jS ?_ | refine jT ?_ | refine jU (fun _ => ?_) | refine jV ?_ | refine jW ?_ | refine jX ?_ | refine jY ?_ | refine jZ ?_ | refine ja ?_ | refine jb ?_ | refine jc ?_ | refine jd ?_ | refine je ?_ | refine jf ?_ | refine jg ?_ | refine jh ?_ | refine ji ?_ | refine jj ?_ | refine jk ?_ | refine jn ?_ | refine jo ?_ | refine jp ?_ | refine jq ?_ | refine jr ?_ | refine js ?_ | refine callK_intro (c_Text _ rfl (by omega) _ (by omega)) ?_ | refine callK_intro (c_Valid _ _ _ (by omega) (by omega) (by omega)) ?_ | refine loopK_step (G := g54) ?_ | refine jt ?_ | refine jx ?_ | refine jy ?_ | refine ju ?_ | refine sideK_intro (by first | (rw [prinS_1 (by assumption)] <;> first | rfl | exact ⟨rfl, rfl⟩ | exact ⟨rfl, rfl, rfl⟩) | (rw [prinS_2 (by assumption) (by assumption)] <;> first | rfl | exact ⟨rfl, rfl⟩ | exact ⟨rfl, rfl, rfl⟩) | (rw [prinS_3 (by assumption) (by assumption) (by assumption)] <;> first | rfl | exact ⟨rfl, rfl⟩ | exact ⟨rfl, rfl, rfl⟩) | (rw [prinS_4 (by assumption) (by assumption) (by assumption) (by assumption)] <;> first | rfl | exact ⟨rfl, rfl⟩ | exact ⟨rfl, rfl, rfl⟩) | (rw [prinS_5 (by assumption) (by assumption) (by assumption) (by assumption)] <;> first | rfl | exact ⟨rfl, rfl⟩ | exact ⟨rfl, rfl, rfl⟩)) ?_ | refine jv ?_)) <;> (try (conv => whnf))
theorem c_Equal (a b : List UInt8) {m n : Nat} (hm : m = a.length) (hn : n = b.length) : Fn Try.prog 31 [.o (.sl (a.map u8) m), .o (.sl (b.map u8) n)] [] (.one (.c (.o (.b (a == b))))) [] := by
  refine Fn_intro (G := g31) (goodA rfl) (fn := Try.f31) rfl rfl rfl rfl rfl ?_
  (repeat' ((conv => whnf) <;> first | exact rfl | with_reducible refine boolK_dec (fun _ => ?_) (fun _ => ?_) <;> try (exfalso; omega) | refine boolK_beq (fun _ => ?_) (fun _ => ?_) <;> try (exfalso; first | omega | with_reducible contradiction) | refine boolK_bne (fun _ => ?_) (fun _ => ?_) <;> try (exfalso; first | omega | with_reducible contradiction) | (with_reducible first | refine boolK_not ?_ | refine boolK_and ?_ | refine boolK_or ?_ | refine boolK_true ?_ | refine boolK_false ?_) | refine boolK_intro (fun _ => ?_) (fun _ => ?_) <;> try (exfalso; simp_all; done) | refine jC ?_ | refine jD ?_ | refine jE ?_ | refine jF ?_ | refine jG ?_ | with_reducible refine natK_lit ?_ | refine natK_of rfl ?_ | refine natK_any ?_ | refine jP ?_ | refine jQ ?_ | refine jR ?_ | refine jS ?_ | refine jT ?_ | refine jU (fun _ => ?_) | refine jV ?_ | refine jW ?_ | refine jX ?_ | refine jY ?_ | refine jZ ?_ | refine ja ?_ | refine jb ?_ | refine jc ?_ | refine jd ?_ | refine je ?_ | refine jf ?_ | refine jg ?_ | refine jh ?_ | refine ji ?_ | refine jj ?_ | refine jk ?_ | refine jn ?_ | refine jo ?_ | refine jp ?_ | refine jq ?_ | refine jr ?_ | refine js ?_ | refine jt ?_ | refine jx ?_ | refine jy ?_ | refine ju ?_ | refine jv ?_)) <;> (try (conv => whnf))
end Go.Sx

/-
  Contracts of the small functions of the laws about databases.
-/
import Derived.Test.YtfagmeafkddibaaDoorCDbM
import Derived.Test.YtfagmeafkddibaaDoorCDump
set_option linter.all false
namespace Go.Sx
open Go.Proofs Go.RowKit
def awE : DE := ⟨[97], [], longK 1, 0, 0, 0, 0, 0, 0⟩
theorem awE_ok : deV awE := ent_ok (by decide +kernel) inst_nil (.inr (by decide +kernel)) (by decide) (by decide) (by decide) (by decide) (by decide) (by decide)
theorem aw_h1 : dbA [82] [] awE = (([82], [awE]), 0) := by
  have h : dbC [82] [] = 0 := dbC_mk (by decide +kernel) (by simp) (by simp) (by intro i hi; simp at hi)
  rw [dbA_4 h awE_ok (by simp)]
  rfl
theorem aw_h2 : dbF [97] [] [awE] = (0, 0) := by
  have : dbK [97] [] [awE] (0 + 1) = (0, 1) := dbK_yes (x := [97]) (y := []) (l := [awE]) (n := 0) (deIs_yes rfl rfl)
  rw [dbF_one (by show (dbK [97] [] [awE] (0 + 1)).2 = 1; rw [this])]
  show ((dbK [97] [] [awE] (0 + 1)).1, (0 : Int)) = _
  rw [this]
noncomputable def g7 : Par := par 48 (nthLL [[], [1, 2], [1, 2, 3, 4], [1, 2, 3, 4, 5, 6], [0]]) [0] (nthLL [])
set_option maxRecDepth 10000
set_option maxHeartbeats 4000000
theorem c_awkAdd : Fn Tryd.prog 25 [.a [.s [82], .sl [] 0], .a [.s [97], .s [], .i .u64 (longK 1), .i .i64 0, .i .i64 0, .i .i64 0, .i .i64 0, .i .i64 0, .i .i64 0]] [] (.tup [.c (.a [.s [82], .sl [.s [97], .s [], .i .u64 (longK 1), .i .i64 0, .i .i64 0, .i .i64 0, .i .i64 0, .i .i64 0, .i .i64 0] 1]), .c (.o (.i .i64 0))]) [] := by
  have c := c_dbAdd [82] [] (m := 0) rfl (by simp) (by simp) (by simp) awE (de_grow (by omega) (deV_small awE_ok).1)
  rw [aw_h1] at c
  exact c
theorem c_awkFind : Fn Tryd.prog 18 [.a [.s [82], .sl [.s [97], .s [], .i .u64 (longK 1), .i .i64 0, .i .i64 0, .i .i64 0, .i .i64 0, .i .i64 0, .i .i64 0] 1], .o (.s [97]), .o (.s [])] [] (.tup [.c (.o (.i .i64 0)), .c (.o (.i .i64 0))]) [] := by
  have c := c_dbFind [82] [awE] (m := 1) rfl (by simp) [97] []
  rw [aw_h2] at c
  exact c
theorem c_awake12 : Fn Tryd.prog 7 [] [] (.one (.c (.o (.b true)))) [] := by
  have c1 := c_awkAdd
  have c2 := c_awkFind
  have c3 := c_Dump0
  have cL := c_Long 1 (by omega)
  generalize longK 1 = K at *
  refine Fn_intro (G := g7) (goodA rfl) (fn := Tryd.f7) rfl rfl rfl rfl rfl ?_
  (repeat' ((conv => whnf) <;> first | exact rfl | with_reducible refine boolK_dec (fun _ => ?_) (fun _ => ?_) <;> try (exfalso; omega) | refine boolK_beq (fun _ => ?_) (fun _ => ?_) <;> try (exfalso; first | omega | contradiction) | refine boolK_bne (fun _ => ?_) (fun _ => ?_) <;> try (exfalso; first | omega | contradiction) | (with_reducible first | refine boolK_not ?_ | refine boolK_and ?_ | refine boolK_or ?_ | refine boolK_true ?_ | refine boolK_false ?_) | refine boolK_intro (fun _ => ?_) (fun _ => ?_) <;> try (exfalso; simp_all; done) | with_reducible refine natK_lit ?_ | refine natK_of rfl ?_ | refine natK_any ?_ | refine jP ?_ | refine jQ ?_ | refine jR ?_ | refine jS ?_ | refine jT ?_ | refine jU (fun _ => ?_) | refine jV ?_ | refine jW ?_ | refine jX ?_ | refine jY ?_ | refine jZ ?_ | refine ja ?_ | refine jb ?_ | refine jc ?_ | refine jd ?_ | refine je ?_ | refine jf ?_ | refine jg ?_ | refine jh ?_ | refine ji ?_ | refine jj ?_ | refine jk ?_ | refine jn ?_ | refine jo ?_ | refine jp ?_ | refine jq ?_ | refine jr ?_ | refine js ?_ | refine callK_intro (c1) ?_ | refine callK_intro (c2) ?_ | refine callK_intro (c3) ?_ | refine callK_intro (cL) ?_ | refine jt ?_ | refine jx ?_ | refine jy ?_ | refine ju ?_ | refine jv ?_)) <;> (try (conv => whnf))
/-- what both sides say of a database -/
theorem chk_pack (r : List UInt8) (l : List DE) (n : Nat) (hn : n = l.length) (hl : l.length ≤ 1000) (hr : r.length ≤ 1000) (hs : ∀ s ∈ l, deSm 90000 s) : ∃ e : Int,
    Fn Tryd.prog 10 [.a [.s r, .sl (flat deR l) n]] [] (.one (.c (.o (.i .i64 e)))) [] ∧ Fn Tryd.prog 11 [.a [.s r, .sl (flat deR l) n]] [] (.one (.c (.o (.i .i64 e)))) [] :=
  ⟨_, c_dbCheck r l hn (by omega) (by omega) hs, c_rdbCheck r l hn (by omega) (by omega) hs⟩
end Go.Sx

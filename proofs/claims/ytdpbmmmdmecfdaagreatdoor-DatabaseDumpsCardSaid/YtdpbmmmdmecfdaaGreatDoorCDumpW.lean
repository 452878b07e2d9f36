/-
  The law of DatabaseDumps, from contracts of readEntry and of Dump.
-/
import Derived.Test.YtdpbmmmdmecfdaaGreatDoorCDumpP
import Derived.Test.YtdpbmmmdmecfdaaGreatDoorCDumpL
import Derived.Test.YtdpbmmmdmecfdaaGreatDoorCDbM
import Derived.Test.YtdpbmmmdmecfdaaGreatDoorLOwn
set_option linter.all false
namespace Go.Sx
open Go.Proofs Go.RowKit
def awE : DE := ⟨[97], [], longK 1, 0, 0, 0, 0, 0, 0⟩
theorem awE_ok : deV awE := ent_ok (by decide +kernel) inst_nil (.inr (by decide +kernel)) (by decide) (by decide) (by decide) (by decide) (by decide) (by decide)
theorem aw_h1 : dbA [82] [] awE = (([82], [awE]), 0) := by
  have h : dbC [82] [] = 0 := dbC_mk (by decide +kernel) (by simp) (by simp) (by intro i hi; simp at hi)
  rw [dbA_4 h awE_ok (by simp)]
  rfl
theorem aw_h2 : dbF [97] [] [awE] = (0, 0) := by
  have : dbK [97] [] [awE] (0 + 1) = (0, 1) := dbK_yes (x := [97]) (y := []) (l := [awE]) (n := 0) (deIs_yes rfl rfl)
  rw [dbF_one (by show (dbK [97] [] [awE] (0 + 1)).2 = 1; rw [this])]
  show ((dbK [97] [] [awE] (0 + 1)).1, (0 : Int)) = _
  rw [this]
theorem loadQ_I (s : List UInt8) : loadQ s = loadI s := by
  rw [loadQ, loadI, load_eq]
  cases loadR s <;> rfl
theorem loadI_len (s : List UInt8) : (loadI s).1.2.length ≤ 60 := by
  unfold loadI
  split
  · rename_i q hq
    obtain ⟨r, l⟩ := q
    exact (dbC_un (loadR_is hq).1).2.1
  · exact Nat.zero_le _
theorem loadI_dump {r : List UInt8} {l : List DE} (h : dbC r l = 0) : loadI (dumpB r l) = ((r, l), 0) := loadI_ok (loadR_dump h)
theorem dump_len {r : List UInt8} {l : List DE} (h : dbC r l = 0) : (dumpB r l).length ≤ 50000 := by
  obtain ⟨hr, h60, hv, _⟩ := dbC_un h
  have lr : r.length ≤ 39 := by
    simp only [realmS, instS, Bool.and_eq_true, decide_eq_true_eq] at hr
    exact hr.2.1
  have key : ∀ j, j ≤ l.length → (r ++ [10] ++ ((l.take j).map fun e => lineE e ++ [10]).flatten).length ≤ 40 + j * 700 := by
    intro j
    induction j with
    | zero => intro _; simp; omega
    | succ j ih =>
      intro hj
      have hjl : j < l.length := by omega
      rw [lines_snoc r hjl]
      have ih := ih (by omega)
      obtain ⟨n0, n1, n2, n3, n4, n5, n6⟩ := deV_num (hv _ (getD_mem (d := de0) hjl))
      obtain ⟨lx, ly, _⟩ := (deV_small (hv _ (getD_mem (d := de0) hjl))).1
      generalize l.getD j de0 = E at *
      have m0 := dg_len (n := E.k) (by omega)
      have m1 := dg_len (n := E.kv) (by omega)
      have m2 := dg_len (n := E.ex) (by omega)
      have m3 := dg_len (n := E.ml) (by omega)
      have m4 := dg_len (n := E.atr) (by omega)
      have m5 := dg_len (n := E.fl) (by omega)
      have m6 := dg_len (n := E.un) (by omega)
      simp only [List.length_append, List.length_cons, List.length_nil] at ih ⊢
      omega
  rw [← lines_all]
  have := key l.length (Nat.le_refl _)
  omega
noncomputable def g4 : Par := par 48 (nthLL [[], [1, 2], [1, 2, 3, 4], [1, 2, 3, 4, 5, 6], [0]]) [0] (nthLL [])
set_option maxRecDepth 10000
set_option maxHeartbeats 4000000
theorem c_awkAdd : Fn Tryz.prog 13 [.a [.s [82], .sl [] 0], .a [.s [97], .s [], .i .u64 (longK 1), .i .i64 0, .i .i64 0, .i .i64 0, .i .i64 0, .i .i64 0, .i .i64 0]] [] (.tup [.c (.a [.s [82], .sl [.s [97], .s [], .i .u64 (longK 1), .i .i64 0, .i .i64 0, .i .i64 0, .i .i64 0, .i .i64 0, .i .i64 0] 1]), .c (.o (.i .i64 0))]) [] := by
  have c := c_dbAdd [82] [] (m := 0) rfl (by simp) (by simp) (by simp) awE (de_grow (by omega) (deV_small awE_ok).1)
  rw [aw_h1] at c
  exact c
theorem c_awkFind : Fn Tryz.prog 15 [.a [.s [82], .sl [.s [97], .s [], .i .u64 (longK 1), .i .i64 0, .i .i64 0, .i .i64 0, .i .i64 0, .i .i64 0, .i .i64 0] 1], .o (.s [97]), .o (.s [])] [] (.tup [.c (.o (.i .i64 0)), .c (.o (.i .i64 0))]) [] := by
  have c := c_dbFind [82] [awE] (m := 1) rfl (by simp) [97] []
  rw [aw_h2] at c
  exact c
theorem c_awake12P (hE : ∀ s : List UInt8, s.length ≤ 80000 → Fn Tryz.prog 27 [.o (.s s)] [] (.tup [.c (.a (deR (entQ s).1)), .c (.o (.b (entQ s).2))]) []) (hD : ∀ (r : List UInt8) (l : List DE) (m : Nat), m = l.length → l.length ≤ 1000 → r.length ≤ 80000 → (∀ s ∈ l, deSm 90000 s) → Fn Tryz.prog 7 [.a [.s r, .sl (flat deR l) m]] [] (.tup [.c (.o (.s (dumpS r l).1)), .c (.o (.i .i64 (dumpS r l).2))]) []) : Fn Tryz.prog 4 [] [] (.one (.c (.o (.b true)))) [] := by
  have c1 := c_awkAdd
  have c2 := c_awkFind
  have c3 := hD [82] [] 0 rfl (by simp) (by simp) (by simp)
  have h : dbC [82] [] = 0 := dbC_mk (by decide +kernel) (by simp) (by simp) (by intro i hi; simp at hi)
  rw [dumpS_ok h, dumpB_nil] at c3
  have cL := c_Long 1 (by omega)
  clear hE hD h
  generalize longK 1 = K at *
  refine Fn_intro (G := g4) (goodA rfl) (fn := Tryz.f4) rfl rfl rfl rfl rfl ?_
  (repeat' ((conv => whnf) <;> first | exact rfl | with_reducible refine boolK_dec (fun _ => ?_) (fun _ => ?_) <;> try (exfalso; omega) | refine boolK_beq (fun _ => ?_) (fun _ => ?_) <;> try (exfalso; first | omega | with_reducible contradiction) | refine boolK_bne (fun _ => ?_) (fun _ => ?_) <;> try (exfalso; first | omega | with_reducible contradiction) | (with_reducible first | refine boolK_not ?_ | refine boolK_and ?_ | refine boolK_or ?_ | refine boolK_true ?_ | refine boolK_false ?_) | refine boolK_intro (fun _ => ?_) (fun _ => ?_) <;> try (exfalso; simp_all; done) | with_reducible refine natK_lit ?_ | refine natK_of rfl ?_ | refine natK_any ?_ | refine callK_intro (c1) ?_ | refine callK_intro (c2) ?_ | refine callK_intro (c3) ?_ | refine callK_intro (cL) ?_ | refine jy ?_ | refine ju ?_ | refine jv ?_)) <;> (try (conv => whnf))
/-- what both sides load -/
theorem load_pack (hE : ∀ s : List UInt8, s.length ≤ 80000 → Fn Tryz.prog 27 [.o (.s s)] [] (.tup [.c (.a (deR (entQ s).1)), .c (.o (.b (entQ s).2))]) []) (hD : ∀ (r : List UInt8) (l : List DE) (m : Nat), m = l.length → l.length ≤ 1000 → r.length ≤ 80000 → (∀ s ∈ l, deSm 90000 s) → Fn Tryz.prog 7 [.a [.s r, .sl (flat deR l) m]] [] (.tup [.c (.o (.s (dumpS r l).1)), .c (.o (.i .i64 (dumpS r l).2))]) []) (s : List UInt8) (hs : s.length ≤ 80000) : ∃ (r : List UInt8) (l : List DE) (e : Int), l.length ≤ 60 ∧ Fn Tryz.prog 9 [.o (.s s)] [] (.tup [.c (.a [.s r, .sl (flat deR l) l.length]), .c (.o (.i .i64 e))]) [] ∧ Fn Tryz.prog 12 [.o (.s s)] [] (.tup [.c (.a [.s r, .sl (flat deR l) l.length]), .c (.o (.i .i64 e))]) [] := by
  have c := c_LoadP hE (fun r l m hm hl => hD r l m hm (by omega)) s hs
  rw [loadQ_I] at c
  exact ⟨_, _, _, loadI_len s, c, c_rLoad s hs⟩
/-- what both sides dump, and that it is loaded as it was -/
theorem dump_pack (hE : ∀ s : List UInt8, s.length ≤ 80000 → Fn Tryz.prog 27 [.o (.s s)] [] (.tup [.c (.a (deR (entQ s).1)), .c (.o (.b (entQ s).2))]) []) (hD : ∀ (r : List UInt8) (l : List DE) (m : Nat), m = l.length → l.length ≤ 1000 → r.length ≤ 80000 → (∀ s ∈ l, deSm 90000 s) → Fn Tryz.prog 7 [.a [.s r, .sl (flat deR l) m]] [] (.tup [.c (.o (.s (dumpS r l).1)), .c (.o (.i .i64 (dumpS r l).2))]) []) (r : List UInt8) (l : List DE) {m : Nat} (hm : m = l.length) (hl : l.length ≤ 1000) (hr : r.length ≤ 80000) (hs : ∀ s ∈ l, deSm 90000 s) : ∃ (T : List UInt8) (e : Int), T.length ≤ 50000 ∧ Fn Tryz.prog 7 [.a [.s r, .sl (flat deR l) m]] [] (.tup [.c (.o (.s T)), .c (.o (.i .i64 e))]) [] ∧ Fn Tryz.prog 8 [.a [.s r, .sl (flat deR l) m]] [] (.tup [.c (.o (.s T)), .c (.o (.i .i64 e))]) [] ∧ ((e = 0 ∧ Fn Tryz.prog 9 [.o (.s T)] [] (.tup [.c (.a [.s r, .sl (flat deR l) l.length]), .c (.o (.i .i64 0))]) []) ∨ (¬ e = 0 ∧ ∃ (r' : List UInt8) (l' : List DE) (f : Int), Fn Tryz.prog 9 [.o (.s T)] [] (.tup [.c (.a [.s r', .sl (flat deR l') l'.length]), .c (.o (.i .i64 f))]) [])) := by
  have a := hD r l m hm hl hr hs
  have b := c_rDump r l hm (by omega) (by omega) hs
  by_cases hc : dbC r l = 0
  · rw [dumpS_ok hc] at a b
    have hl := dump_len hc
    have c := c_LoadP hE (fun r l m hm hl => hD r l m hm (by omega)) (dumpB r l) (by omega)
    rw [loadQ_I, loadI_dump hc] at c
    exact ⟨_, _, hl, a, b, .inl ⟨rfl, c⟩⟩
  · rw [dumpS_no hc] at a b
    have c := c_LoadP hE (fun r l m hm hl => hD r l m hm (by omega)) [] (by simp)
    exact ⟨_, _, by simp, a, b, .inr ⟨hc, _, _, _, c⟩⟩
end Go.Sx

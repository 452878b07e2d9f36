/-
  The contract of database.readEntry, at any line.
-/
import Derived.Test.YtdpbmmmdmecfdaaGreatDoorCDumpK
import Derived.Outline
import Derived.LoopTactic
import Derived.Deep.DeepCutAuto
set_option linter.all false
namespace Go.Sx
open Go.Proofs Go.RowKit
theorem entQ_len {s : List UInt8} (h : (spl 9 s).length ≠ 9) : entQ s = (de0, false) := by rw [entQ, entP, if_neg h]
/-- the numbers of a line, from the left -/
def rest9 (L : List (List UInt8)) (j : Nat) (vs : List Int) : Prop := vs.length = j ∧ ∀ i (h : i < vs.length), intE (Go.Lib.atoiAll (L.getD (3 + i) [])) = some vs[i]
theorem entQ_key {s : List UInt8} (h : natE (Go.Lib.parseUintB 64 ((spl 9 s).getD 2 [])) = none) : entQ s = (de0, false) := by
  by_cases h9 : (spl 9 s).length = 9
  · rw [entQ, entP, if_pos h9, h]
  · exact entQ_len h9
theorem entQ_num {s : List UInt8} {j : Nat} (hj : j < 6) (h : intE (Go.Lib.atoiAll ((spl 9 s).getD (3 + j) [])) = none) : entQ s = (de0, false) := by
  by_cases h9 : (spl 9 s).length = 9
  · rw [entQ, entP, if_pos h9]
    generalize natE (Go.Lib.parseUintB 64 ((spl 9 s).getD 2 [])) = o
    generalize h0 : intE (Go.Lib.atoiAll ((spl 9 s).getD 3 [])) = o0
    generalize h1 : intE (Go.Lib.atoiAll ((spl 9 s).getD 4 [])) = o1
    generalize h2 : intE (Go.Lib.atoiAll ((spl 9 s).getD 5 [])) = o2
    generalize h3 : intE (Go.Lib.atoiAll ((spl 9 s).getD 6 [])) = o3
    generalize h4 : intE (Go.Lib.atoiAll ((spl 9 s).getD 7 [])) = o4
    generalize h5 : intE (Go.Lib.atoiAll ((spl 9 s).getD 8 [])) = o5
    have hn : o0 = none ∨ o1 = none ∨ o2 = none ∨ o3 = none ∨ o4 = none ∨ o5 = none := by
      match j, hj with
      | 0, _ => exact .inl (h0.symm.trans h)
      | 1, _ => exact .inr (.inl (h1.symm.trans h))
      | 2, _ => exact .inr (.inr (.inl (h2.symm.trans h)))
      | 3, _ => exact .inr (.inr (.inr (.inl (h3.symm.trans h))))
      | 4, _ => exact .inr (.inr (.inr (.inr (.inl (h4.symm.trans h)))))
      | 5, _ => exact .inr (.inr (.inr (.inr (.inr (h5.symm.trans h)))))
    clear h h0 h1 h2 h3 h4 h5
    rcases o with _ | a <;> rcases o0 with _ | a0 <;> rcases o1 with _ | a1 <;> rcases o2 with _ | a2 <;> rcases o3 with _ | a3 <;> rcases o4 with _ | a4 <;> rcases o5 with _ | a5 <;> first | rfl | (exfalso; simp at hn; done)
  · exact entQ_len h9
theorem entQ_all {s : List UInt8} (h9 : (spl 9 s).length = 9) {u : Int} (hu : natE (Go.Lib.parseUintB 64 ((spl 9 s).getD 2 [])) = some u) {vs : List Int} (h : rest9 (spl 9 s) 6 vs) :
    entQ s = (⟨(spl 9 s).getD 0 [], (spl 9 s).getD 1 [], u, vs.getD 0 0, vs.getD 1 0, vs.getD 2 0, vs.getD 3 0, vs.getD 4 0, vs.getD 5 0⟩, true) := by
  obtain ⟨hl, h⟩ := h
  match vs, hl with
  | [a, b, c, d, e, f], _ =>
    have q0 := h 0 (by simp)
    have q1 := h 1 (by simp)
    have q2 := h 2 (by simp)
    have q3 := h 3 (by simp)
    have q4 := h 4 (by simp)
    have q5 := h 5 (by simp)
    simp only [List.getElem_cons_zero, List.getElem_cons_succ, Nat.reduceAdd] at q0 q1 q2 q3 q4 q5
    rw [entQ, entP, if_pos h9, hu, q0, q1, q2, q3, q4, q5]
    rfl
def zeroE : Array Value := #[.string ⟨#[]⟩, .string ⟨#[]⟩, .int .u64 0, .int .i64 0, .int .i64 0, .int .i64 0, .int .i64 0, .int .i64 0, .int .i64 0]
/-- what stands in memory while a line is read -/
structure EInv (w w' : World) (L : List (List UInt8)) (X : Nat) (c : Array Value) : Prop where
  b : Below w.heap.size w w'
  r : w'.heap[w.heap.size]? = some (.cells zeroE 45 (0, 0))
  p : w'.heap[w.heap.size + 1]? = some (.cells (L.map fun p => Value.string ⟨⟨p⟩⟩).toArray 9 (0, 0))
  x : w'.heap[X]? = some (.cells c 45 (0, 0))
  n : w.heap.size + 1 < X
theorem lt_of_block {w : World} {b : Nat} {o : Obj} (h : w.heap[b]? = some o) : b < w.heap.size := by
  rcases Nat.lt_or_ge b w.heap.size with h' | h'
  · exact h'
  · simp [Array.getElem?_eq_none h'] at h
theorem EInv.kept {w w1 w' : World} {L : List (List UInt8)} {X : Nat} {c : Array Value} (h : EInv w w1 L X c) (hb : Below w1.heap.size w1 w') : EInv w w' L X c :=
  ⟨h.b.trans (hb.mono h.b.size), (hb.block _ (lt_of_block h.r)).trans h.r, (hb.block _ (lt_of_block h.p)).trans h.p, (hb.block _ (lt_of_block h.x)).trans h.x, h.n⟩
theorem EInv.set {w w1 : World} {L : List (List UInt8)} {X : Nat} {c : Array Value} (h : EInv w w1 L X c) (i : Nat) (v : Value) : EInv w (w1.setCell ⟨X, i, none⟩ v) L X (c.setIfInBounds i v) :=
  ⟨h.b.setCell (p := ⟨X, i, none⟩) (by have := h.n; show w.heap.size ≤ X; omega) _, (heap_setCell_other _ _ _ _ (by have := h.n; show w.heap.size ≠ X; omega)).trans h.r, (heap_setCell_other _ _ _ _ (by have := h.n; show w.heap.size + 1 ≠ X; omega)).trans h.p, heap_setCell_same _ _ _ _ _ _ h.x, h.n⟩
theorem EInv.part {w w' : World} {L : List (List UInt8)} {X : Nat} {c : Array Value} (h : EInv w w' L X c) (h9 : L.length = 9) (i : Nat) (hi : i < 9) : w'.cell? ⟨w.heap.size + 1, i, none⟩ = some (.string ⟨⟨L.getD i []⟩⟩) := by
  rw [Lib.cell_of_heap h.p, List.getD_eq_getElem?_getD]
  simp [List.getElem?_eq_getElem (show i < L.length by omega)]
theorem EInv.gw {w w' : World} {L : List (List UInt8)} {X : Nat} {c : Array Value} (h : EInv w w' L X c) (hg : GW Tryz.prog w) : GW Tryz.prog w' := hg.below (Nat.le_refl _) h.b
def xsE (x0 x1 : List UInt8) (v : Int) (vs : List Int) : Array Value := ([.string ⟨⟨x0⟩⟩, .string ⟨⟨x1⟩⟩, .int .u64 v] ++ (vs ++ List.replicate (6 - vs.length) 0).map (Value.int .i64)).toArray
def ptrE (X : Nat) : Array Value := #[.pointer (some ⟨X, 3, none⟩), .pointer (some ⟨X, 4, none⟩), .pointer (some ⟨X, 5, none⟩), .pointer (some ⟨X, 6, none⟩), .pointer (some ⟨X, 7, none⟩), .pointer (some ⟨X, 8, none⟩)]
theorem ptrE_at (X : Nat) {j : Nat} (h : j < 6) : (ptrE X)[j]? = some (.pointer (some ⟨X, 3 + j, none⟩)) := by
  match j, h with
  | 0, _ => rfl
  | 1, _ => rfl
  | 2, _ => rfl
  | 3, _ => rfl
  | 4, _ => rfl
  | 5, _ => rfl
theorem xsE_at (x0 x1 : List UInt8) (v : Int) {vs : List Int} {j : Nat} (h : vs.length < 6) (hj : vs.length = j) : (xsE x0 x1 v vs)[3 + j]? = some (.int .i64 0) := by
  subst hj
  rw [xsE, List.getElem?_toArray, List.getElem?_append_right (by simp), List.getElem?_map, List.getElem?_append_right (by simp)]
  simp [List.getElem?_replicate]
  omega
theorem xsE_set (x0 x1 : List UInt8) (v q : Int) {vs : List Int} {j : Nat} (h : vs.length < 6) (hj : vs.length = j) : (xsE x0 x1 v vs).setIfInBounds (3 + j) (.int .i64 q) = xsE x0 x1 v (vs ++ [q]) := by
  subst hj
  have e : 6 - vs.length = (6 - (vs ++ [q]).length) + 1 := by simp; omega
  rw [xsE, xsE, e, List.setIfInBounds_toArray, List.set_append_right _ _ (by simp), List.replicate_succ, List.map_append, List.set_append_right _ _ (by simp)]
  simp
theorem rest9_snoc {L : List (List UInt8)} {j : Nat} {vs : List Int} (h : rest9 L j vs) {q : Int} (hq : intE (Go.Lib.atoiAll (L.getD (3 + j) [])) = some q) : rest9 L (j + 1) (vs ++ [q]) := by
  obtain ⟨h1, h2⟩ := h
  subst h1
  refine ⟨by simp, fun i hi => ?_⟩
  by_cases h : i < vs.length
  · rw [List.getElem_append_left h]; exact h2 i h
  · have : i = vs.length := by simp at hi; omega
    subst this
    rw [List.getElem_append_right (Nat.le_refl _)]
    simpa using hq
theorem below_set0 {w w3 : World} {i : Nat} {v : Value} (h : Below w.heap.size w w3) : Below w.heap.size w (w3.setCell ⟨w.heap.size, i, none⟩ v) := h.setCell (p := ⟨w.heap.size, i, none⟩) (Nat.le_refl _) v
set_option maxHeartbeats 4000000 in
set_option maxRecDepth 100000 in
theorem readEntry_walk (s : List UInt8) (hs : s.length ≤ 80000) (w : World) (hg : GW Tryz.prog w) : Calls Tryz.prog 27 #[.string ⟨⟨s⟩⟩] w fun e w' =>
    e = .returned (.tuple #[.agg ⟨(deR (entQ s).1).map plainV⟩, .bool (entQ s).2]) ∧ Below w.heap.size w w' := by
  by_cases h9 : (spl 9 s).length = 9
  · have hpart : ∀ i, ((spl 9 s).getD i []).length ≤ 80000 := fun i => by
      by_cases hi : i < (spl 9 s).length
      · have := spl_part (getD_mem (d := []) hi); omega
      · rw [List.getD_eq_getElem?_getD, List.getElem?_eq_none (by omega)]; simp
    have hB := entQ_key (s := s)
    have hN := fun j (hj : j < 6) => entQ_num (s := s) hj
    have hA := fun u hu vs => entQ_all (s := s) h9 (u := u) hu (vs := vs)
    have hst := fun w => Tryz.splitTab s hs w
    rw [h9] at hst
    generalize hL : spl 9 s = L at *
    generalize entQ s = E at *
    clear hL hs
    go_enter Tryz.func27, Tryz.ntmps27
    go_wp2_with (go_at_call 45; refine (hst _).mono ?_; rintro e w1 ⟨rfl, rfl⟩)
    have hR0 : ((w.alloc (.cells #[.string ⟨#[]⟩, .string ⟨#[]⟩, .int .u64 0, .int .i64 0, .int .i64 0, .int .i64 0, .int .i64 0, .int .i64 0, .int .i64 0] 45)).alloc (.cells (L.map fun p => Value.string ⟨⟨p⟩⟩).toArray 9)).heap[w.heap.size]? = some (.cells #[.string ⟨#[]⟩, .string ⟨#[]⟩, .int .u64 0, .int .i64 0, .int .i64 0, .int .i64 0, .int .i64 0, .int .i64 0, .int .i64 0] 45 (0, 0)) := by
      rw [Lib.alloc_old _ _ _ (Nat.lt_of_lt_of_eq (Nat.lt_succ_self _) (Array.size_push ..).symm)]; exact heap_alloc_new w _
    have hP0 : ((w.alloc (.cells #[.string ⟨#[]⟩, .string ⟨#[]⟩, .int .u64 0, .int .i64 0, .int .i64 0, .int .i64 0, .int .i64 0, .int .i64 0, .int .i64 0] 45)).alloc (.cells (L.map fun p => Value.string ⟨⟨p⟩⟩).toArray 9)).heap[w.heap.size + 1]? = some (.cells (L.map fun p => Value.string ⟨⟨p⟩⟩).toArray 9 (0, 0)) := by
      have := heap_alloc_new (w.alloc (.cells #[.string ⟨#[]⟩, .string ⟨#[]⟩, .int .u64 0, .int .i64 0, .int .i64 0, .int .i64 0, .int .i64 0, .int .i64 0, .int .i64 0] 45)) (.cells (L.map fun p => Value.string ⟨⟨p⟩⟩).toArray 9)
      rwa [show (w.alloc (.cells #[.string ⟨#[]⟩, .string ⟨#[]⟩, .int .u64 0, .int .i64 0, .int .i64 0, .int .i64 0, .int .i64 0, .int .i64 0, .int .i64 0] 45)).heap.size = w.heap.size + 1 from Array.size_push ..] at this
    have b0 := ((Below.refl w.heap.size w).alloc (Nat.le_refl _) (.cells #[.string ⟨#[]⟩, .string ⟨#[]⟩, .int .u64 0, .int .i64 0, .int .i64 0, .int .i64 0, .int .i64 0, .int .i64 0, .int .i64 0] 45)).alloc (dump_sz _ _) (.cells (L.map fun p => Value.string ⟨⟨p⟩⟩).toArray 9)
    generalize (w.alloc _).alloc _ = w1 at *
    have hsP : w.heap.size + 1 < w1.heap.size := by
      rcases Nat.lt_or_ge (w.heap.size + 1) w1.heap.size with h' | h'
      · exact h'
      · simp [Array.getElem?_eq_none h'] at hP0
    have hcp : ∀ W : World, W.heap[w.heap.size + 1]? = some (.cells (L.map fun p => Value.string ⟨⟨p⟩⟩).toArray 9 (0, 0)) → ∀ i, i < 9 → W.cell? ⟨w.heap.size + 1, i, none⟩ = some (.string ⟨⟨L.getD i []⟩⟩) := fun W h i hi => by
      rw [Lib.cell_of_heap h, List.getD_eq_getElem?_getD]
      simp [List.getElem?_eq_getElem (show i < L.length by omega)]
    have p0 := hcp _ hP0 0 (by omega)
    have p1 := hcp _ hP0 1 (by omega)
    obtain ⟨x0, hx0⟩ : ∃ x, L.getD 0 [] = x := ⟨_, rfl⟩
    obtain ⟨x1, hx1⟩ : ∃ x, L.getD 1 [] = x := ⟨_, rfl⟩
    obtain ⟨x2, hx2⟩ : ∃ x, L.getD 2 [] = x := ⟨_, rfl⟩
    have l2 := hpart 2
    rw [hx2] at l2 hB
    rw [hx2, hx0, hx1] at hA
    rw [hx0] at p0
    rw [hx1] at p1
    have hcp2 := fun (W : World) c X (h : EInv w W L X c) => h.part h9 2 (by omega)
    rw [hx2] at hcp2
    clear hcp hx0 hx1 hx2
    go_region
    have hI : EInv w (w1.alloc (.cells #[.string ⟨⟨x0⟩⟩, .string ⟨⟨x1⟩⟩, .int .u64 0, .int .i64 0, .int .i64 0, .int .i64 0, .int .i64 0, .int .i64 0, .int .i64 0] 45)).drew L w1.heap.size #[.string ⟨⟨x0⟩⟩, .string ⟨⟨x1⟩⟩, .int .u64 0, .int .i64 0, .int .i64 0, .int .i64 0, .int .i64 0, .int .i64 0, .int .i64 0] :=
      ⟨(b0.alloc b0.size _).drew, (Lib.alloc_old _ _ _ (by omega)).trans hR0, (Lib.alloc_old _ _ _ hsP).trans hP0, heap_alloc_new w1 _, hsP⟩
    clear p0 p1 hR0 hP0 b0
    generalize (w1.alloc _).drew = w2 at *
    generalize w1.heap.size = X at *
    have p2 := hcp2 _ _ _ hI
    go_wp2_with fail
    go_at_call 46
    refine (Tryz.parseU _ l2 _ (hI.gw hg)).mono ?_
    rintro e w3 ⟨v, er, rfl, hb3, hor⟩
    replace hI := hI.kept hb3
    clear hb3 p2
    rcases hor with ⟨u, hu, rfl, rfl⟩ | ⟨hu, a, rfl⟩
    · have hAv := hA v hu
      clear hA hB l2 hcp2
      have x2' : w3.cell? ⟨X, 2, none⟩ = some (.int .u64 0) := Lib.cell_of_heap hI.x 2
      have fx : w3.frozen? ⟨X, 2, none⟩ = false := Lib.frozen_of_heap hI.x 2
      go_wp2
      have hIs := hI.set 2 (.int .u64 v)
      have hQ0 : ((w3.setCell ⟨X, 2, none⟩ (.int .u64 v)).alloc (.cells #[.pointer (some ⟨X, 3, none⟩), .pointer (some ⟨X, 4, none⟩), .pointer (some ⟨X, 5, none⟩), .pointer (some ⟨X, 6, none⟩), .pointer (some ⟨X, 7, none⟩), .pointer (some ⟨X, 8, none⟩)] 85)).heap[(w3.setCell ⟨X, 2, none⟩ (.int .u64 v)).heap.size]? = some (.cells #[.pointer (some ⟨X, 3, none⟩), .pointer (some ⟨X, 4, none⟩), .pointer (some ⟨X, 5, none⟩), .pointer (some ⟨X, 6, none⟩), .pointer (some ⟨X, 7, none⟩), .pointer (some ⟨X, 8, none⟩)] 85 (0, 0)) := heap_alloc_new _ _
      have hIa := hIs.kept ((Below.refl _ _).alloc (Nat.le_refl _) (.cells #[.pointer (some ⟨X, 3, none⟩), .pointer (some ⟨X, 4, none⟩), .pointer (some ⟨X, 5, none⟩), .pointer (some ⟨X, 6, none⟩), .pointer (some ⟨X, 7, none⟩), .pointer (some ⟨X, 8, none⟩)] 85))
      have hQX : w3.heap.size ≠ X := fun e => by have := lt_of_block hI.x; omega
      rw [World.size_setCell] at hQ0
      clear x2' fx hI hIs
      generalize (w3.setCell _ _).alloc _ = w4 at *
      generalize w3.heap.size = Q at *
      replace hIa : EInv w w4 L X (xsE x0 x1 v []) := hIa
      replace hQ0 : w4.heap[Q]? = some (.cells (ptrE X) 85 (0, 0)) := hQ0
      go_loopw [43] (fun i wr => ∃ (j : Nat) (vs : List Int), j ≤ 6 ∧ i = .int .i64 j ∧ rest9 L j vs ∧ EInv w wr L X (xsE x0 x1 v vs) ∧ wr.heap[Q]? = some (.cells (ptrE X) 85 (0, 0))) (fun i _ => 6 - (intOf i).toNat)
      case atStart => exact ⟨0, [], by omega, rfl, ⟨rfl, fun i h => by simp at h⟩, hIa, hQ0⟩
      case round =>
        obtain ⟨j, vs, hj, rfl, hvs, hI, hQ⟩ := hrel
        by_cases hj6 : j < 6
        · have cQ : wr.cell? ⟨Q, j, none⟩ = some (.pointer (some ⟨X, 3 + j, none⟩)) := by rw [Lib.cell_of_heap hQ]; exact ptrE_at X hj6
          have cP := hI.part h9 (3 + j) (by omega)
          have lp := hpart (3 + j)
          have hNj := hN j hj6
          have hat := fun (q : Int) (hq : intE (Go.Lib.atoiAll (L.getD (3 + j) [])) = some q) => rest9_snoc hvs hq
          generalize L.getD (3 + j) [] = pt at *
          have hlv := hvs.1
          go_wp2_with fail
          go_at_call 47
          refine (Tryz.atoiA _ lp _ (hI.gw hg)).mono ?_
          rintro e w6 ⟨q, er, rfl, hb6, hor⟩
          have hI6 := hI.kept hb6
          have cX : w6.cell? ⟨X, 3 + j, none⟩ = some (.int .i64 0) := by rw [Lib.cell_of_heap hI6.x]; exact xsE_at x0 x1 v (by rw [hlv]; exact hj6) hlv
          have fX : w6.frozen? ⟨X, 3 + j, none⟩ = false := Lib.frozen_of_heap hI6.x _
          rcases hor with ⟨hq, rfl⟩ | ⟨hq, a, rfl⟩
          · go_wp2
            refine ⟨⟨j + 1, vs ++ [q], by omega, by simp, hat q hq, ?_, ?_⟩, by simp [intOf]; omega⟩
            · rw [← xsE_set x0 x1 v q (by rw [hlv]; exact hj6) hlv]; exact hI6.set _ _
            · exact (heap_setCell_other _ _ _ _ (by exact hQX)).trans ((hb6.block Q (lt_of_block hQ)).trans hQ)
          · have hE := hNj hq
            subst hE
            go_upto_region 13 with fail
            have hI7 := hI6.set (3 + j) (.int .i64 q)
            generalize w6.setCell _ _ = w7 at *
            have z0 : w7.cell? ⟨w.heap.size, 0, none⟩ = some (.string ⟨#[]⟩) := Lib.cell_of_heap hI7.r 0
            have f0 : w7.frozen? ⟨w.heap.size, 0, none⟩ = false := Lib.frozen_of_heap hI7.r 0
            have z1 : w7.cell? ⟨w.heap.size, 1, none⟩ = some (.string ⟨#[]⟩) := Lib.cell_of_heap hI7.r 1
            have f1 : w7.frozen? ⟨w.heap.size, 1, none⟩ = false := Lib.frozen_of_heap hI7.r 1
            have z2 : w7.cell? ⟨w.heap.size, 2, none⟩ = some (.int .u64 0) := Lib.cell_of_heap hI7.r 2
            have f2 : w7.frozen? ⟨w.heap.size, 2, none⟩ = false := Lib.frozen_of_heap hI7.r 2
            have z3 : w7.cell? ⟨w.heap.size, 3, none⟩ = some (.int .i64 0) := Lib.cell_of_heap hI7.r 3
            have f3 : w7.frozen? ⟨w.heap.size, 3, none⟩ = false := Lib.frozen_of_heap hI7.r 3
            have z4 : w7.cell? ⟨w.heap.size, 4, none⟩ = some (.int .i64 0) := Lib.cell_of_heap hI7.r 4
            have f4 : w7.frozen? ⟨w.heap.size, 4, none⟩ = false := Lib.frozen_of_heap hI7.r 4
            have z5 : w7.cell? ⟨w.heap.size, 5, none⟩ = some (.int .i64 0) := Lib.cell_of_heap hI7.r 5
            have f5 : w7.frozen? ⟨w.heap.size, 5, none⟩ = false := Lib.frozen_of_heap hI7.r 5
            have z6 : w7.cell? ⟨w.heap.size, 6, none⟩ = some (.int .i64 0) := Lib.cell_of_heap hI7.r 6
            have f6 : w7.frozen? ⟨w.heap.size, 6, none⟩ = false := Lib.frozen_of_heap hI7.r 6
            have z7 : w7.cell? ⟨w.heap.size, 7, none⟩ = some (.int .i64 0) := Lib.cell_of_heap hI7.r 7
            have f7 : w7.frozen? ⟨w.heap.size, 7, none⟩ = false := Lib.frozen_of_heap hI7.r 7
            have z8 : w7.cell? ⟨w.heap.size, 8, none⟩ = some (.int .i64 0) := Lib.cell_of_heap hI7.r 8
            have f8 : w7.frozen? ⟨w.heap.size, 8, none⟩ = false := Lib.frozen_of_heap hI7.r 8
            have hb := hI7.b
            clear hI hI6 hI7
            go_wp2
            refine bodyPost_ret (v := .tuple #[.agg ⟨(deR de0).map plainV⟩, .bool false]) (by simp [results, Tryz.results27, go_sem, *]; rfl) rfl ⟨rfl, ?_⟩
            exact (below_set0 (below_set0 (below_set0 (below_set0 (below_set0 (below_set0 (below_set0 (below_set0 (below_set0 hb)))))))))
        · have hj6' : j = 6 := by omega
          subst hj6'
          obtain ⟨hl6, hvs⟩ := hvs
          match vs, hl6 with
          | [a, b, c, d, e, f], hl6 =>
            have hE := hAv [a, b, c, d, e, f] ⟨hl6, hvs⟩
            simp only [List.getD_cons_zero, List.getD_cons_succ] at hE
            subst hE
            have y0 : wr.cell? ⟨X, 0, none⟩ = some (.string ⟨⟨x0⟩⟩) := Lib.cell_of_heap hI.x 0
            have y1 : wr.cell? ⟨X, 1, none⟩ = some (.string ⟨⟨x1⟩⟩) := Lib.cell_of_heap hI.x 1
            have y2 : wr.cell? ⟨X, 2, none⟩ = some (.int .u64 v) := Lib.cell_of_heap hI.x 2
            have y3 : wr.cell? ⟨X, 3, none⟩ = some (.int .i64 a) := Lib.cell_of_heap hI.x 3
            have y4 : wr.cell? ⟨X, 4, none⟩ = some (.int .i64 b) := Lib.cell_of_heap hI.x 4
            have y5 : wr.cell? ⟨X, 5, none⟩ = some (.int .i64 c) := Lib.cell_of_heap hI.x 5
            have y6 : wr.cell? ⟨X, 6, none⟩ = some (.int .i64 d) := Lib.cell_of_heap hI.x 6
            have y7 : wr.cell? ⟨X, 7, none⟩ = some (.int .i64 e) := Lib.cell_of_heap hI.x 7
            have y8 : wr.cell? ⟨X, 8, none⟩ = some (.int .i64 f) := Lib.cell_of_heap hI.x 8
            have z0 : wr.cell? ⟨w.heap.size, 0, none⟩ = some (.string ⟨#[]⟩) := Lib.cell_of_heap hI.r 0
            have f0 : wr.frozen? ⟨w.heap.size, 0, none⟩ = false := Lib.frozen_of_heap hI.r 0
            have z1 : wr.cell? ⟨w.heap.size, 1, none⟩ = some (.string ⟨#[]⟩) := Lib.cell_of_heap hI.r 1
            have f1 : wr.frozen? ⟨w.heap.size, 1, none⟩ = false := Lib.frozen_of_heap hI.r 1
            have z2 : wr.cell? ⟨w.heap.size, 2, none⟩ = some (.int .u64 0) := Lib.cell_of_heap hI.r 2
            have f2 : wr.frozen? ⟨w.heap.size, 2, none⟩ = false := Lib.frozen_of_heap hI.r 2
            have z3 : wr.cell? ⟨w.heap.size, 3, none⟩ = some (.int .i64 0) := Lib.cell_of_heap hI.r 3
            have f3 : wr.frozen? ⟨w.heap.size, 3, none⟩ = false := Lib.frozen_of_heap hI.r 3
            have z4 : wr.cell? ⟨w.heap.size, 4, none⟩ = some (.int .i64 0) := Lib.cell_of_heap hI.r 4
            have f4 : wr.frozen? ⟨w.heap.size, 4, none⟩ = false := Lib.frozen_of_heap hI.r 4
            have z5 : wr.cell? ⟨w.heap.size, 5, none⟩ = some (.int .i64 0) := Lib.cell_of_heap hI.r 5
            have f5 : wr.frozen? ⟨w.heap.size, 5, none⟩ = false := Lib.frozen_of_heap hI.r 5
            have z6 : wr.cell? ⟨w.heap.size, 6, none⟩ = some (.int .i64 0) := Lib.cell_of_heap hI.r 6
            have f6 : wr.frozen? ⟨w.heap.size, 6, none⟩ = false := Lib.frozen_of_heap hI.r 6
            have z7 : wr.cell? ⟨w.heap.size, 7, none⟩ = some (.int .i64 0) := Lib.cell_of_heap hI.r 7
            have f7 : wr.frozen? ⟨w.heap.size, 7, none⟩ = false := Lib.frozen_of_heap hI.r 7
            have z8 : wr.cell? ⟨w.heap.size, 8, none⟩ = some (.int .i64 0) := Lib.cell_of_heap hI.r 8
            have f8 : wr.frozen? ⟨w.heap.size, 8, none⟩ = false := Lib.frozen_of_heap hI.r 8
            have hb := hI.b
            clear hI hIa hQ hQ0
            go_wp2
            refine bodyPost_ret (v := .tuple #[.agg ⟨(deR ⟨x0, x1, v, a, b, c, d, e, f⟩).map plainV⟩, .bool true]) (by simp [results, Tryz.results27, go_sem, *]; rfl) rfl ⟨rfl, ?_⟩
            exact (below_set0 (below_set0 (below_set0 (below_set0 (below_set0 (below_set0 (below_set0 (below_set0 (below_set0 hb)))))))))
    · have hE := hB hu
      subst hE
      have z0 : w3.cell? ⟨w.heap.size, 0, none⟩ = some (.string ⟨#[]⟩) := Lib.cell_of_heap hI.r 0
      have f0 : w3.frozen? ⟨w.heap.size, 0, none⟩ = false := Lib.frozen_of_heap hI.r 0
      have z1 : w3.cell? ⟨w.heap.size, 1, none⟩ = some (.string ⟨#[]⟩) := Lib.cell_of_heap hI.r 1
      have f1 : w3.frozen? ⟨w.heap.size, 1, none⟩ = false := Lib.frozen_of_heap hI.r 1
      have z2 : w3.cell? ⟨w.heap.size, 2, none⟩ = some (.int .u64 0) := Lib.cell_of_heap hI.r 2
      have f2 : w3.frozen? ⟨w.heap.size, 2, none⟩ = false := Lib.frozen_of_heap hI.r 2
      have z3 : w3.cell? ⟨w.heap.size, 3, none⟩ = some (.int .i64 0) := Lib.cell_of_heap hI.r 3
      have f3 : w3.frozen? ⟨w.heap.size, 3, none⟩ = false := Lib.frozen_of_heap hI.r 3
      have z4 : w3.cell? ⟨w.heap.size, 4, none⟩ = some (.int .i64 0) := Lib.cell_of_heap hI.r 4
      have f4 : w3.frozen? ⟨w.heap.size, 4, none⟩ = false := Lib.frozen_of_heap hI.r 4
      have z5 : w3.cell? ⟨w.heap.size, 5, none⟩ = some (.int .i64 0) := Lib.cell_of_heap hI.r 5
      have f5 : w3.frozen? ⟨w.heap.size, 5, none⟩ = false := Lib.frozen_of_heap hI.r 5
      have z6 : w3.cell? ⟨w.heap.size, 6, none⟩ = some (.int .i64 0) := Lib.cell_of_heap hI.r 6
      have f6 : w3.frozen? ⟨w.heap.size, 6, none⟩ = false := Lib.frozen_of_heap hI.r 6
      have z7 : w3.cell? ⟨w.heap.size, 7, none⟩ = some (.int .i64 0) := Lib.cell_of_heap hI.r 7
      have f7 : w3.frozen? ⟨w.heap.size, 7, none⟩ = false := Lib.frozen_of_heap hI.r 7
      have z8 : w3.cell? ⟨w.heap.size, 8, none⟩ = some (.int .i64 0) := Lib.cell_of_heap hI.r 8
      have f8 : w3.frozen? ⟨w.heap.size, 8, none⟩ = false := Lib.frozen_of_heap hI.r 8
      have hb := hI.b
      clear hI
      go_wp2
      refine bodyPost_ret (v := .tuple #[.agg ⟨(deR de0).map plainV⟩, .bool false]) (by simp [results, Tryz.results27, go_sem, *]; rfl) rfl ⟨rfl, ?_⟩
      exact (below_set0 (below_set0 (below_set0 (below_set0 (below_set0 (below_set0 (below_set0 (below_set0 (below_set0 hb)))))))))
  · have hE := entQ_len h9
    rw [hE]
    go_enter Tryz.func27, Tryz.ntmps27
    go_wp2_with (go_at_call 45; refine (Tryz.splitTab s hs _).mono ?_; rintro e w1 ⟨rfl, rfl⟩)
    refine bodyPost_ret (v := .tuple #[.agg ⟨(deR de0).map plainV⟩, .bool false]) (by simp [results, Tryz.results27, go_sem]; rfl) rfl ⟨rfl, ((Below.refl _ w).alloc (Nat.le_refl _) _).alloc (dump_sz _ _) _⟩
set_option maxRecDepth 100000 in
theorem c_readEntry (s : List UInt8) (hs : s.length ≤ 80000) : Fn Tryz.prog 27 [.o (.s s)] [] (.tup [.c (.a (deR (entQ s).1)), .c (.o (.b (entQ s).2))]) [] := by
  refine fn_plain (ls := [.s s]) Tryz.func27 rfl rfl rfl fun w hg => ?_
  refine (readEntry_walk s hs w hg).mono ?_
  rintro e w' ⟨rfl, hb⟩
  refine ⟨⟨[.agg ⟨(deR (entQ s).1).map plainV⟩, .bool (entQ s).2], _, rfl, rfl, rfl, fun j q u h1 h2 => ?_⟩, hb⟩
  match j, h1, h2 with
  | 0, h1, h2 =>
    simp [resList] at h1 h2; subst h1; subst h2
    refine ⟨_, rfl, fun B w => ⟨_, rfl, by simp, fun j l v h1 h2 => ?_⟩⟩
    rw [List.getElem?_map, h1] at h2
    simp only [Option.map_some, Option.some.injEq] at h2
    subst h2
    refine plainL_rel ?_
    have hm := List.mem_of_getElem? h1
    simp only [deR, List.mem_cons, List.not_mem_nil, or_false] at hm
    rcases hm with rfl | rfl | rfl | rfl | rfl | rfl | rfl | rfl | rfl <;> rfl
  | 1, h1, h2 => simp [resList] at h1 h2; subst h1; subst h2; exact ⟨_, rfl, fun B w => RelL.b⟩
end Go.Sx

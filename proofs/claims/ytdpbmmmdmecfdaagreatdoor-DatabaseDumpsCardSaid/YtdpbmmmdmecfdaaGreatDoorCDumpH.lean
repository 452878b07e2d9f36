/-
  The contract of database.Dump, at any database.
-/
import Derived.Test.YtdpbmmmdmecfdaaGreatDoorCDumpG
import Derived.Test.YtdpbmmmdmecfdaaGreatDoorCDbB
import Derived.Test.YtdpbmmmdmecfdaaGreatDoorPX2
import Derived.Test.YtdpbmmmdmecfdaaGreatDoorSxCalls
import Derived.LoopTactic
import Derived.Deep.RegionHeld3
set_option linter.all false
namespace Go.Sx
open Go.Proofs Go.RowKit
/-- the entries stand there -/
def DbAt (w : World) (sv : Option Addr) (l : List DE) : Prop := l = [] ∨ ∃ b o, sv = some ⟨b, o, none⟩ ∧ b < w.heap.size ∧ ∀ j, j < l.length * 9 → w.cell? ⟨b, o + j, none⟩ = some (plainV ((flat deR l).getD j .u))
theorem DbAt.kept {w w' : World} {sv : Option Addr} {l : List DE} (h : DbAt w sv l) {B : Nat} (hB : w.heap.size ≤ B) (hb : Below B w w') : DbAt w' sv l := by
  rcases h with h | ⟨b, o, h1, h2, h3⟩
  · exact .inl h
  · refine .inr ⟨b, o, h1, Nat.lt_of_lt_of_le h2 hb.size, fun j hj => ?_⟩
    rw [← h3 j hj]
    exact World.cell?_of_block (hb.block b (by omega))
theorem flat_plain (l : List DE) {j : Nat} (h : j < (flat deR l).length) : isPlain ((flat deR l)[j]) = true := by
  have hm := List.getElem_mem h
  have : ∀ x ∈ flat deR l, isPlain x = true := by
    intro x hx
    rw [flat, List.mem_flatten] at hx
    obtain ⟨q, hq, hx⟩ := hx
    rw [List.mem_map] at hq
    obtain ⟨e, _, rfl⟩ := hq
    simp only [deR, List.mem_cons, List.not_mem_nil, or_false] at hx
    rcases hx with rfl | rfl | rfl | rfl | rfl | rfl | rfl | rfl | rfl <;> rfl
  exact this _ hm
theorem plainL_rel {B : Nat → Prop} {w : World} {μ : Mu} {x : L} (h : isPlain x = true) : RelL B w μ x (plainV x) := by
  cases x <;> first | exact RelL.i | exact RelL.b | exact RelL.s | cases h
theorem plain_one {x : L} (h : isPlain x = true) : (plainV x).oneCell' = true := by
  cases x <;> first | rfl | (simp [plainV, Value.oneCell']; done) | cases h
theorem DbAt.rel {w : World} {sv : Option Addr} {l : List DE} (h : DbAt w sv l) {cap : Nat} (hc : l.length ≤ cap) (r : List UInt8) : RelCs (fun _ => False) w noMu [.a [.s r, .sl (flat deR l) l.length]] [.agg ⟨[.string ⟨⟨r⟩⟩, .slice sv l.length cap]⟩] := by
  have hsl : RelL (fun _ => False) w noMu (.sl (flat deR l) l.length) (.slice sv l.length cap) := by
    rcases h with h | ⟨b, o, rfl, h2, h3⟩
    · subst h; exact .sl0
    · have hfl := flat_len deR_len l
      refine .sl (vs := (flat deR l).map plainV) (fun _ h => h) (by simp) (fun j v hv => ?_) (fun j x v h1 h2 => ?_) hc
      · obtain ⟨hj, rfl⟩ := List.getElem?_eq_some_iff.1 hv
        rw [List.length_map] at hj
        rw [List.getElem_map]
        refine ⟨?_, plain_one (flat_plain l hj)⟩
        rw [h3 j (by omega), List.getD_eq_getElem?_getD, List.getElem?_eq_getElem hj]
        rfl
      · obtain ⟨hj, rfl⟩ := List.getElem?_eq_some_iff.1 h1
        rw [List.getElem?_map, h1] at h2
        simp only [Option.map_some, Option.some.injEq] at h2
        subst h2
        exact plainL_rel (flat_plain l hj)
  refine ⟨rfl, fun j c v h1 h2 => ?_⟩
  match j, h1, h2 with
  | 0, h1, h2 =>
    simp at h1 h2; subst h1; subst h2
    refine ⟨_, rfl, rfl, fun j x v h1 h2 => ?_⟩
    match j, h1, h2 with
    | 0, h1, h2 => simp at h1 h2; subst h1; subst h2; exact RelL.s
    | 1, h1, h2 => simp at h1 h2; subst h1; subst h2; exact hsl
  | j + 1, h1, _ => simp at h1
theorem calls_int {P : Program} [Gl P] {f : FuncId} {fn : Func} {c : Code} (hf : P.funcs[f]? = some fn) (hb : fn.body = some c) (hnm : (fn.name == "runtime.NumGoroutine") = false)
    {cs : List C} {n : Int} (h : Fn P f cs [] (.one (.c (.o (.i .i64 n)))) []) {w : World} {vs : List Value} (hg : GW P w) (hr : RelCs (fun _ => False) w noMu cs vs) :
    Calls P f ⟨vs⟩ w fun e w' => e = .returned (.int .i64 n) ∧ Below w.heap.size w w' := by
  refine (calls_plain hf hb hnm h hg hr).mono ?_
  rintro e w' ⟨v, us, μ', B', rfl, hv, hrel, _, hbel⟩
  have hus : us = [v] := hv
  subst hus
  have hrel : RelL B' w' noMu (.i .i64 n) v := hrel 0 _ v rfl rfl
  cases hrel
  exact ⟨rfl, hbel⟩
set_option maxRecDepth 100000 in
theorem db_check (r : List UInt8) (l : List DE) (hl : l.length ≤ 1000) (hr : r.length ≤ 80000) (hs : ∀ s ∈ l, deSm 90000 s) (sv : Option Addr) (cap : Nat) (hc : l.length ≤ cap) (w : World) (hg : GW Tryz.prog w) (ha : DbAt w sv l) :
    Calls Tryz.prog 19 #[.agg #[.string ⟨⟨r⟩⟩, .slice sv l.length cap]] w fun e w' => e = .returned (.int .i64 (dbC r l)) ∧ Below w.heap.size w w' :=
  calls_int Tryz.func19 rfl rfl (c_dbCheck r l rfl (by omega) (by omega) hs) hg (ha.rel hc r)
theorem str_cells (x : List UInt8) : Lib.strCells ⟨⟨x⟩⟩ = Lib.byteCells x := by simp [Lib.strCells, Lib.byteCells]
theorem byte_cells_app (x y : List UInt8) : Lib.byteCells x ++ Lib.byteCells y = Lib.byteCells (x ++ y) := by simp [Lib.byteCells]
theorem str_cells_app (x y : ByteArray) : Lib.strCells (x ++ y) = Lib.strCells x ++ Lib.strCells y := by
  simp [Lib.strCells, ByteArray.data_append]
/-- the cells of one entry -/
theorem DbAt.entry {w : World} {b o : Nat} {l : List DE} (h3 : ∀ j, j < l.length * 9 → w.cell? ⟨b, o + j, none⟩ = some (plainV ((flat deR l).getD j .u))) {k : Nat} (hk : k < l.length) (t : Nat) (ht : t < 9) : w.cell? ⟨b, o + k * 9 + t, none⟩ = some (plainV ((deR l[k]).getD t .u)) := by
  rw [Nat.add_assoc, h3 (k * 9 + t) (by omega)]
  congr 2
  have hfl : ∀ (l : List DE) (k : Nat) (hk : k < l.length), (flat deR l).getD (k * 9 + t) .u = (deR l[k]).getD t .u := by
    intro l
    induction l with
    | nil => intro k hk; simp at hk
    | cons e r ih =>
      intro k hk
      rw [flat, List.map_cons, List.flatten_cons, List.getD_eq_getElem?_getD]
      cases k with
      | zero =>
        rw [List.getElem?_append_left (by rw [deR_len]; omega), ← List.getD_eq_getElem?_getD]
        simp
      | succ k =>
        rw [List.getElem?_append_right (by rw [deR_len]; omega), deR_len, show (k + 1) * 9 + t - 9 = k * 9 + t by omega, ← List.getD_eq_getElem?_getD]
        exact ih k (by simpa using hk)
  exact hfl l k hk
theorem GW.tab {w : World} (h : GW Tryz.prog w) : Lib.TabIs Tryz.prog w "internal/strconv.uint64pow10" .u64 Lib.pow10Tab := by
  obtain ⟨o, h1, h2⟩ := h 0 (.inl rfl)
  obtain ⟨t, f, rfl⟩ : ∃ t f, o = .cells (Go.Lib.pow10Tab.map fun z => Value.int .u64 z).toArray t f := h2
  unfold Lib.TabIs World.var?
  rw [show Tryz.prog.globalNamed "internal/strconv.uint64pow10" = some 0 from by kernel_rfl]
  simp only [Option.bind_some, h1]
theorem dump_in {w w1 : World} {o : Obj} (h : Below (w.alloc o).heap.size (w.alloc o) w1) : w.heap.size < w1.heap.size ∧ w1.heap[w.heap.size]? = some o := by
  have h1 : (w.alloc o).heap.size = w.heap.size + 1 := Array.size_push ..
  have h2 := h.size
  exact ⟨by omega, (h.block w.heap.size (by omega)).trans (heap_alloc_new w o)⟩
theorem dump_sz (w : World) (o : Obj) : w.heap.size ≤ (w.alloc o).heap.size := Nat.le_trans (Nat.le_succ _) (Nat.le_of_eq (Array.size_push ..).symm)
theorem grow_below (w : World) (q : Nat) (os : Array Obj) : Below w.heap.size w (Go.Sort.grow (w.drewN q) os) := by
  have hs : (Go.Sort.grow (w.drewN q) os).heap = w.heap ++ os := rfl
  refine ⟨rfl, rfl, rfl, by rw [hs, Array.size_append]; omega, fun k hk => ?_⟩
  rw [hs, Array.getElem?_append_left hk]
theorem Tryz.fmtUintB (u : Nat) (hu64 : u < 18446744073709551616) (w : World) (hg : GW Tryz.prog w) :
    Calls Tryz.prog 21 #[.int .u64 (u : Int), .int .i64 10] w fun e w' => e = .returned (.string ⟨⟨dg u⟩⟩) ∧ Below w.heap.size w w' := by
  refine (Tryz.fmtUint u hu64 w hg.tab).mono ?_
  rintro e w' ⟨rfl, k, os, rfl⟩
  exact ⟨by rw [dg, Int.toNat_natCast], grow_below w k os⟩
theorem Tryz.itoaB (n : Int) (h : 0 ≤ n ∧ n ≤ 4294967295) (w : World) (hg : GW Tryz.prog w) :
    Calls Tryz.prog 22 #[.int .i64 n] w fun e w' => e = .returned (.string ⟨⟨dg n⟩⟩) ∧ Below w.heap.size w w' := by
  refine (Tryz.strconv_Itoa n (by omega) (by omega) w hg.tab).mono ?_
  rintro e w' ⟨rfl, k, os, rfl⟩
  exact ⟨by rw [itoa_dg h.1], grow_below w k os⟩
theorem GW.drew {w : World} (h : GW Tryz.prog w) : GW Tryz.prog w.drew := h
theorem isB_kept {T e : TypeId} {B b : Nat} {bs : List Value} {w w' : World} (h : Lib.IsBuilderF T e B b bs w) (hb : Below w.heap.size w w') : Lib.IsBuilderF T e B b bs w' := by
  have hg : w.grownBy w' none := ⟨hb.os, hb.tape, hb.output, hb.size, fun k hk _ => hb.block k hk⟩
  have one : ∀ p, Lib.BuilderAtF T e B b p bs w → Lib.BuilderAtF T e B b p bs w' := by
    rintro p ⟨hB, v, hbk, hown, hne⟩
    have hlt : b < w.heap.size := by
      rcases Nat.lt_or_ge b w.heap.size with h' | h'
      · exact h'
      · simp [Array.getElem?_eq_none h'] at hbk
    refine ⟨hB, v, (hb.block b hlt).trans hbk, hown.kept hg ?_, hne⟩
    cases h : v.ownBlock with
    | none => exact .inl rfl
    | some k => exact .inr (by simp)
  rcases h with h | h
  · exact .inl (one _ h)
  · exact .inr (one _ h)
theorem byteC9 : Lib.strCells ⟨#[9]⟩ = Lib.byteCells [9] := str_cells [9]
theorem byteC10 : Lib.strCells ⟨#[10]⟩ = Lib.byteCells [10] := str_cells [10]
theorem pre_cells (A x y d : List UInt8) : Lib.byteCells A ++ Lib.strCells (((((⟨⟨x⟩⟩ : ByteArray) ++ ⟨#[9]⟩) ++ ⟨⟨y⟩⟩) ++ ⟨#[9]⟩) ++ ⟨⟨d⟩⟩) = Lib.byteCells (A ++ (x ++ [9] ++ y ++ [9] ++ d)) := by
  simp only [str_cells_app, str_cells, byte_cells_app, List.append_assoc]
theorem tab_cells (A d : List UInt8) : Lib.byteCells A ++ Lib.strCells ((⟨#[9]⟩ : ByteArray) ++ ⟨⟨d⟩⟩) = Lib.byteCells (A ++ 9 :: d) := by
  simp only [str_cells_app, str_cells, byteC9, byte_cells_app]
  rfl
theorem byte_len (x : List UInt8) : (Lib.byteCells x).length = x.length := by simp [Lib.byteCells]
end Go.Sx

/-
  A contract of database.Dump at an empty database.
-/
import Derived.Test.YtfagmeafkddibaaDoorCDbB
import Derived.Test.YtfagmeafkddibaaDoorSxLib
import Derived.Shelf.Strings.Builder1
set_option linter.all false
namespace Go.Proofs
open Go.Shelf Go.RowKit
def Tryd.lays169_ren : Go.Shelf.Ren := ⟨fun | 169 => 57 | n => n, fun | 70 => 75 | 9 => 9 | 0 => 0 | 72 => 77 | 37 => 25 | 127 => 95 | 3 => 3 | 5 => 5 | n => n, fun | n => n⟩
theorem Tryd.lays169 : Go.Proofs.Lays.n169 Tryd.prog Tryd.lays169_ren := {
  mixed := by kernel_rfl
  f169 := Tryd.func57.trans (congrArg some (by kernel_rfl))
  t0 := Tryd.underlying0
  a0 := Tryd.isAgg0
  z0 := Tryd.sizeOf0
  v0 := Tryd.zeroValue0
  t3 := Tryd.underlying3
  a3 := Tryd.isAgg3
  z3 := Tryd.sizeOf3
  v3 := Tryd.zeroValue3
  t9 := Tryd.underlying9
  a9 := Tryd.isAgg9
  z9 := Tryd.sizeOf9
  v9 := Tryd.zeroValue9
  t37 := Tryd.underlying25
  a37 := Tryd.isAgg25
  z37 := Tryd.sizeOf25
  v37 := Tryd.zeroValue25
  t70 := Tryd.underlying75
  a70 := Tryd.isAgg75
  z70 := Tryd.sizeOf75
  v70 := Tryd.zeroValue75
  t72 := Tryd.underlying77
  a72 := Tryd.isAgg77
  z72 := Tryd.sizeOf77
  v72 := Tryd.zeroValue77
  t127 := Tryd.underlying95
  a127 := Tryd.isAgg95
  z127 := Tryd.sizeOf95
  v127 := Tryd.zeroValue95 }
theorem Tryd.Builder_Extra_169 : Builder.Extra Tryd.prog Tryd.lays169_ren := {
  sizeBuilder := by kernel_rfl
  liesBuilder := by kernel_rfl
  t5 := Tryd.underlying5
  a5 := Tryd.isAgg5
  z5 := Tryd.sizeOf5
  v5 := Tryd.zeroValue5
  infoByte := by kernel_rfl
  cellsByte := by kernel_rfl
  sizeByte := by kernel_rfl
  neB5 := by decide }

set_option maxHeartbeats 1000000 in
set_option maxRecDepth 100000 in
theorem Tryd.copyCheck_fresh (b : Nat) (w : World) (h0 : w.cell? ⟨b, 0, none⟩ = some (.pointer none)) (hsh : w.shape? b = some (77, 2)) (hfz : w.frozen? ⟨b, 0, none⟩ = false) :
    Calls Tryd.prog 67 #[.pointer (some ⟨b, 0, none⟩)] w fun e w' => e = .returned (.tuple #[]) ∧ w' = w.setCell ⟨b, 0, none⟩ (.pointer (some ⟨b, 0, none⟩)) := by
  obtain ⟨j, hj, hjs⟩ := Option.map_eq_some_iff.1 Tryd.Builder_Extra_169.sizeBuilder
  go_enter Tryd.func67, Tryd.ntmps67
  go_wp2
  rw [Lib.run_to_unsafe w ⟨b, 0, none⟩ Tryd.underlying75 Tryd.underlying98 hj (by rw [hjs]; decide) hsh (Nat.zero_lt_succ 1)]
  simp only [Result.andThen]
  rw [Oper.upon_value]
  go_wp2
  rw [run_callFunc_extern Tryd.func74 (by kernel_rfl) (by kernel_rfl) (by kernel_rfl) (e := Extern.AbiNoEscape.same) (by kernel_rfl)]
  rw [Lib.run_noEscape]
  simp only [Result.andThen]
  rw [Oper.upon_value]
  go_wp2
  rw [Lib.run_from_unsafe w ⟨b, 0, none⟩ Tryd.underlying98 Tryd.underlying75 hj hsh Tryd.Builder_Extra_169.liesBuilder]
  simp only [Result.andThen]
  rw [Oper.upon_value]
  go_wp2
  go_end0
  exact ⟨rfl, rfl⟩
set_option maxHeartbeats 2000000 in
set_option maxRecDepth 100000 in
theorem Tryd.WriteString_fresh (B b : Nat) (bs : List Value) (s : ByteArray) (w : World) (h : Lib.BuilderAt 77 5 B b (.pointer none) bs w) (hlen : bs.length + s.size ≤ 140737488355328) (hBw : B ≤ w.heap.size) :
    Calls Tryd.prog 54 #[.pointer (some ⟨b, 0, none⟩), .string s] w fun e w' => e = .returned (.tuple #[.int .i64 s.size, .nilIface]) ∧ (Lib.BuilderAt 77 5 B b (.pointer (some ⟨b, 0, none⟩)) (bs ++ Lib.strCells s) w' ∧ Below B w w') := by
  obtain ⟨i0, hi, hz0, hz1, hz2⟩ := info_parts Tryd.Builder_Extra_169.infoByte
  go_enter Tryd.func54, Tryd.ntmps54
  go_wp2_with (go_at_call 67; refine (Tryd.copyCheck_fresh b _ h.cell0 h.shape h.frozen0).mono ?_)
  rintro e w1 ⟨rfl, rfl⟩
  have hb1 : Below B w (w.setCell ⟨b, 0, none⟩ (.pointer (some ⟨b, 0, none⟩))) := (Below.refl B w).setCell (p := ⟨b, 0, none⟩) h.1 _
  have h1 := h.used (.pointer (some ⟨b, 0, none⟩))
  generalize w.setCell ⟨b, 0, none⟩ (.pointer (some ⟨b, 0, none⟩)) = w1 at *
  obtain ⟨hB, v, hbk, hown, hne⟩ := h1
  have c0 : w1.cell? ⟨b, 0, none⟩ = some (.pointer (some ⟨b, 0, none⟩)) := by rw [Lib.cell_of_heap hbk]; rfl
  have c1 : w1.cell? ⟨b, 1, none⟩ = some v := by rw [Lib.cell_of_heap hbk]; rfl
  go_wp2_with (at_builtin; refine Lib.wpList_append_own_string _ rfl _ _ 25 9 rfl B 5 i0 Tryd.underlying25 Tryd.underlying9 hi hz0 hz1 hz2 _ _ _ rfl hown s rfl ?c3 ?c4 ?c5 ?_)
  case c3 => unfold maxLen; omega
  case c4 => omega
  case c5 => have := hb1.size; omega
  intro v' w2 hown' hgrow _
  have hlt : b < w1.heap.size := by
    rcases Nat.lt_or_ge b w1.heap.size with h' | h'
    · exact h'
    · simp [Array.getElem?_eq_none h'] at hbk
  have hb2 : w2.heap[b]? = some (.cells #[.pointer (some ⟨b, 0, none⟩), v] 77 (0, 0)) := by
    rw [hgrow.block b hlt (fun e => hne e.symm)]
    exact hbk
  have d0 : w2.cell? ⟨b, 0, none⟩ = some (.pointer (some ⟨b, 0, none⟩)) := by rw [Lib.cell_of_heap hb2]; rfl
  have d1 : w2.cell? ⟨b, 1, none⟩ = some v := by rw [Lib.cell_of_heap hb2]; rfl
  have f1 : w2.frozen? ⟨b, 1, none⟩ = false := Lib.frozen_of_heap hb2 1
  obtain ⟨ao, n', cap, rfl⟩ : ∃ ao n' cap, v' = .slice ao n' cap := by
    rcases hown'.2 with ⟨hv, _⟩ | ⟨g, cap, cur, hv, _⟩
    · exact ⟨_, _, _, hv⟩
    · exact ⟨_, _, _, hv⟩
  go_wp2
  go_ret2
  refine ⟨rfl, ?_, ?_⟩
  · exact Lib.BuilderAt.put (T := 77) (e := 5) hB hb2 (bs' := bs ++ Lib.strCells s) (by simpa [Lib.strCells_length] using hown') Tryd.Builder_Extra_169.neB5
  · exact (hb1.grown hgrow (by have := hb1.size; omega) (fun k hk => (hown.lt k hk).1)).setCell (p := ⟨b, 1, none⟩) hB _
end Go.Proofs
namespace Go.Sx
open Go.Proofs Go.RowKit
theorem dump_int {P : Program} {f : FuncId} {fn : Func} {c : Code} (hf : P.funcs[f]? = some fn) (hb : fn.body = some c) (hnm : (fn.name == "runtime.NumGoroutine") = false)
    {cs : List C} {n : Int} (h : Fn P f cs [] (.one (.c (.o (.i .i64 n)))) []) {w : World} {vs : List Value} (hr : RelCs (fun _ => False) w noMu cs vs) :
    Calls P f ⟨vs⟩ w fun e w' => e = .returned (.int .i64 n) ∧ Below w.heap.size w w' := by
  have hsb : SB ⟨w.heap.size, fun _ => False, fun _ h => h.elim⟩ (boxOf []) noMu (fun _ => False) w :=
    ⟨fun id bx h => by simp [boxOf] at h, fun id id' bx bx' b o n o' n' h => by simp [boxOf] at h, fun id bx b o n h => by simp [boxOf] at h, fun b h => h, Nat.le_refl _, fun b h => h.elim⟩
  have hc := h w (fun _ => False) (fun _ h => h.elim) noMu vs hsb (fun id h => absurd rfl h) hr
  have hne : fn.name ≠ "runtime.NumGoroutine" := by simpa using hnm
  have hcall : (callFunc f ⟨vs⟩).run P w = .ok (.enter f ⟨vs⟩) w := by simp [callFunc, hf, hne, hb]
  unfold CallsV at hc
  rw [hcall] at hc
  refine Calls.mono hc ?_
  rintro e w' ⟨v, rfl, us, μ', B', hv, hp⟩
  have hus : us = [v] := hv
  subst hus
  have hrel := hp.rel 0 _ v rfl rfl
  have hrel : RelL B' w' noMu (.i .i64 n) v := hrel
  cases hrel
  exact ⟨rfl, hp.fm.os, hp.fm.tape, hp.fm.output, hp.gr.size, fun k hk => hp.fm.wr k hk (by rintro ⟨id, bx, o, n, h1, _⟩; simp [boxOf] at h1)⟩
theorem c_dbCheck0 (a : Option Addr) (cap : Nat) (w : World) : Calls Tryd.prog 10 #[.agg #[.string ⟨#[82]⟩, .slice a 0 cap]] w fun e w' => e = .returned (.int .i64 0) ∧ Below w.heap.size w w' := by
  have h : dbC [82] [] = 0 := dbC_mk (by decide +kernel) (by simp) (by simp) (by intro i hi; simp at hi)
  have c := c_dbCheck [82] [] (m := 0) rfl (by simp) (by simp) (by simp)
  rw [h] at c
  refine dump_int Tryd.func10 rfl rfl c (vs := [.agg #[.string ⟨#[82]⟩, .slice a 0 cap]]) ⟨rfl, ?_⟩
  intro j c v h1 h2
  cases j with
  | zero =>
    simp at h1 h2
    subst h1; subst h2
    exact ⟨[.string ⟨#[82]⟩, .slice a 0 cap], rfl, rfl, fun j l v h1 h2 => by
      match j, h1, h2 with
      | 0, h1, h2 => simp at h1 h2; subst h1; subst h2; exact RelL.s
      | 1, h1, h2 => simp at h1 h2; subst h1; subst h2; exact RelL.sl0⟩
  | succ j => simp at h1
theorem dump_in {w w1 : World} {o : Obj} (h : Below (w.alloc o).heap.size (w.alloc o) w1) : w.heap.size < w1.heap.size ∧ w1.heap[w.heap.size]? = some o := by
  have h1 : (w.alloc o).heap.size = w.heap.size + 1 := Array.size_push ..
  have h2 := h.size
  exact ⟨by omega, (h.block w.heap.size (by omega)).trans (heap_alloc_new w o)⟩
theorem dump_sz (w : World) (o : Obj) : w.heap.size ≤ (w.alloc o).heap.size := Nat.le_trans (Nat.le_succ _) (Nat.le_of_eq (Array.size_push ..).symm)
theorem dump_below {w w1 w2 w3 : World} {o o' : Obj} (h : Below (w.alloc o).heap.size (w.alloc o) w1) (h' : Below w1.heap.size (w1.alloc o') w2) (h'' : Below w1.heap.size w2 w3) : Below w.heap.size w w3 := by
  have h1 := dump_sz w o
  have h2 : Below w.heap.size w (w.alloc o) := (Below.refl _ w).alloc (Nat.le_refl _) _
  have h3 : Below w.heap.size (w.alloc o) w1 := h.mono h1
  have h4 : w.heap.size ≤ w1.heap.size := Nat.le_trans h1 h.size
  have h5 : Below w.heap.size w1 (w1.alloc o') := (Below.refl _ w1).alloc h4 _
  exact (((h2.trans h3).trans h5).trans (h'.mono h4)).trans (h''.mono h4)
set_option maxHeartbeats 4000000 in
set_option maxRecDepth 100000 in
theorem c_DumpW (a : Option Addr) (cap : Nat) (w : World) : Calls Tryd.prog 32 #[.agg #[.string ⟨#[82]⟩, .slice a 0 cap]] w fun e w' => e = .returned (.tuple #[.string ⟨#[82, 10]⟩, .int .i64 0]) ∧ Below w.heap.size w w' := by
  go_enter Tryd.func32, Tryd.ntmps32
  go_wp2_with (go_at_call 10; refine (c_dbCheck0 a cap _).mono ?_)
  rintro e w1 ⟨rfl, hb1⟩
  obtain ⟨e0, hh⟩ := dump_in hb1
  have k0 : w1.cell? ⟨w.heap.size, 0, none⟩ = some (.string ⟨#[82]⟩) := by rw [Lib.cell_of_heap hh]; rfl
  have k1 : w1.cell? ⟨w.heap.size, 1, none⟩ = some (.slice a 0 cap) := by rw [Lib.cell_of_heap hh]; rfl
  have hf := Lib.fresh_isBuilder 77 5 w1
  have h0 : Lib.BuilderAt 77 5 w1.heap.size w1.heap.size (.pointer none) [] (w1.alloc (.cells #[.pointer none, .slice none 0 0] 77)) :=
    ⟨Nat.le_refl _, .slice none 0 0, heap_alloc_new w1 _, World.ownsRow_nil _ _ _ _, by simp [Value.ownBlock]⟩
  have g0 : (w1.alloc (.cells #[.pointer none, .slice none 0 0] 77)).cell? ⟨w.heap.size, 0, none⟩ = some (.string ⟨#[82]⟩) := by
    rw [Lib.cell_of_heap ((Lib.alloc_old w1 _ _ e0).trans hh)]; rfl
  go_wp2_with (go_at_call 54; refine (Tryd.WriteString_fresh w1.heap.size w1.heap.size [] ⟨#[82, 10]⟩ _ h0 (by decide) (dump_sz _ _)).mono ?_)
  rintro e w2 ⟨rfl, h2, hb2⟩
  have hh2 : w2.heap[w.heap.size]? = some (.cells #[.string ⟨#[82]⟩, .slice a 0 cap] 24 (0, 0)) := by
    rw [hb2.block _ e0, Lib.alloc_old w1 _ _ e0, hh]
  have hb2' : Below w1.heap.size w1 w2 := ((Below.refl _ w1).alloc (Nat.le_refl _) _).trans hb2
  have k2 : w2.cell? ⟨w.heap.size, 1, none⟩ = some (.slice a 0 cap) := by rw [Lib.cell_of_heap hh2]; rfl
  go_wp2
  refine wp_loop_once ?_
  go_wp2_with (go_at_call 57; refine (Any.Builder_String_any Tryd.lays169 Tryd.Builder_Extra_169 w1.heap.size w1.heap.size [82, 10] _ (Or.inr h2) hb2'.size).mono ?_)
  rintro e w3 ⟨rfl, hb3⟩
  go_wp2
  go_ret2
  exact ⟨rfl, dump_below hb1 hb2 hb3⟩
theorem c_Dump0 : Fn Tryd.prog 32 [.a [.s [82], .sl [] 0]] [] (.tup [.c (.o (.s [82, 10])), .c (.o (.i .i64 0))]) [] := by
  intro w Bx hlt μ vs hsb hdom hr
  have hl := hr.1
  match vs, hl with
  | [v], _ =>
    obtain ⟨us, rfl, hu⟩ : ∃ us : List Value, v = .agg ⟨us⟩ ∧ Rels Bx w μ [.s [82], .sl [] 0] us := hr.2 0 _ v rfl rfl
    match us, hu.1 with
    | [a, b], _ =>
      have ha : RelL Bx w μ (.s [82]) a := hu.2 0 _ a rfl rfl
      have hb : RelL Bx w μ (.sl [] 0) b := hu.2 1 _ b rfl rfl
      cases ha
      obtain ⟨ad, cap, rfl⟩ : ∃ a cap, b = .slice a 0 cap := by
        cases hb with
        | sl0 => exact ⟨_, _, rfl⟩
        | sl h1 h2 h3 h4 h5 => exact ⟨_, _, rfl⟩
      have hcall : (callFunc 32 ⟨[.agg ⟨[.string ⟨⟨[82]⟩⟩, .slice ad 0 cap]⟩]⟩).run Tryd.prog w = .ok (.enter 32 ⟨[.agg ⟨[.string ⟨⟨[82]⟩⟩, .slice ad 0 cap]⟩]⟩) w := by
        have hb : ∃ c, Tryd.f32.body = some c := ⟨_, rfl⟩
        obtain ⟨c, hb⟩ := hb
        have hne : Tryd.f32.name ≠ "runtime.NumGoroutine" := by decide
        simp [callFunc, Tryd.func32, hne, hb]
      unfold CallsV
      rw [hcall]
      refine Calls.mono (c_DumpW ad cap w) ?_
      rintro e w' ⟨rfl, h⟩
      refine ⟨_, rfl, [.string ⟨#[82, 10]⟩, .int .i64 0], fun _ => some none, Bx, rfl, ⟨rfl, ?_, ?_, ?_, by simp, rfl, Below.grow h Bx, fun _ h => h, Below.fr h _ _, fun b hb => Nat.lt_of_lt_of_le (hlt b hb) h.size⟩⟩
      · intro j r u h1 h2
        match j, h1, h2 with
        | 0, h1, h2 => simp [resList] at h1 h2; subst h1; subst h2; exact RelL.s
        | 1, h1, h2 => simp [resList] at h1 h2; subst h1; subst h2; exact RelL.i
      · rintro j bx ⟨r, h1, h2⟩
        match j, h1 with
        | 0, h1 => simp [resList] at h1; subst h1; cases h2
        | 1, h1 => simp [resList] at h1; subst h1; cases h2
      · rintro j j' bx bx' b o k o' k' h1 h2 h3
        cases h3
end Go.Sx

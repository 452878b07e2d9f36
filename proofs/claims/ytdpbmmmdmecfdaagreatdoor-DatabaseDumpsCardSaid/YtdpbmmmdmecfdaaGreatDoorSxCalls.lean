/-
  Contracts from calls whose arguments and results hold no memory.
-/
import Derived.Test.YtdpbmmmdmecfdaaGreatDoorSxLib
set_option linter.all false
namespace Go.Sx
open Go.RowKit
def isPlain : L → Bool
  | .s _ => true
  | .i _ _ => true
  | .b _ => true
  | _ => false
def plainV : L → Value
  | .s x => .string ⟨⟨x⟩⟩
  | .i k n => .int k n
  | .b x => .bool x
  | _ => undef
theorem plain_is {B : Nat → Prop} {w : World} {μ : Mu} {l : L} {v : Value} (hp : isPlain l = true) (h : RelL B w μ l v) : v = plainV l := by
  cases h <;> first | rfl | cases hp
/-- results that hold no memory -/
def ClosedRs (rs : List R) (us : List Value) : Prop := rs.length = us.length ∧ ∀ (j : Nat) r u, rs[j]? = some r → us[j]? = some u → ∃ c, r = .c c ∧ ∀ B w, RelC B w noMu c u
/-- what stands in the blocks that nothing turns -/
def GW (P : Program) [Gl P] (w : World) : Prop := ∀ b, Gl.S P b → ∃ o, w.heap[b]? = some o ∧ Gl.ok P b o
theorem GW.below {P : Program} [Gl P] {w w' : World} {B : Nat} (h : GW P w) (hB : w.heap.size ≤ B) (hb : Below B w w') : GW P w' := by
  intro b hS
  obtain ⟨o, h1, h2⟩ := h b hS
  have hlt : b < w.heap.size := by
    rcases Nat.lt_or_ge b w.heap.size with h' | h'
    · exact h'
    · simp [Array.getElem?_eq_none h'] at h1
  exact ⟨o, by rw [hb.block b (by omega), h1], h2⟩
theorem GW.alloc {P : Program} [Gl P] {w : World} (h : GW P w) (o : Obj) : GW P (w.alloc o) := h.below (Nat.le_refl _) ((Below.refl _ w).alloc (Nat.le_refl _) _)
theorem post_plain {w w' : World} {Bx : Nat → Prop} {μ : Mu} (hlt : ∀ b, Bx b → b < w.heap.size) (h : Below w.heap.size w w') {res : Res} {v : Value} {us : List Value} (hv : ResV res v us) (hc : ClosedRs (resList res) us) : FnPost w Bx μ [] [] res v w' := by
  refine ⟨us, fun _ => some none, Bx, hv, ⟨hc.1, ?_, ?_, ?_, by simp, rfl, Below.grow h Bx, fun _ h => h, Below.fr h _ _, fun b hb => Nat.lt_of_lt_of_le (hlt b hb) h.size⟩⟩
  · intro j r u h1 h2
    obtain ⟨c, rfl, hr⟩ := hc.2 j r u h1 h2
    exact hr _ _
  · rintro j bx ⟨r, h1, h2⟩
    have hj : j < us.length := by rw [← hc.1]; exact (List.getElem?_eq_some_iff.1 h1).1
    obtain ⟨c, rfl, _⟩ := hc.2 j r us[j] h1 (List.getElem?_eq_getElem hj)
    cases h2
  · rintro j j' bx bx' b o k o' k' ⟨r, h1, h2⟩
    have hj : j < us.length := by rw [← hc.1]; exact (List.getElem?_eq_some_iff.1 h1).1
    obtain ⟨c, rfl, _⟩ := hc.2 j r us[j] h1 (List.getElem?_eq_getElem hj)
    cases h2
theorem plain_args {B : Nat → Prop} {w : World} {μ : Mu} {ls : List L} {vs : List Value} (hp : ls.all isPlain = true) (h : RelCs B w μ (ls.map fun l => .o l) vs) : vs = ls.map plainV := by
  obtain ⟨h1, h2⟩ := h
  rw [List.length_map] at h1
  apply List.ext_getElem?
  intro j
  rw [List.getElem?_map]
  cases hl : ls[j]? with
  | none =>
    have := List.getElem?_eq_none_iff.1 hl
    rw [List.getElem?_eq_none_iff.2 (by omega)]
    rfl
  | some l =>
    have hj := (List.getElem?_eq_some_iff.1 hl).1
    have hv : vs[j]? = some vs[j] := List.getElem?_eq_getElem (by omega)
    have hr : RelL B w μ l vs[j] := h2 j (.o l) vs[j] (by rw [List.getElem?_map, hl]; rfl) hv
    rw [hv, plain_is (List.all_eq_true.1 hp l (List.mem_of_getElem? hl)) hr]
    rfl
theorem fn_plain {P : Program} [Gl P] {f : FuncId} {fn : Func} {c : Code} (hf : P.funcs[f]? = some fn) (hb : fn.body = some c) (hnm : (fn.name == "runtime.NumGoroutine") = false) {ls : List L} (hp : ls.all isPlain = true) {res : Res}
    (h : ∀ w, GW P w → Calls P f ⟨ls.map plainV⟩ w fun e w' => (∃ us v, e = .returned v ∧ ResV res v us ∧ ClosedRs (resList res) us) ∧ Below w.heap.size w w') : Fn P f (ls.map fun l => .o l) [] res [] := by
  intro w Bx hlt μ vs hsb hdom hr
  have hvs := plain_args hp hr
  subst hvs
  have hne : fn.name ≠ "runtime.NumGoroutine" := by simpa using hnm
  have hcall : (callFunc f ⟨ls.map plainV⟩).run P w = .ok (.enter f ⟨ls.map plainV⟩) w := by simp [callFunc, hf, hne, hb]
  unfold CallsV
  rw [hcall]
  refine Calls.mono (h w fun b hS => (hsb.gp b hS).2) ?_
  rintro e w' ⟨⟨us, v, rfl, hv, hc⟩, hbel⟩
  exact ⟨v, rfl, post_plain hlt hbel hv hc⟩
/-- a call off a contract, at arguments without memory -/
theorem calls_plain {P : Program} [Gl P] {f : FuncId} {fn : Func} {c : Code} (hf : P.funcs[f]? = some fn) (hb : fn.body = some c) (hnm : (fn.name == "runtime.NumGoroutine") = false) {cs : List C} {res : Res} (h : Fn P f cs [] res []) {w : World} {vs : List Value} (hg : GW P w) (hr : RelCs (fun _ => False) w noMu cs vs) :
    Calls P f ⟨vs⟩ w fun e w' => ∃ v us μ' B', e = .returned v ∧ ResV res v us ∧ (∀ (j : Nat) r u, (resList res)[j]? = some r → us[j]? = some u → RelR B' w' μ' j r u) ∧ (resList res).length = us.length ∧ Below w.heap.size w w' := by
  have hsb : SB (P := P) ⟨w.heap.size, fun _ => False, fun _ h => h.elim⟩ (boxOf []) noMu (fun _ => False) w :=
    ⟨fun id bx h => by simp [boxOf] at h, fun id id' bx bx' b o n o' n' h => by simp [boxOf] at h, fun id bx b o n h => by simp [boxOf] at h, fun b h => h, Nat.le_refl _, fun b h => h.elim, fun b hS => ⟨id, hg b hS⟩⟩
  have hc := h w (fun _ => False) (fun _ h => h.elim) noMu vs hsb (fun id h => absurd rfl h) hr
  have hne : fn.name ≠ "runtime.NumGoroutine" := by simpa using hnm
  have hcall : (callFunc f ⟨vs⟩).run P w = .ok (.enter f ⟨vs⟩) w := by simp [callFunc, hf, hne, hb]
  unfold CallsV at hc
  rw [hcall] at hc
  refine Calls.mono hc ?_
  rintro e w' ⟨v, rfl, us, μ', B', hv, hp⟩
  exact ⟨v, us, μ', B', rfl, hv, hp.rel, hp.len, hp.fm.os, hp.fm.tape, hp.fm.output, hp.gr.size, fun k hk => hp.fm.wr k hk (by rintro ⟨id, bx, o, n, h1, _⟩; simp [boxOf] at h1)⟩
end Go.Sx

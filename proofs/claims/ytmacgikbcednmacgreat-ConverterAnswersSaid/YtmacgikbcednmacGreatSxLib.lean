/-
  Contracts that are not walked: of a call that hands back an empty slice; of the library's functions without a body.
-/
import Derived.Test.YtmacgikbcednmacGreatSxC
import Derived.WalkKit
set_option linter.all false
namespace Go.Sx
open Go.RowKit

theorem Below.grow {w w' : World} (h : Below w.heap.size w w') (Bx : Nat → Prop) : Grow Bx w Bx w' :=
  ⟨h.size, fun b hb _ => h.block b hb, fun a ha => by
    cases hc : w.cell? a with
    | none => rw [hc] at ha; cases ha
    | some v =>
      have : w'.cell? a = w.cell? a := World.cell?_of_block (w := w) (h.block a.block (World.block_lt_of_cell? w a hc))
      rw [this, hc]; rfl, fun _ _ h => h⟩

theorem Below.fr {w w' : World} (h : Below w.heap.size w w') (m : Nat → Option Bx) (μ : Mu) : Fr m μ w w' := ⟨fun b hb _ => h.block b hb, h.os, h.tape, h.output⟩

/-- an empty slice of new memory -/
theorem post_empty {w w' : World} {Bx : Nat → Prop} {μ : Mu} (hlt : ∀ b, Bx b → b < w.heap.size) (h : Below w.heap.size w w') (a : Option Addr) (sz : Nat) : FnPost w Bx μ [] [] (.one (.fr [] 0 sz)) (.slice a 0 0) w' := by
  refine ⟨[.slice a 0 0], fun _ => some none, Bx, rfl, ⟨rfl, ?_, ?_, ?_, by simp, rfl, Below.grow h Bx, fun _ h => h, Below.fr h _ _, fun b hb => Nat.lt_of_lt_of_le (hlt b hb) h.size⟩⟩
  · intro j r u h1 h2
    cases j with
    | zero => simp [resList] at h1 h2; subst h1; subst h2; exact RelL.gw0 rfl
    | succ j => simp [resList] at h1
  · rintro j bx ⟨r, h1, h2⟩
    cases j with
    | zero => simp [resList] at h1; subst h1; cases h2; exact ⟨.inl ⟨rfl, rfl⟩, fun b o k h => by cases h⟩
    | succ j => simp [resList] at h1
  · intro j j' bx bx' b o k o' k' h1 h2 h3
    cases h3

/-- a result that is one leaf without memory -/
theorem post_leaf {w w' : World} {Bx : Nat → Prop} {μ : Mu} (hlt : ∀ b, Bx b → b < w.heap.size) (h : Below w.heap.size w w') {l : L} {v : Value} (hr : ∀ B w μ, RelL B w μ l v) : FnPost w Bx μ [] [] (.one (.c (.o l))) v w' := by
  refine ⟨[v], fun _ => some none, Bx, rfl, ⟨rfl, ?_, ?_, ?_, by simp, rfl, Below.grow h Bx, fun _ h => h, Below.fr h _ _, fun b hb => Nat.lt_of_lt_of_le (hlt b hb) h.size⟩⟩
  · intro j r u h1 h2
    cases j with
    | zero => simp [resList] at h1 h2; subst h1; subst h2; exact hr _ _ _
    | succ j => simp [resList] at h1
  · rintro j bx ⟨r, h1, h2⟩
    cases j with
    | zero => simp [resList] at h1; subst h1; cases h2
    | succ j => simp [resList] at h1
  · intro j j' bx bx' b o k o' k' h1 h2 h3
    cases h3

theorem eq_nil_no (P : Program) (t e : TypeId) (hu : P.underlying t = some (.slice e)) (ad : Addr) (n cap : Nat) (w : World) : (binOp .eql t (.slice (some ad) n cap) (.slice none 0 0)).run P w = .ok (.bool false) w := by
  simp only [binOp, Sem.run_bind, run_equal_nil hu, Result.andThen_ok, Sem.run_pure]
  rfl
theorem eq_nil_yes (P : Program) (t e : TypeId) (hu : P.underlying t = some (.slice e)) (n cap : Nat) (w : World) : (binOp .eql t (.slice none n cap) (.slice none 0 0)).run P w = .ok (.bool true) w := by
  simp only [binOp, Sem.run_bind, run_equal_nil hu, Result.andThen_ok, Sem.run_pure]
  rfl

/-- a contract at an empty slice, from calls at each value that such a slice may have -/
theorem fn_empty {P : Program} {f : FuncId} {fn : Func} {c : Code} (hf : P.funcs[f]? = some fn) (hb : fn.body = some c) (hnm : (fn.name == "runtime.NumGoroutine") = false) {sz : Nat}
    (h : ∀ (a : Option Addr) (cap : Nat) (w : World), Calls P f #[.slice a 0 cap] w fun e w' => (∃ a, e = .returned (.slice a 0 0)) ∧ Below w.heap.size w w') : Fn P f [.o (.sl [] 0)] [] (.one (.fr [] 0 sz)) [] := by
  intro w Bx hlt μ vs hsb hdom hr
  have hl := hr.1
  match vs, hl with
  | [v], _ =>
    have hv : RelL Bx w μ (.sl [] 0) v := hr.2 0 _ v rfl rfl
    obtain ⟨a, cap, rfl⟩ : ∃ a cap, v = .slice a 0 cap := by
      cases hv with
      | sl0 => exact ⟨_, _, rfl⟩
      | sl h1 h2 h3 h4 h5 => exact ⟨_, _, rfl⟩
    have hne : fn.name ≠ "runtime.NumGoroutine" := by simpa using hnm
    have hcall : (callFunc f ⟨[.slice a 0 cap]⟩).run P w = .ok (.enter f ⟨[.slice a 0 cap]⟩) w := by simp [callFunc, hf, hne, hb]
    unfold CallsV
    rw [hcall]
    refine Calls.mono (h a cap w) ?_
    rintro e w' ⟨⟨a', rfl⟩, hbel⟩
    exact ⟨_, rfl, post_empty hlt hbel a' sz⟩

end Go.Sx

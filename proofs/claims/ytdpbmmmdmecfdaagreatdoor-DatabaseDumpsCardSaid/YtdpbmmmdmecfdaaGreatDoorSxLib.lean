/-
  Contracts that are not walked: of a call that hands back an empty slice; of the library's functions without a body.
-/
import Derived.Test.YtdpbmmmdmecfdaaGreatDoorSxC
import Derived.WalkKit
set_option linter.all false
namespace Go.Sx
open Go.RowKit

theorem Below.grow {w w' : World} (h : Below w.heap.size w w') (Bx : Nat → Prop) : Grow Bx w Bx w' :=
  ⟨h.size, fun b hb _ => h.block b hb, fun a ha => by
    cases hc : w.cell? a with
    | none => rw [hc] at ha; cases ha
    | some v =>
      have : w'.cell? a = w.cell? a := World.cell?_of_block (w := w) (h.block a.block (World.block_lt_of_cell? w a hc))
      rw [this, hc]; rfl, fun _ _ h => h⟩

theorem Below.fr {w w' : World} (h : Below w.heap.size w w') (m : Nat → Option Bx) (μ : Mu) : Fr m μ w w' := ⟨fun b hb _ => h.block b hb, h.os, h.tape, h.output⟩

/-- a result that is one leaf without memory -/
theorem post_leaf {w w' : World} {Bx : Nat → Prop} {μ : Mu} (hlt : ∀ b, Bx b → b < w.heap.size) (h : Below w.heap.size w w') {l : L} {v : Value} (hr : ∀ B w μ, RelL B w μ l v) : FnPost w Bx μ [] [] (.one (.c (.o l))) v w' := by
  refine ⟨[v], fun _ => some none, Bx, rfl, ⟨rfl, ?_, ?_, ?_, by simp, rfl, Below.grow h Bx, fun _ h => h, Below.fr h _ _, fun b hb => Nat.lt_of_lt_of_le (hlt b hb) h.size⟩⟩
  · intro j r u h1 h2
    cases j with
    | zero => simp [resList] at h1 h2; subst h1; subst h2; exact hr _ _ _
    | succ j => simp [resList] at h1
  · rintro j bx ⟨r, h1, h2⟩
    cases j with
    | zero => simp [resList] at h1; subst h1; cases h2
    | succ j => simp [resList] at h1
  · intro j j' bx bx' b o k o' k' h1 h2 h3
    cases h3

end Go.Sx

/-
  Readers of encodings in general: plain functions, for every input.
-/
import Derived.Test.YtcnemhfgpldplabPSfx
set_option linter.all false
namespace Go.Sx
def mvS (s : Int × Bool) (q : Int × Int) : Int × Bool := (mvA s.1 s.2 q.1 q.2, mvB s.2 q.2)
theorem mvS_ok (k n : Int) : mvS (k, false) (n, 0) = (n, false) := by simp [mvS]
theorem mvS_bounds {s : Int × Bool} {q : Int × Int} {c L : Int} (h1 : 0 ≤ s.1 ∧ s.1 ≤ max c L) (h2 : 0 ≤ q.1 ∧ q.1 ≤ L) : 0 ≤ (mvS s q).1 ∧ (mvS s q).1 ≤ max c L := by
  show 0 ≤ mvA _ _ _ _ ∧ mvA _ _ _ _ ≤ _
  unfold mvA
  split <;> omega
theorem boolK_refl {α : Type} [BEq α] [ReflBEq α] {x : α} {A B : Prop} (h : A) : boolK (x == x) A B := ⟨fun _ => h, fun e => by rw [BEq.rfl] at e; cases e⟩
/-- the document's reader behind the first byte -/
def oct0S (b : List UInt8) : Int × Bool := mvS (0, false) (getS false 1 b 0).2
theorem oct0S_bounds (b : List UInt8) : 0 ≤ (oct0S b).1 ∧ (oct0S b).1 ≤ max (2 : Int) (b.length : Int) := mvS_bounds ⟨by decide, by show (0 : Int) ≤ _; omega⟩ (get_next _ _ _ _)
theorem oct0S_ok {b r : List UInt8} {n : Int} (h : b = numS false 1 n ++ r) (hn : 0 ≤ n ∧ n ≤ 255) : oct0S b = (1, false) ∧ Sfx b 1 r ∧ (getS false 1 b 0).1 = n := by
  have hs : Sfx b 0 (numS false 1 n ++ r) := by rw [h]; exact sfx_0 _
  have e : getS false 1 b 0 = (n, 0 + 1, 0) := getS1_at (p := []) (r := r) (by rw [h]; simp) rfl hn
  refine ⟨?_, ?_, by rw [e]⟩
  · rw [oct0S, e]; exact mvS_ok _ _
  · exact sfx_of (p := numS false 1 n) h (by simp)
theorem ordN_range (l : Bool) : 0 ≤ ordN l ∧ ordN l ≤ 255 := by cases l <;> simp [ordN]
theorem ordN_ne {l o : Bool} (h : ordN l = ordN o) : l = o := by cases l <;> cases o <;> simp [ordN] at h ⊢
/-- a decoder: what is read, if its encoding is the same bytes -/
def decG {T : Type} (N : T → List UInt8 × Int) (rd : List UInt8 → T) (z : T) (b : List UInt8) : T × Int := if (N (rd b)).2 = 0 ∧ (N (rd b)).1 = b then (rd b, 0) else (z, 100)
section
variable {T : Type} {N : T → List UInt8 × Int} {rd rd' : List UInt8 → T} {bad : List UInt8 → Bool} {z t : T} {b : List UInt8}
theorem decG_yes (h1 : (N (rd b)).2 = 0) (h2 : (N (rd b)).1 = b) : decG N rd z b = (rd b, 0) := by rw [decG, if_pos ⟨h1, h2⟩]
theorem decG_no (h : ¬ (N (rd b)).2 = 0 ∨ ¬ (N (rd b)).1 = b) : decG N rd z b = (z, 100) := by
  rw [decG, if_neg (fun hh => by rcases h with h | h; exact h hh.1; exact h hh.2)]
theorem decG_trip (hr : N t = (b, 0) → rd b = t) (h : N t = (b, 0)) : decG N rd z b = (t, 0) := by
  have e := hr h
  rw [decG_yes (by rw [e, h]) (by rw [e, h]), e]
theorem pair_of {x : List UInt8 × Int} (h1 : x.2 = 0) (h2 : x.1 = b) : x = (b, 0) := by cases x; cases h1; cases h2; rfl
theorem decG_is (h : (decG N rd z b).2 = 0) : N (rd b) = (b, 0) ∧ decG N rd z b = (rd b, 0) := by
  unfold decG at h ⊢
  split at h
  · rename_i hh; rw [if_pos hh]; exact ⟨pair_of hh.1 hh.2, rfl⟩
  · cases h
theorem decG_ref (hr : N (rd' b) = (b, 0) → rd b = rd' b) (h1 : (N (rd' b)).2 = 0) (h2 : (N (rd' b)).1 = b) : decG N rd z b = (rd' b, 0) :=
  decG_trip hr (pair_of h1 h2)
theorem decG_bad (hr : N (rd b) = (b, 0) → rd' b = rd b ∧ bad b = false) (h : bad b = true ∨ ¬ (N (rd' b)).2 = 0 ∨ ¬ (N (rd' b)).1 = b) : decG N rd z b = (z, 100) := by
  by_cases hd : (N (rd b)).2 = 0 ∧ (N (rd b)).1 = b
  · exfalso
    have e := pair_of hd.1 hd.2
    obtain ⟨e1, e2⟩ := hr e
    rw [e1, e2, e] at h
    simp at h
  · rw [decG, if_neg hd]
end
end Go.Sx

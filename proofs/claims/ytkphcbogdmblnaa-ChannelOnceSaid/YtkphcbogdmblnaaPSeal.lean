/-
  What is sealed and opened, as plain functions: for every input.
-/
import Derived.Test.YtkphcbogdmblnaaPBox
import Derived.Test.YtkphcbogdmblnaaPAuth
set_option linter.all false
namespace Go.Sx
def sealS (kd k : Int) (N : List UInt8 × Int) : List UInt8 × Int := if N.2 = 0 then makeS kd k N.1 else ([], N.2)
theorem sealS_yes {kd k : Int} {N : List UInt8 × Int} (h : N.2 = 0) : sealS kd k N = makeS kd k N.1 := by rw [sealS, if_pos h]
theorem sealS_no {kd k : Int} {N : List UInt8 × Int} (h : ¬ N.2 = 0) : sealS kd k N = ([], N.2) := by rw [sealS, if_neg h]
theorem sealS_len (kd k : Int) (N : List UInt8 × Int) : (sealS kd k N).1.length ≤ 1012 := by
  unfold sealS
  split
  · exact makeS_len _ _ _
  · simp
theorem authN_len (l : Bool) (x y z : List UInt8) (ck tk tm : Int) : (authN l x y z ck tk tm).1.length ≤ 140 := by
  by_cases h : authC x y z ck tk tm = 0
  · rw [authN_ok h]; exact authE_len h
  · rw [authN_no h]; simp
theorem tickN_len (li : Bool) (x y z : List UInt8) (ad se lf is : Int) (sn si : List UInt8) : (tickN li x y z ad se lf is sn si).1.length ≤ 224 := by
  by_cases h : tickC x y z ad se lf is sn si = 0
  · rw [tickN_ok h]; exact (tickE_len h).2
  · rw [tickN_no h]; simp
def auth0 : AuthT := ([], [], [], 0, 0, 0)
def openA (l : Bool) (b : List UInt8) (k : Int) : AuthT × Int := if (boxO b 2 k).2 = true ∧ (authD l (boxO b 2 k).1).2 = 0 then ((authD l (boxO b 2 k).1).1, 0) else (auth0, 31)
theorem openA_no {l : Bool} {b : List UInt8} {k : Int} (h : (boxO b 2 k).2 = false ∨ ¬ (authD l (boxO b 2 k).1).2 = 0) : openA l b k = (auth0, 31) := by
  rw [openA, if_neg (fun hh => by rcases h with h | h; rw [h] at hh; exact absurd hh.1 (by decide); exact h hh.2)]
theorem openA_yes {l : Bool} {b : List UInt8} {k : Int} (h : (boxO b 2 k).2 = true) (h1 : (authD l (boxO b 2 k).1).2 = 0) : openA l b k = ((authD l (boxO b 2 k).1).1, 0) := by rw [openA, if_pos ⟨h, h1⟩]
def openT (b : List UInt8) (k : Int) : TickT × Int := if (boxO b 1 k).2 = true then tickD (boxO b 1 k).1 else (tick0, 31)
theorem openT_no {b : List UInt8} {k : Int} (h : (boxO b 1 k).2 = false) : openT b k = (tick0, 31) := by rw [openT, if_neg (by rw [h]; decide)]
theorem openT_yes {b : List UInt8} {k : Int} (h : (boxO b 1 k).2 = true) : openT b k = tickD (boxO b 1 k).1 := by rw [openT, if_pos h]
theorem sess_range' {n : Int} (h : 0 ≤ n ∧ n ≤ 1000000) : 0 ≤ sessN n ∧ sessN n ≤ 18446744073709551615 := by unfold sessN; omega
theorem long_range {n : Int} (h : 0 ≤ n ∧ n ≤ 1000000) : 0 ≤ longK n ∧ longK n ≤ 18446744073709551615 := by unfold longK; omega
end Go.Sx

/-
  What safe and private messages are, as plain functions: for every input.
-/
import Derived.Test.YtkphcbogdmblnaaPCod
import Derived.Test.YtkphcbogdmblnaaPBox
import Derived.Test.YtkphcbogdmblnaaPSeal
set_option linter.all false
set_option linter.all false
namespace Go.Sx
theorem mvS_good {s : Int × Bool} {q : Int × Int} (h : (mvS s q).2 = false) : s.2 = false ∧ q.2 = 0 ∧ mvS s q = (q.1, false) := by
  obtain ⟨k, bad⟩ := s
  obtain ⟨n, e⟩ := q
  simp only [mvS, mvB, Bool.or_eq_false_iff, decide_eq_false_iff_not, ne_eq, Decidable.not_not] at h
  obtain ⟨h1, h2⟩ := h
  subst h1; subst h2
  exact ⟨rfl, rfl, mvS_ok _ _⟩
abbrev PrT := List UInt8 × Int × Int × Int
def pr0 : PrT := ([], 0, 0, 0)
def prR (tk ad tm : Int) : Prop := (0 ≤ tk ∧ tk ≤ 199) ∧ (0 ≤ ad ∧ ad ≤ 4294967295) ∧ (0 ≤ tm ∧ tm ≤ 4294967295)
instance (tk ad tm : Int) : Decidable (prR tk ad tm) := by unfold prR; infer_instance
def prB (l : Bool) (d : List UInt8) (tk ad tm : Int) : List UInt8 := [] ++ numS false 1 (ordN l) ++ numS l 2 (d.length : Int) ++ d ++ numS false 1 tk ++ numS l 4 ad ++ numS l 4 tm
theorem prB_len (l : Bool) (d : List UInt8) (tk ad tm : Int) : (prB l d tk ad tm).length = 12 + d.length := by simp [prB]; omega
def prE (l : Bool) (d : List UInt8) (tk ad tm : Int) : List UInt8 := padS (prB l d tk ad tm)
theorem prE_len (l : Bool) (d : List UInt8) (tk ad tm : Int) : 12 + d.length ≤ (prE l d tk ad tm).length ∧ (prE l d tk ad tm).length ≤ 20 + d.length := by
  have hp := padN_lt (prB l d tk ad tm).length
  rw [prE, padS_len]
  rw [prB_len] at hp ⊢
  omega
def prN (l : Bool) (x : PrT) : List UInt8 × Int := if x.1.length ≤ 500 then (if prR x.2.1 x.2.2.1 x.2.2.2 then (prE l x.1 x.2.1 x.2.2.1 x.2.2.2, 0) else ([], 104)) else ([], 105)
section
variable {l : Bool} {d : List UInt8} {tk ad tm : Int}
theorem prN_5 (h : ¬ d.length ≤ 500) : prN l (d, tk, ad, tm) = ([], 105) := by rw [prN]; exact if_neg h
theorem prN_4 (h : d.length ≤ 500) (h1 : ¬ ((0 ≤ tk ∧ tk ≤ 199) ∧ (0 ≤ ad ∧ ad ≤ 4294967295) ∧ (0 ≤ tm ∧ tm ≤ 4294967295))) : prN l (d, tk, ad, tm) = ([], 104) := by rw [prN]; exact (if_pos h).trans (if_neg h1)
theorem prN_ok (h : d.length ≤ 500) (h1 : (0 ≤ tk ∧ tk ≤ 199) ∧ (0 ≤ ad ∧ ad ≤ 4294967295) ∧ (0 ≤ tm ∧ tm ≤ 4294967295)) : prN l (d, tk, ad, tm) = (prE l d tk ad tm, 0) := by rw [prN]; exact (if_pos h).trans (if_pos h1)
end
theorem prN_is {l : Bool} {x : PrT} {b : List UInt8} (h : prN l x = (b, 0)) : x.1.length ≤ 500 ∧ prR x.2.1 x.2.2.1 x.2.2.2 ∧ prE l x.1 x.2.1 x.2.2.1 x.2.2.2 = b := by
  unfold prN at h
  split at h
  · rename_i h1
    split at h
    · rename_i h2; cases h; exact ⟨h1, h2, rfl⟩
    · cases h
  · cases h
theorem prN_len (l : Bool) (x : PrT) : (prN l x).1.length ≤ 520 := by
  unfold prN
  split
  · split
    · have := (prE_len l x.1 x.2.1 x.2.2.1 x.2.2.2).2
      simp only; omega
    · simp
  · simp
def pru0 (l : Bool) (b : List UInt8) := getS l 2 b 1
def pru1 (l : Bool) (b : List UInt8) := bytesS b (pru0 l b).2.1 (pru0 l b).1
def pru2 (l : Bool) (b : List UInt8) := getS false 1 b (pru1 l b).2.1
def pru3 (l : Bool) (b : List UInt8) := getS l 4 b (pru2 l b).2.1
def pru4 (l : Bool) (b : List UInt8) := getS l 4 b (pru3 l b).2.1
def prw0 (l : Bool) (b : List UInt8) := getS l 2 b (oct0S b).1
def prs1 (l : Bool) (b : List UInt8) : Int × Bool := mvS (oct0S b) (prw0 l b).2
def prw1 (l : Bool) (b : List UInt8) := bytesS b (prs1 l b).1 (prw0 l b).1
def prs2 (l : Bool) (b : List UInt8) : Int × Bool := mvS (prs1 l b) (prw1 l b).2
def prw2 (l : Bool) (b : List UInt8) := getS false 1 b (prs2 l b).1
def prs3 (l : Bool) (b : List UInt8) : Int × Bool := mvS (prs2 l b) (prw2 l b).2
def prw3 (l : Bool) (b : List UInt8) := getS l 4 b (prs3 l b).1
def prs4 (l : Bool) (b : List UInt8) : Int × Bool := mvS (prs3 l b) (prw3 l b).2
def prw4 (l : Bool) (b : List UInt8) := getS l 4 b (prs4 l b).1
def prs5 (l : Bool) (b : List UInt8) : Int × Bool := mvS (prs4 l b) (prw4 l b).2
theorem prs_bounds (l : Bool) (b : List UInt8) (g0 : 0 ≤ (oct0S b).1 ∧ (oct0S b).1 ≤ max (2 : Int) (b.length : Int)) : (0 ≤ (prs1 l b).1 ∧ (prs1 l b).1 ≤ max (2 : Int) (b.length : Int)) ∧ (0 ≤ (prs2 l b).1 ∧ (prs2 l b).1 ≤ max (2 : Int) (b.length : Int)) ∧ (0 ≤ (prs3 l b).1 ∧ (prs3 l b).1 ≤ max (2 : Int) (b.length : Int)) ∧ (0 ≤ (prs4 l b).1 ∧ (prs4 l b).1 ≤ max (2 : Int) (b.length : Int)) ∧ (0 ≤ (prs5 l b).1 ∧ (prs5 l b).1 ≤ max (2 : Int) (b.length : Int)) := by
  have g1 : 0 ≤ (prs1 l b).1 ∧ (prs1 l b).1 ≤ max (2 : Int) (b.length : Int) := mvS_bounds g0 (get_next _ _ _ _)
  have g2 : 0 ≤ (prs2 l b).1 ∧ (prs2 l b).1 ≤ max (2 : Int) (b.length : Int) := mvS_bounds g1 (bytes_next _ _ _)
  have g3 : 0 ≤ (prs3 l b).1 ∧ (prs3 l b).1 ≤ max (2 : Int) (b.length : Int) := mvS_bounds g2 (get_next _ _ _ _)
  have g4 : 0 ≤ (prs4 l b).1 ∧ (prs4 l b).1 ≤ max (2 : Int) (b.length : Int) := mvS_bounds g3 (get_next _ _ _ _)
  have g5 : 0 ≤ (prs5 l b).1 ∧ (prs5 l b).1 ≤ max (2 : Int) (b.length : Int) := mvS_bounds g4 (get_next _ _ _ _)
  exact ⟨g1, g2, g3, g4, g5⟩
theorem pr_read {l : Bool} {d : List UInt8} {tk ad tm : Int} (hd : 0 ≤ (d.length : Int) ∧ (d.length : Int) ≤ 65535) (htk : 0 ≤ tk ∧ tk ≤ 255) (had : 0 ≤ ad ∧ ad ≤ 4294967295) (htm : 0 ≤ tm ∧ tm ≤ 4294967295) {b r : List UInt8} (hs : Sfx b 1 (numS l 2 (d.length : Int) ++ (d ++ (numS false 1 tk ++ (numS l 4 ad ++ (numS l 4 tm ++ (r))))))) (z0 : (oct0S b) = (1, false)) : (∃ K, (pru0 l b) = ((d.length : Int), K, 0)) ∧ ((prw0 l b) = ((d.length : Int), (pru0 l b).2.1, 0)) ∧ (∃ K, (pru1 l b) = (d, K, 0)) ∧ ((prw1 l b) = (d, (pru1 l b).2.1, 0)) ∧ (∃ K, (pru2 l b) = (tk, K, 0)) ∧ ((prw2 l b) = (tk, (pru2 l b).2.1, 0)) ∧ (∃ K, (pru3 l b) = (ad, K, 0)) ∧ ((prw3 l b) = (ad, (pru3 l b).2.1, 0)) ∧ (∃ K, (pru4 l b) = (tm, K, 0)) ∧ ((prw4 l b) = (tm, (pru4 l b).2.1, 0)) ∧ (prs5 l b) = ((pru4 l b).2.1, false) ∧ Sfx b (pru4 l b).2.1 r := by
  obtain ⟨K0, e0, q0⟩ := sfx_num2 hs hd
  have x0 : (pru0 l b) = ((d.length : Int), K0, 0) := by
    simp only [pru0]
    exact e0
  have y0 : (prw0 l b) = ((d.length : Int), K0, 0) := by
    simp only [prw0, z0]
    exact e0
  have z1 : (prs1 l b) = (K0, false) := by simp only [prs1, z0, y0, mvS_ok]
  obtain ⟨K1, e1, q1⟩ := sfx_bytes q0 rfl
  have x1 : (pru1 l b) = (d, K1, 0) := by
    simp only [pru1, x0]
    exact e1
  have y1 : (prw1 l b) = (d, K1, 0) := by
    simp only [prw1, z1, y0]
    exact e1
  have z2 : (prs2 l b) = (K1, false) := by simp only [prs2, z1, y1, mvS_ok]
  obtain ⟨K2, e2, q2⟩ := sfx_num1 q1 htk
  have x2 : (pru2 l b) = (tk, K2, 0) := by
    simp only [pru2, x1, x0]
    exact e2
  have y2 : (prw2 l b) = (tk, K2, 0) := by
    simp only [prw2, z2, y0, y1]
    exact e2
  have z3 : (prs3 l b) = (K2, false) := by simp only [prs3, z2, y2, mvS_ok]
  obtain ⟨K3, e3, q3⟩ := sfx_num4 q2 had
  have x3 : (pru3 l b) = (ad, K3, 0) := by
    simp only [pru3, x2, x0, x1]
    exact e3
  have y3 : (prw3 l b) = (ad, K3, 0) := by
    simp only [prw3, z3, y0, y1, y2]
    exact e3
  have z4 : (prs4 l b) = (K3, false) := by simp only [prs4, z3, y3, mvS_ok]
  obtain ⟨K4, e4, q4⟩ := sfx_num4 q3 htm
  have x4 : (pru4 l b) = (tm, K4, 0) := by
    simp only [pru4, x3, x0, x1, x2]
    exact e4
  have y4 : (prw4 l b) = (tm, K4, 0) := by
    simp only [prw4, z4, y0, y1, y2, y3]
    exact e4
  have z5 : (prs5 l b) = (K4, false) := by simp only [prs5, z4, y4, mvS_ok]
  refine ⟨⟨_, x0⟩, by rw [y0, x0], ⟨_, x1⟩, by rw [y1, x1], ⟨_, x2⟩, by rw [y2, x2], ⟨_, x3⟩, by rw [y3, x3], ⟨_, x4⟩, by rw [y4, x4], ?_, ?_⟩
  · rw [z5, x4]
  · rw [x4]; exact q4
def prRd (l : Bool) (b : List UInt8) : PrT := ((pru1 l b).1, (pru2 l b).1, (pru3 l b).1, (pru4 l b).1)
def prRw (l : Bool) (b : List UInt8) : PrT := ((prw1 l b).1, (prw2 l b).1, (prw3 l b).1, (prw4 l b).1)
theorem pr_head {l : Bool} {x : PrT} {b : List UInt8} (h : prN l x = (b, 0)) : ∃ r, b = numS false 1 (ordN l) ++ r := by
  obtain ⟨d, tk, ad, tm⟩ := x
  obtain ⟨_, _, h3⟩ := prN_is h
  exact ⟨numS l 2 (d.length : Int) ++ (d ++ (numS false 1 tk ++ (numS l 4 ad ++ (numS l 4 tm ++ (List.replicate (padN (prB l d tk ad tm).length) 0))))), by rw [← h3, prE, padS, prB]; simp⟩
theorem pr_rd {l : Bool} {x : PrT} {b : List UInt8} (h : prN l x = (b, 0)) : prRd l b = x ∧ prRw l b = x ∧ (prs5 l b).2 = false := by
  obtain ⟨d, tk, ad, tm⟩ := x
  obtain ⟨h0, ⟨h1, h2, h3⟩, h4⟩ := prN_is h
  simp only at h0 h1 h2 h3 h4
  obtain ⟨o1, o2, o3⟩ := oct0S_ok (b := b) (n := ordN l) (r := numS l 2 (d.length : Int) ++ (d ++ (numS false 1 tk ++ (numS l 4 ad ++ (numS l 4 tm ++ (List.replicate (padN (prB l d tk ad tm).length) 0)))))) (by rw [← h4, prE, padS, prB]; simp) (ordN_range l)
  obtain ⟨⟨_, x0⟩, y0, ⟨_, x1⟩, y1, ⟨_, x2⟩, y2, ⟨_, x3⟩, y3, ⟨_, x4⟩, y4, z, _⟩ := pr_read (by omega) (by omega) h2 h3 o2 o1
  refine ⟨?_, ?_, by rw [z]⟩
  · rw [prRd, x1, x2, x3, x4]
  · rw [prRw, y1, y2, y3, y4]
def prD (l : Bool) (b : List UInt8) : PrT × Int := decG (prN l) (prRd l) pr0 b
theorem prD_yes {l : Bool} {b : List UInt8} (h1 : (prN l (prRd l b)).2 = 0) (h2 : (prN l (prRd l b)).1 = b) : prD l b = (prRd l b, 0) := decG_yes h1 h2
theorem prD_no {l : Bool} {b : List UInt8} (h1 : ¬ (prN l (prRd l b)).2 = 0 ∨ ¬ (prN l (prRd l b)).1 = b) : prD l b = (pr0, 100) := decG_no h1
theorem prD_ref {l : Bool} {b : List UInt8} (h1 : (prN l (prRw l b)).2 = 0) (h2 : (prN l (prRw l b)).1 = b) : prD l b = (prRw l b, 0) := decG_ref (rd' := prRw l) (fun e => (pr_rd e).1) h1 h2
theorem prD_bad {l : Bool} {b : List UInt8} (h1 : (prs5 l b).2 = true ∨ ¬ (prN l (prRw l b)).2 = 0 ∨ ¬ (prN l (prRw l b)).1 = b) : prD l b = (pr0, 100) :=
  decG_bad (rd' := prRw l) (bad := fun b => (prs5 l b).2) (fun e => ⟨(pr_rd e).2.1, (pr_rd e).2.2⟩) h1
theorem prD_trip {l : Bool} {x : PrT} {b : List UInt8} (h : prN l x = (b, 0)) : prD l b = (x, 0) := decG_trip (fun e => (pr_rd e).1) h
theorem prD_is {l : Bool} {b : List UInt8} (h : (prD l b).2 = 0) : prN l (prD l b).1 = (b, 0) := by
  obtain ⟨h1, h2⟩ := decG_is h
  rw [prD, h2]; exact h1
theorem numS1_head {n m : Int} {r s : List UInt8} (h : numS false 1 n ++ r = numS false 1 m ++ s) : digit n 0 = digit m 0 := by
  simp [numS, List.range, List.range.loop] at h
  exact h.1
theorem digit_ord {l o : Bool} (h : digit (ordN l) 0 = digit (ordN o) 0) : l = o := by
  have h1 := digit_val (ordN l) 0
  have h2 := digit_val (ordN o) 0
  rw [h] at h1
  cases l <;> cases o <;> simp [ordN] at h1 h2 ⊢ <;> omega
theorem prD_other {l : Bool} {x : PrT} {b : List UInt8} (h : prN l x = (b, 0)) : prD (!l) b = (pr0, 100) := by
  refine decG_no ?_
  by_cases h1 : (prN (!l) (prRd (!l) b)).2 = 0
  · right
    intro h2
    obtain ⟨r, e1⟩ := pr_head h
    obtain ⟨s, e2⟩ := pr_head (pair_of h1 h2)
    have := digit_ord (numS1_head (e1.symm.trans e2))
    cases l <;> cases this
  · exact .inl h1
theorem prD_len (l : Bool) (b : List UInt8) : (prD l b).1.1.length ≤ b.length := by
  unfold prD decG
  split
  · exact bytesS_le _ _ _
  · simp [pr0]
def psu0 (l : Bool) (b : List UInt8) := getS l 2 b 2
def psu1 (l : Bool) (b : List UInt8) := bytesS b (psu0 l b).2.1 (psu0 l b).1
def psw0 (l : Bool) (b : List UInt8) := getS l 2 b 2
def pss1 (l : Bool) (b : List UInt8) : Int × Bool := mvS ((2, false) : Int × Bool) (psw0 l b).2
def psw1 (l : Bool) (b : List UInt8) := bytesS b (pss1 l b).1 (psw0 l b).1
def pss2 (l : Bool) (b : List UInt8) : Int × Bool := mvS (pss1 l b) (psw1 l b).2
theorem pss_bounds (l : Bool) (b : List UInt8) : (0 ≤ (pss1 l b).1 ∧ (pss1 l b).1 ≤ max (2 : Int) (b.length : Int)) ∧ (0 ≤ (pss2 l b).1 ∧ (pss2 l b).1 ≤ max (2 : Int) (b.length : Int)) := by
  have g0 : 0 ≤ ((2, false) : Int × Bool).1 ∧ ((2, false) : Int × Bool).1 ≤ max (2 : Int) (b.length : Int) := by simp only; omega
  have g1 : 0 ≤ (pss1 l b).1 ∧ (pss1 l b).1 ≤ max (2 : Int) (b.length : Int) := mvS_bounds g0 (get_next _ _ _ _)
  have g2 : 0 ≤ (pss2 l b).1 ∧ (pss2 l b).1 ≤ max (2 : Int) (b.length : Int) := mvS_bounds g1 (bytes_next _ _ _)
  exact ⟨g1, g2⟩
theorem ps_same {l : Bool} {b : List UInt8} (h : (pss2 l b).2 = false) : (psw0 l b) = (psu0 l b) ∧ (psw1 l b) = (psu1 l b) ∧ (psu0 l b).2.2 = 0 ∧ (psu1 l b).2.2 = 0 ∧ (pss2 l b).1 = (psu1 l b).2.1 := by
  obtain ⟨a1, e1, z2⟩ := mvS_good h
  obtain ⟨a0, e0, z1⟩ := mvS_good a1
  have y0 : (psw0 l b) = (psu0 l b) := rfl
  have y1 : (psw1 l b) = (psu1 l b) := by
    have z : (pss1 l b).1 = (psw0 l b).2.1 := congrArg Prod.fst z1
    rw [y0] at z
    show bytesS b (pss1 l b).1 (psw0 l b).1 = _
    rw [show (pss1 l b).1 = (psu0 l b).2.1 from z, y0]
    rfl
  refine ⟨y0, y1, y0 ▸ e0, y1 ▸ e1, ?_⟩
  rw [← y1]
  exact congrArg Prod.fst z2
theorem ps_good {l : Bool} {b : List UInt8} (e0 : (psu0 l b).2.2 = 0) (e1 : (psu1 l b).2.2 = 0) : (psw0 l b) = (psu0 l b) ∧ (psw1 l b) = (psu1 l b) ∧ (pss2 l b) = ((psu1 l b).2.1, false) := by
  have y0 : (psw0 l b) = (psu0 l b) := rfl
  have z1 : (pss1 l b) = ((psu0 l b).2.1, false) := by
    show mvS ((2, false) : Int × Bool) (psw0 l b).2 = _
    rw [y0, show (psu0 l b).2 = ((psu0 l b).2.1, (psu0 l b).2.2) from rfl, e0, mvS_ok]
  have y1 : (psw1 l b) = (psu1 l b) := by
    show bytesS b (pss1 l b).1 (psw0 l b).1 = _
    rw [z1, y0]
    rfl
  have z2 : (pss2 l b) = ((psu1 l b).2.1, false) := by
    show mvS (pss1 l b) (psw1 l b).2 = _
    rw [z1, y1, show (psu1 l b).2 = ((psu1 l b).2.1, (psu1 l b).2.2) from rfl, e1, mvS_ok]
  exact ⟨y0, y1, z2⟩
def ptu0 (l : Bool) (b : List UInt8) := getS l 2 b 2
def ptu1 (l : Bool) (b : List UInt8) := bytesS b (ptu0 l b).2.1 (ptu0 l b).1
def ptu2 (l : Bool) (b : List UInt8) := getS l 2 b (ptu1 l b).2.1
def ptu3 (l : Bool) (b : List UInt8) := bytesS b (ptu2 l b).2.1 (ptu2 l b).1
def ptw0 (l : Bool) (b : List UInt8) := getS l 2 b 2
def pts1 (l : Bool) (b : List UInt8) : Int × Bool := mvS ((2, false) : Int × Bool) (ptw0 l b).2
def ptw1 (l : Bool) (b : List UInt8) := bytesS b (pts1 l b).1 (ptw0 l b).1
def pts2 (l : Bool) (b : List UInt8) : Int × Bool := mvS (pts1 l b) (ptw1 l b).2
def ptw2 (l : Bool) (b : List UInt8) := getS l 2 b (pts2 l b).1
def pts3 (l : Bool) (b : List UInt8) : Int × Bool := mvS (pts2 l b) (ptw2 l b).2
def ptw3 (l : Bool) (b : List UInt8) := bytesS b (pts3 l b).1 (ptw2 l b).1
def pts4 (l : Bool) (b : List UInt8) : Int × Bool := mvS (pts3 l b) (ptw3 l b).2
theorem pts_bounds (l : Bool) (b : List UInt8) : (0 ≤ (pts1 l b).1 ∧ (pts1 l b).1 ≤ max (2 : Int) (b.length : Int)) ∧ (0 ≤ (pts2 l b).1 ∧ (pts2 l b).1 ≤ max (2 : Int) (b.length : Int)) ∧ (0 ≤ (pts3 l b).1 ∧ (pts3 l b).1 ≤ max (2 : Int) (b.length : Int)) ∧ (0 ≤ (pts4 l b).1 ∧ (pts4 l b).1 ≤ max (2 : Int) (b.length : Int)) := by
  have g0 : 0 ≤ ((2, false) : Int × Bool).1 ∧ ((2, false) : Int × Bool).1 ≤ max (2 : Int) (b.length : Int) := by simp only; omega
  have g1 : 0 ≤ (pts1 l b).1 ∧ (pts1 l b).1 ≤ max (2 : Int) (b.length : Int) := mvS_bounds g0 (get_next _ _ _ _)
  have g2 : 0 ≤ (pts2 l b).1 ∧ (pts2 l b).1 ≤ max (2 : Int) (b.length : Int) := mvS_bounds g1 (bytes_next _ _ _)
  have g3 : 0 ≤ (pts3 l b).1 ∧ (pts3 l b).1 ≤ max (2 : Int) (b.length : Int) := mvS_bounds g2 (get_next _ _ _ _)
  have g4 : 0 ≤ (pts4 l b).1 ∧ (pts4 l b).1 ≤ max (2 : Int) (b.length : Int) := mvS_bounds g3 (bytes_next _ _ _)
  exact ⟨g1, g2, g3, g4⟩
theorem pt_same {l : Bool} {b : List UInt8} (h : (pts4 l b).2 = false) : (ptw0 l b) = (ptu0 l b) ∧ (ptw1 l b) = (ptu1 l b) ∧ (ptw2 l b) = (ptu2 l b) ∧ (ptw3 l b) = (ptu3 l b) ∧ (ptu0 l b).2.2 = 0 ∧ (ptu1 l b).2.2 = 0 ∧ (ptu2 l b).2.2 = 0 ∧ (ptu3 l b).2.2 = 0 ∧ (pts4 l b).1 = (ptu3 l b).2.1 := by
  obtain ⟨a3, e3, z4⟩ := mvS_good h
  obtain ⟨a2, e2, z3⟩ := mvS_good a3
  obtain ⟨a1, e1, z2⟩ := mvS_good a2
  obtain ⟨a0, e0, z1⟩ := mvS_good a1
  have y0 : (ptw0 l b) = (ptu0 l b) := rfl
  have y1 : (ptw1 l b) = (ptu1 l b) := by
    have z : (pts1 l b).1 = (ptw0 l b).2.1 := congrArg Prod.fst z1
    rw [y0] at z
    show bytesS b (pts1 l b).1 (ptw0 l b).1 = _
    rw [show (pts1 l b).1 = (ptu0 l b).2.1 from z, y0]
    rfl
  have y2 : (ptw2 l b) = (ptu2 l b) := by
    have z : (pts2 l b).1 = (ptw1 l b).2.1 := congrArg Prod.fst z2
    rw [y1] at z
    show getS l 2 b (pts2 l b).1 = _
    rw [show (pts2 l b).1 = (ptu1 l b).2.1 from z]
    rfl
  have y3 : (ptw3 l b) = (ptu3 l b) := by
    have z : (pts3 l b).1 = (ptw2 l b).2.1 := congrArg Prod.fst z3
    rw [y2] at z
    show bytesS b (pts3 l b).1 (ptw2 l b).1 = _
    rw [show (pts3 l b).1 = (ptu2 l b).2.1 from z, y2]
    rfl
  refine ⟨y0, y1, y2, y3, y0 ▸ e0, y1 ▸ e1, y2 ▸ e2, y3 ▸ e3, ?_⟩
  rw [← y3]
  exact congrArg Prod.fst z4
theorem pt_good {l : Bool} {b : List UInt8} (e0 : (ptu0 l b).2.2 = 0) (e1 : (ptu1 l b).2.2 = 0) (e2 : (ptu2 l b).2.2 = 0) (e3 : (ptu3 l b).2.2 = 0) : (ptw0 l b) = (ptu0 l b) ∧ (ptw1 l b) = (ptu1 l b) ∧ (ptw2 l b) = (ptu2 l b) ∧ (ptw3 l b) = (ptu3 l b) ∧ (pts4 l b) = ((ptu3 l b).2.1, false) := by
  have y0 : (ptw0 l b) = (ptu0 l b) := rfl
  have z1 : (pts1 l b) = ((ptu0 l b).2.1, false) := by
    show mvS ((2, false) : Int × Bool) (ptw0 l b).2 = _
    rw [y0, show (ptu0 l b).2 = ((ptu0 l b).2.1, (ptu0 l b).2.2) from rfl, e0, mvS_ok]
  have y1 : (ptw1 l b) = (ptu1 l b) := by
    show bytesS b (pts1 l b).1 (ptw0 l b).1 = _
    rw [z1, y0]
    rfl
  have z2 : (pts2 l b) = ((ptu1 l b).2.1, false) := by
    show mvS (pts1 l b) (ptw1 l b).2 = _
    rw [z1, y1, show (ptu1 l b).2 = ((ptu1 l b).2.1, (ptu1 l b).2.2) from rfl, e1, mvS_ok]
  have y2 : (ptw2 l b) = (ptu2 l b) := by
    show getS l 2 b (pts2 l b).1 = _
    rw [z2]
    rfl
  have z3 : (pts3 l b) = ((ptu2 l b).2.1, false) := by
    show mvS (pts2 l b) (ptw2 l b).2 = _
    rw [z2, y2, show (ptu2 l b).2 = ((ptu2 l b).2.1, (ptu2 l b).2.2) from rfl, e2, mvS_ok]
  have y3 : (ptw3 l b) = (ptu3 l b) := by
    show bytesS b (pts3 l b).1 (ptw2 l b).1 = _
    rw [z3, y2]
    rfl
  have z4 : (pts4 l b) = ((ptu3 l b).2.1, false) := by
    show mvS (pts3 l b) (ptw3 l b).2 = _
    rw [z3, y3, show (ptu3 l b).2 = ((ptu3 l b).2.1, (ptu3 l b).2.2) from rfl, e3, mvS_ok]
  exact ⟨y0, y1, y2, y3, z4⟩
theorem get2_range (l : Bool) (b : List UInt8) (k : Int) : 0 ≤ (getS l 2 b k).1 ∧ (getS l 2 b k).1 ≤ 65535 := by
  unfold getS
  split
  · simp
  · have h1 := byte_lt (b.getD (k + ((if l then 2 - 1 - 0 else 0 : Nat) : Int)).toNat 0)
    have h2 := byte_lt (b.getD (k + ((if l then 2 - 1 - 1 else 1 : Nat) : Int)).toNat 0)
    simp only [getV, List.range, List.range.loop, List.foldl_cons, List.foldl_nil]
    omega
theorem bytes_cnt {b : List UInt8} {k n : Int} (h : (bytesS b k n).2.2 = 0) : ((bytesS b k n).1.length : Int) = n := by
  by_cases hr : roomS b.length k n = 0
  · have := bytesS_len hr
    have := roomS_ok hr
    omega
  · rw [bytesS_no hr] at h
    exact absurd h hr
def nextS (l : Bool) (b : List UInt8) (k most : Int) : List UInt8 × Int × Bool :=
  if ¬ (getS l 2 b k).2.2 = 0 ∨ (getS l 2 b k).1 > most then ([], 0, false) else
  ((bytesS b (getS l 2 b k).2.1 (getS l 2 b k).1).1, (bytesS b (getS l 2 b k).2.1 (getS l 2 b k).1).2.1, (bytesS b (getS l 2 b k).2.1 (getS l 2 b k).1).2.2 == 0)
section
variable {l : Bool} {b : List UInt8} {k most : Int}
theorem nextS_1 (h : ¬ (getS l 2 b k).2.2 = 0) : nextS l b k most = ([], 0, false) := by rw [nextS, if_pos (.inl h)]
theorem nextS_2 (h : (getS l 2 b k).1 > most) : nextS l b k most = ([], 0, false) := by rw [nextS, if_pos (.inr h)]
theorem nextS_3 (h : (getS l 2 b k).2.2 = 0) (h1 : ¬ (getS l 2 b k).1 > most) : nextS l b k most = ((bytesS b (getS l 2 b k).2.1 (getS l 2 b k).1).1, (bytesS b (getS l 2 b k).2.1 (getS l 2 b k).1).2.1, (bytesS b (getS l 2 b k).2.1 (getS l 2 b k).1).2.2 == 0) := by
  rw [nextS, if_neg (fun hh => by rcases hh with hh | hh; exact hh h; exact h1 hh)]
theorem nextS_len : (nextS l b k most).1.length ≤ b.length ∧ (0 ≤ (nextS l b k most).2.1 ∧ (nextS l b k most).2.1 ≤ b.length) := by
  unfold nextS
  split
  · simp
  · exact ⟨bytesS_le _ _ _, bytes_next _ _ _⟩
theorem nextS_is (h : (nextS l b k most).2.2 = true) : (getS l 2 b k).2.2 = 0 ∧ (getS l 2 b k).1 ≤ most ∧ (bytesS b (getS l 2 b k).2.1 (getS l 2 b k).1).2.2 = 0 ∧ nextS l b k most = ((bytesS b (getS l 2 b k).2.1 (getS l 2 b k).1).1, (bytesS b (getS l 2 b k).2.1 (getS l 2 b k).1).2.1, true) := by
  by_cases h1 : (getS l 2 b k).2.2 = 0
  · by_cases h2 : (getS l 2 b k).1 > most
    · rw [nextS_2 h2] at h; cases h
    · rw [nextS_3 h1 h2] at h ⊢
      have h3 := eq_of_beq h
      exact ⟨h1, by omega, h3, by rw [h3]; rfl⟩
  · rw [nextS_1 h1] at h; cases h
theorem nextS_ok (h : (getS l 2 b k).2.2 = 0) (h1 : (getS l 2 b k).1 ≤ most) (h2 : (bytesS b (getS l 2 b k).2.1 (getS l 2 b k).1).2.2 = 0) : nextS l b k most = ((bytesS b (getS l 2 b k).2.1 (getS l 2 b k).1).1, (bytesS b (getS l 2 b k).2.1 (getS l 2 b k).1).2.1, true) := by
  rw [nextS_3 h (by omega), h2]; rfl
end
abbrev PtT := Int × List UInt8 × List UInt8 × Bool × Int
def pt0 (e : Int) : PtT := (0, [], [], false, e)
/-- the parts of a private message, and of a safe one -/
def part6 (l : Bool) (b : List UInt8) : PtT := if (nextS l b 2 1012).2.2 = true ∧ (nextS l b 2 1012).2.1 = b.length then (6, [], (nextS l b 2 1012).1, l, 0) else pt0 100
def part7 (l : Bool) (b : List UInt8) : PtT :=
  if (nextS l b 2 1000).2.2 = true ∧ (nextS l b (nextS l b 2 1000).2.1 1012).2.2 = true ∧ (nextS l b (nextS l b 2 1000).2.1 1012).2.1 = b.length then (7, (nextS l b 2 1000).1, (nextS l b (nextS l b 2 1000).2.1 1012).1, l, 0) else pt0 100
def partsS (b : List UInt8) : PtT := if (isS b [6, 7]).2 = 0 then (if (readS b).1 = 7 then part7 (isS b [6, 7]).1 b else part6 (isS b [6, 7]).1 b) else pt0 (isS b [6, 7]).2
theorem part6_len (l : Bool) (b : List UInt8) : (part6 l b).2.1.length ≤ b.length ∧ (part6 l b).2.2.1.length ≤ b.length := by
  unfold part6
  split
  · exact ⟨by simp, nextS_len.1⟩
  · simp [pt0]
theorem part7_len (l : Bool) (b : List UInt8) : (part7 l b).2.1.length ≤ b.length ∧ (part7 l b).2.2.1.length ≤ b.length := by
  unfold part7
  split
  · exact ⟨nextS_len.1, nextS_len.1⟩
  · simp [pt0]
theorem partsS_len (b : List UInt8) : (partsS b).2.1.length ≤ b.length ∧ (partsS b).2.2.1.length ≤ b.length := by
  unfold partsS
  split
  · split
    · exact part7_len _ _
    · exact part6_len _ _
  · simp [pt0]
theorem partsS_e {b : List UInt8} (h : ¬ (isS b [6, 7]).2 = 0) : partsS b = pt0 (isS b [6, 7]).2 := by rw [partsS, if_neg h]
theorem partsS_7 {b : List UInt8} (h : (isS b [6, 7]).2 = 0) (h1 : (readS b).1 = 7) : partsS b = part7 (isS b [6, 7]).1 b := by rw [partsS, if_pos h, if_pos h1]
theorem partsS_6 {b : List UInt8} (h : (isS b [6, 7]).2 = 0) (h1 : ¬ (readS b).1 = 7) : partsS b = part6 (isS b [6, 7]).1 b := by rw [partsS, if_pos h, if_neg h1]
theorem is67 {b : List UInt8} (h : (isS b [6, 7]).2 = 0) (h1 : ¬ (readS b).1 = 7) : (readS b).1 = 6 := by
  have := (isS_is h).2.1
  simp at this
  rcases this with h | h
  · exact h
  · exact absurd h h1
section
variable {l : Bool} {b : List UInt8}
theorem part6_no (h : (nextS l b 2 1012).2.2 = false ∨ ¬ (nextS l b 2 1012).2.1 = b.length) : part6 l b = pt0 100 := by
  rw [part6, if_neg (fun hh => by rcases h with h | h; (rw [h] at hh; exact absurd hh.1 (by decide)); exact h hh.2)]
theorem part6_ok (h : (nextS l b 2 1012).2.2 = true) (h1 : (nextS l b 2 1012).2.1 = b.length) : part6 l b = (6, [], (nextS l b 2 1012).1, l, 0) := by rw [part6, if_pos ⟨h, h1⟩]
theorem part7_no1 (h : (nextS l b 2 1000).2.2 = false) : part7 l b = pt0 100 := by
  rw [part7, if_neg (fun hh => by rw [h] at hh; exact absurd hh.1 (by decide))]
theorem part7_no (h : (nextS l b (nextS l b 2 1000).2.1 1012).2.2 = false ∨ ¬ (nextS l b (nextS l b 2 1000).2.1 1012).2.1 = b.length) : part7 l b = pt0 100 := by
  rw [part7, if_neg (fun hh => by rcases h with h | h; (rw [h] at hh; exact absurd hh.2.1 (by decide)); exact h hh.2.2)]
theorem part7_ok (h : (nextS l b 2 1000).2.2 = true) (h1 : (nextS l b (nextS l b 2 1000).2.1 1012).2.2 = true) (h2 : (nextS l b (nextS l b 2 1000).2.1 1012).2.1 = b.length) : part7 l b = (7, (nextS l b 2 1000).1, (nextS l b (nextS l b 2 1000).2.1 1012).1, l, 0) := by rw [part7, if_pos ⟨h, h1, h2⟩]
/-- how the document reads the parts -/
theorem part6_ref (h : (pss2 l b).2 = false) (h1 : (pss2 l b).1 = b.length) (h2 : (psw1 l b).1.length ≤ 1012) : part6 l b = (6, [], (psw1 l b).1, l, 0) := by
  obtain ⟨y0, y1, e0, e1, z⟩ := ps_same h
  have hc := bytes_cnt e1
  rw [y1] at h2 ⊢
  have hn := nextS_ok (most := 1012) e0 (by have : (((psu1 l b).1.length : Nat) : Int) = (psu0 l b).1 := hc; show (psu0 l b).1 ≤ 1012; omega) e1
  rw [part6_ok (by rw [hn]) (by rw [hn]; rw [z] at h1; exact h1), hn]
  rfl
theorem part6_bad (h : (pss2 l b).2 = true ∨ ¬ (pss2 l b).1 = b.length ∨ ¬ (psw1 l b).1.length ≤ 1012) : part6 l b = pt0 100 := by
  by_cases hc : (nextS l b 2 1012).2.2 = true ∧ (nextS l b 2 1012).2.1 = b.length
  · exfalso
    obtain ⟨e0, e1, e2, e3⟩ := nextS_is hc.1
    obtain ⟨y0, y1, z⟩ := ps_good (l := l) (b := b) e0 e2
    have hn := bytes_cnt e2
    have e4 := hc.2
    rw [e3] at e4
    rw [z, y1] at h
    have e5 : (((psu1 l b).1.length : Nat) : Int) ≤ 1012 := by
      have : (((psu1 l b).1.length : Nat) : Int) = (getS l 2 b 2).1 := hn
      omega
    rcases h with h | h | h
    · cases h
    · exact h e4
    · omega
  · rw [part6, if_neg hc]
theorem part7_ref (h : (pts4 l b).2 = false) (h1 : (pts4 l b).1 = b.length) (h2 : (ptw1 l b).1.length ≤ 1000) (h3 : (ptw3 l b).1.length ≤ 1012) : part7 l b = (7, (ptw1 l b).1, (ptw3 l b).1, l, 0) := by
  obtain ⟨y0, y1, y2, y3, e0, e1, e2, e3, z⟩ := pt_same h
  have hc := bytes_cnt e1
  have hd := bytes_cnt e3
  rw [y1] at h2 ⊢
  rw [y3] at h3 ⊢
  have hn := nextS_ok (most := 1000) e0 (by have : (((ptu1 l b).1.length : Nat) : Int) = (ptu0 l b).1 := hc; show (ptu0 l b).1 ≤ 1000; omega) e1
  have hm := nextS_ok (l := l) (b := b) (k := (ptu1 l b).2.1) (most := 1012) e2 (by have : (((ptu3 l b).1.length : Nat) : Int) = (ptu2 l b).1 := hd; show (ptu2 l b).1 ≤ 1012; omega) e3
  have hm' : nextS l b (nextS l b 2 1000).2.1 1012 = ((ptu3 l b).1, (ptu3 l b).2.1, true) := by rw [hn]; exact hm
  rw [part7_ok (by rw [hn]) (by rw [hm']) (by rw [hm']; rw [z] at h1; exact h1), hm', hn]
  rfl
theorem part7_bad (h : (pts4 l b).2 = true ∨ ¬ (pts4 l b).1 = b.length ∨ ¬ (ptw1 l b).1.length ≤ 1000 ∨ ¬ (ptw3 l b).1.length ≤ 1012) : part7 l b = pt0 100 := by
  by_cases hc : (nextS l b 2 1000).2.2 = true ∧ (nextS l b (nextS l b 2 1000).2.1 1012).2.2 = true ∧ (nextS l b (nextS l b 2 1000).2.1 1012).2.1 = b.length
  · exfalso
    obtain ⟨e0, e1, e2, e3⟩ := nextS_is hc.1
    have c2 := hc.2
    rw [e3] at c2
    obtain ⟨f0, f1, f2, f3⟩ := nextS_is c2.1
    obtain ⟨y0, y1, y2, y3, z⟩ := pt_good (l := l) (b := b) e0 e2 f0 f2
    have hn := bytes_cnt e2
    have hm := bytes_cnt f2
    have e4 := c2.2
    rw [f3] at e4
    rw [z, y1, y3] at h
    have e5 : (((ptu1 l b).1.length : Nat) : Int) = (getS l 2 b 2).1 := hn
    have e6 : (((ptu3 l b).1.length : Nat) : Int) = (getS l 2 b (bytesS b (getS l 2 b 2).2.1 (getS l 2 b 2).1).2.1).1 := hm
    have f1' : (getS l 2 b (bytesS b (getS l 2 b 2).2.1 (getS l 2 b 2).1).2.1).1 ≤ 1012 := f1
    rcases h with h | h | h | h
    · cases h
    · exact h e4
    · omega
    · omega
  · rw [part7, if_neg hc]
end
/-- the messages -/
def msg6 (l : Bool) (x : List UInt8) : List UInt8 := putS 6 l ++ numS l 2 (x.length : Int) ++ x
def msg7 (l : Bool) (t x : List UInt8) : List UInt8 := putS 7 l ++ numS l 2 (t.length : Int) ++ t ++ numS l 2 (x.length : Int) ++ x
theorem putS_len2 {k : Int} {l : Bool} (h1 : 1 ≤ k) (h2 : k ≤ 10) : (putS k l).length = 2 := by rw [putS_yes h1 h2]; rfl
theorem msg6_len (l : Bool) (x : List UInt8) : (msg6 l x).length = 4 + x.length := by
  have := putS_len2 (k := 6) (l := l) (by decide) (by decide)
  simp [msg6, this]; omega
theorem msg7_len (l : Bool) (t x : List UInt8) : (msg7 l t x).length = 6 + t.length + x.length := by
  have := putS_len2 (k := 7) (l := l) (by decide) (by decide)
  simp [msg7, this]; omega
theorem next_at {l : Bool} {b x r : List UInt8} {k most : Int} (h : Sfx b k (numS l 2 (x.length : Int) ++ (x ++ r))) (h1 : (x.length : Int) ≤ most) (h2 : most ≤ 65535) : ∃ K, nextS l b k most = (x, K, true) ∧ Sfx b K r := by
  obtain ⟨K, e, q⟩ := sfx_num2 h (by omega)
  obtain ⟨K', e', q'⟩ := sfx_bytes q rfl
  refine ⟨K', ?_, q'⟩
  rw [nextS_ok (by rw [e]) (by rw [e]; exact h1) (by rw [e]; exact congrArg (fun z => z.2.2) e'), e]
  simp only
  rw [e']
theorem parts_msg6 {l : Bool} {x : List UInt8} (h : x.length ≤ 1012) : partsS (msg6 l x) = (6, [], x, l, 0) := by
  have e : msg6 l x = putS 6 l ++ (numS l 2 (x.length : Int) ++ (x ++ [])) := by simp [msg6]
  have hr := readS_head e (by decide) (by decide)
  have hi := isS_ok hr (ks := [6, 7]) (by decide)
  obtain ⟨K, n1, q⟩ := next_at (most := 1012) (sfx_head e (by decide) (by decide)) (by omega) (by decide)
  rw [partsS_6 (by rw [hi]) (by rw [hr]; simp), hi]
  simp only
  rw [part6_ok (by rw [n1]) (by rw [n1]; exact sfx_end q), n1]
theorem parts_msg7 {l : Bool} {t x : List UInt8} (ht : t.length ≤ 1000) (h : x.length ≤ 1012) : partsS (msg7 l t x) = (7, t, x, l, 0) := by
  have e : msg7 l t x = putS 7 l ++ (numS l 2 (t.length : Int) ++ (t ++ (numS l 2 (x.length : Int) ++ (x ++ [])))) := by simp [msg7]
  have hr := readS_head e (by decide) (by decide)
  have hi := isS_ok hr (ks := [6, 7]) (by decide)
  obtain ⟨K, n1, q⟩ := next_at (most := 1000) (sfx_head e (by decide) (by decide)) (by omega) (by decide)
  obtain ⟨K', n2, q'⟩ := next_at (most := 1012) q (by omega) (by decide)
  rw [partsS_7 (by rw [hi]) (by rw [hr]), hi]
  simp only
  rw [part7_ok (by rw [n1]) (by rw [n1]; simp only; rw [n2]) (by rw [n1]; simp only; rw [n2]; exact sfx_end q'), n1]
  simp only
  rw [n2]
/-- what is made -/
def mk6 (l : Bool) (k : Int) (N : List UInt8 × Int) : List UInt8 × Int := if (sealS 5 k N).2 = 0 then (msg6 l (sealS 5 k N).1, 0) else ([], (sealS 5 k N).2)
def mk7 (l : Bool) (k : Int) (N : List UInt8 × Int) : List UInt8 × Int := if (sealS 6 k N).2 = 0 then (msg7 l N.1 (sealS 6 k N).1, 0) else ([], (sealS 6 k N).2)
section
variable {l : Bool} {k : Int} {N : List UInt8 × Int}
theorem mk6_ok (h : (sealS 5 k N).2 = 0) : mk6 l k N = (msg6 l (sealS 5 k N).1, 0) := by rw [mk6, if_pos h]
theorem mk6_no (h : ¬ (sealS 5 k N).2 = 0) : mk6 l k N = ([], (sealS 5 k N).2) := by rw [mk6, if_neg h]
theorem mk7_ok (h : (sealS 6 k N).2 = 0) : mk7 l k N = (msg7 l N.1 (sealS 6 k N).1, 0) := by rw [mk7, if_pos h]
theorem mk7_no (h : ¬ (sealS 6 k N).2 = 0) : mk7 l k N = ([], (sealS 6 k N).2) := by rw [mk7, if_neg h]
theorem mk6_len : (mk6 l k N).1.length ≤ 1016 := by
  unfold mk6
  split
  · have := sealS_len 5 k N
    rw [msg6_len]; omega
  · simp
theorem mk7_len (h : N.1.length ≤ 1000) : (mk7 l k N).1.length ≤ 2018 := by
  unfold mk7
  split
  · have := sealS_len 6 k N
    rw [msg7_len]; omega
  · simp
end
/-- what is opened -/
def cont (l : Bool) (t : List UInt8) : PrT × Int := if (prD l t).2 = 0 then ((prD l t).1, 0) else (pr0, 41)
theorem cont_yes {l : Bool} {t : List UInt8} (h : (prD l t).2 = 0) : cont l t = ((prD l t).1, 0) := by rw [cont, if_pos h]
theorem cont_no {l : Bool} {t : List UInt8} (h : ¬ (prD l t).2 = 0) : cont l t = (pr0, 41) := by rw [cont, if_neg h]
def openP (b : List UInt8) (k : Int) : PrT × Int :=
  if (partsS b).2.2.2.2 = 0 then (if (partsS b).1 = 6 then (if (boxO (partsS b).2.2.1 5 k).2 = true then cont (partsS b).2.2.2.1 (boxO (partsS b).2.2.1 5 k).1 else (pr0, 41)) else (pr0, 40)) else (pr0, (partsS b).2.2.2.2)
def openS (b : List UInt8) (k : Int) : PrT × Int :=
  if (partsS b).2.2.2.2 = 0 then (if (partsS b).1 = 7 then (if (boxO (partsS b).2.2.1 6 k).2 = true ∧ (boxO (partsS b).2.2.1 6 k).1 = (partsS b).2.1 then cont (partsS b).2.2.2.1 (partsS b).2.1 else (pr0, 41)) else (pr0, 40)) else (pr0, (partsS b).2.2.2.2)
section
variable {b : List UInt8} {k : Int}
theorem openP_e (h : ¬ (partsS b).2.2.2.2 = 0) : openP b k = (pr0, (partsS b).2.2.2.2) := by rw [openP, if_neg h]
theorem openP_t (h : (partsS b).2.2.2.2 = 0) (h1 : ¬ (partsS b).1 = 6) : openP b k = (pr0, 40) := by rw [openP, if_pos h, if_neg h1]
theorem openP_m (h : (partsS b).2.2.2.2 = 0) (h1 : (partsS b).1 = 6) (h2 : (boxO (partsS b).2.2.1 5 k).2 = false) : openP b k = (pr0, 41) := by rw [openP, if_pos h, if_pos h1, if_neg (by rw [h2]; decide)]
theorem openP_c (h : (partsS b).2.2.2.2 = 0) (h1 : (partsS b).1 = 6) (h2 : (boxO (partsS b).2.2.1 5 k).2 = true) : openP b k = cont (partsS b).2.2.2.1 (boxO (partsS b).2.2.1 5 k).1 := by rw [openP, if_pos h, if_pos h1, if_pos h2]
theorem openS_e (h : ¬ (partsS b).2.2.2.2 = 0) : openS b k = (pr0, (partsS b).2.2.2.2) := by rw [openS, if_neg h]
theorem openS_t (h : (partsS b).2.2.2.2 = 0) (h1 : ¬ (partsS b).1 = 7) : openS b k = (pr0, 40) := by rw [openS, if_pos h, if_neg h1]
theorem openS_m (h : (partsS b).2.2.2.2 = 0) (h1 : (partsS b).1 = 7) (h2 : (boxO (partsS b).2.2.1 6 k).2 = false ∨ ¬ (boxO (partsS b).2.2.1 6 k).1 = (partsS b).2.1) : openS b k = (pr0, 41) := by
  rw [openS, if_pos h, if_pos h1, if_neg (fun hh => by rcases h2 with h2 | h2; (rw [h2] at hh; exact absurd hh.1 (by decide)); exact h2 hh.2)]
theorem openS_c (h : (partsS b).2.2.2.2 = 0) (h1 : (partsS b).1 = 7) (h2 : (boxO (partsS b).2.2.1 6 k).2 = true) (h3 : (boxO (partsS b).2.2.1 6 k).1 = (partsS b).2.1) : openS b k = cont (partsS b).2.2.2.1 (partsS b).2.1 := by rw [openS, if_pos h, if_pos h1, if_pos ⟨h2, h3⟩]
end
/-- the kinds are those of the header -/
theorem parts_kind {b : List UInt8} (h : (partsS b).2.2.2.2 = 0) : (partsS b).1 = (readS b).1 := by
  by_cases h1 : (isS b [6, 7]).2 = 0
  · by_cases h2 : (readS b).1 = 7
    · rw [partsS_7 h1 h2] at h ⊢
      unfold part7 at h ⊢
      split at h
      · rename_i hh; rw [if_pos hh, h2]
      · cases h
    · rw [partsS_6 h1 h2] at h ⊢
      unfold part6 at h ⊢
      split at h
      · rename_i hh; rw [if_pos hh, is67 h1 h2]
      · cases h
  · rw [partsS_e h1] at h
    exact absurd h h1
end Go.Sx

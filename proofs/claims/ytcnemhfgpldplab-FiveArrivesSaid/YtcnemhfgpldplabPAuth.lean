/-
  What authenticators are, as plain functions: for every input.
-/
import Derived.Test.YtcnemhfgpldplabPTrip
set_option linter.all false
namespace Go.Sx

def authC (x y z : List UInt8) (ck tk tm : Int) : Int := if validS x y z = true then (if (0 ≤ ck ∧ ck ≤ 4294967295) ∧ (0 ≤ tk ∧ tk ≤ 199) ∧ (0 ≤ tm ∧ tm ≤ 4294967295) then 0 else 104) else 103
theorem authC_0 {x y z : List UInt8} {ck tk tm : Int} (h : validS x y z = true) (h1 : 0 ≤ ck ∧ ck ≤ 4294967295) (h2 : 0 ≤ tk ∧ tk ≤ 199) (h3 : 0 ≤ tm ∧ tm ≤ 4294967295) : authC x y z ck tk tm = 0 := by rw [authC, if_pos h, if_pos ⟨h1, h2, h3⟩]
theorem authC_4 {x y z : List UInt8} {ck tk tm : Int} (h : validS x y z = true) (h1 : ¬ ((0 ≤ ck ∧ ck ≤ 4294967295) ∧ (0 ≤ tk ∧ tk ≤ 199) ∧ (0 ≤ tm ∧ tm ≤ 4294967295))) : authC x y z ck tk tm = 104 := by rw [authC, if_pos h, if_neg h1]
theorem authC_3 {x y z : List UInt8} {ck tk tm : Int} (h : validS x y z = false) : authC x y z ck tk tm = 103 := by rw [authC, if_neg (by simp [h])]
theorem authC_ok {x y z : List UInt8} {ck tk tm : Int} (h : authC x y z ck tk tm = 0) : validS x y z = true ∧ (0 ≤ ck ∧ ck ≤ 4294967295) ∧ (0 ≤ tk ∧ tk ≤ 199) ∧ (0 ≤ tm ∧ tm ≤ 4294967295) := by
  unfold authC at h
  split at h
  · rename_i hv
    split at h
    · rename_i hr; exact ⟨hv, hr⟩
    · cases h
  · cases h
def ordN (l : Bool) : Int := if l then 1 else 0
def authB (l : Bool) (x y z : List UInt8) (ck tk tm : Int) : List UInt8 := [] ++ numS false 1 (ordN l) ++ x ++ [0] ++ y ++ [0] ++ z ++ [0] ++ numS l 4 ck ++ numS false 1 tk ++ numS l 4 tm
def authE (l : Bool) (x y z : List UInt8) (ck tk tm : Int) : List UInt8 := padS (authB l x y z ck tk tm)
theorem authB_len (l : Bool) (x y z : List UInt8) (ck tk tm : Int) : (authB l x y z ck tk tm).length = 0 + 1 + x.length + 1 + y.length + 1 + z.length + 1 + 4 + 1 + 4 := by simp [authB]; omega
def authN (l : Bool) (x y z : List UInt8) (ck tk tm : Int) : List UInt8 × Int := if authC x y z ck tk tm = 0 then (authE l x y z ck tk tm, 0) else ([], authC x y z ck tk tm)
theorem authN_ok {l : Bool} {x y z : List UInt8} {ck tk tm : Int} (h : authC x y z ck tk tm = 0) : authN l x y z ck tk tm = (authE l x y z ck tk tm, 0) := by rw [authN, if_pos h]
theorem authN_no {l : Bool} {x y z : List UInt8} {ck tk tm : Int} (h : ¬ authC x y z ck tk tm = 0) : authN l x y z ck tk tm = ([], authC x y z ck tk tm) := by rw [authN, if_neg h]
theorem authN_is {l : Bool} {x y z : List UInt8} {ck tk tm : Int} (h : (authN l x y z ck tk tm).2 = 0) : authC x y z ck tk tm = 0 := by
  by_cases hc : authC x y z ck tk tm = 0
  · exact hc
  · rw [authN_no hc] at h; exact h

/-- what the program reads -/
def aP (b : List UInt8) := prinS b 1
def aC (l : Bool) (b : List UInt8) := getS l 4 b (aP b).2.1
def aT (l : Bool) (b : List UInt8) := getS false 1 b (aC l b).2.1
def aM (l : Bool) (b : List UInt8) := getS l 4 b (aT l b).2.1
abbrev AuthT := List UInt8 × List UInt8 × List UInt8 × Int × Int × Int
def authD (l : Bool) (b : List UInt8) : AuthT × Int :=
  if (authN l (aP b).1.1 (aP b).1.2.1 (aP b).1.2.2 (aC l b).1 (aT l b).1 (aM l b).1).2 = 0 ∧ (authN l (aP b).1.1 (aP b).1.2.1 (aP b).1.2.2 (aC l b).1 (aT l b).1 (aM l b).1).1 = b
  then (((aP b).1.1, (aP b).1.2.1, (aP b).1.2.2, (aC l b).1, (aT l b).1, (aM l b).1), 0) else (([], [], [], 0, 0, 0), 100)
theorem auth_parts (l : Bool) {b : List UInt8} {x y z : List UInt8} {ck tk tm : Int} (hv : authC x y z ck tk tm = 0) (hb : authE l x y z ck tk tm = b) :
    getS false 1 b 0 = (ordN l, 1, 0) ∧ textS b 1 = (x, 1 + (x.length : Int) + 1, 0) ∧ textS b (1 + (x.length : Int) + 1) = (y, 1 + (x.length : Int) + 1 + (y.length : Int) + 1, 0) ∧ textS b (1 + (x.length : Int) + 1 + (y.length : Int) + 1) = (z, 1 + (x.length : Int) + 1 + (y.length : Int) + 1 + (z.length : Int) + 1, 0) ∧
    prinS b 1 = ((x, y, z), 1 + (x.length : Int) + 1 + (y.length : Int) + 1 + (z.length : Int) + 1, 0) ∧
    getS l 4 b (1 + (x.length : Int) + 1 + (y.length : Int) + 1 + (z.length : Int) + 1) = (ck, 1 + (x.length : Int) + 1 + (y.length : Int) + 1 + (z.length : Int) + 1 + 4, 0) ∧
    getS false 1 b (1 + (x.length : Int) + 1 + (y.length : Int) + 1 + (z.length : Int) + 1 + 4) = (tk, 1 + (x.length : Int) + 1 + (y.length : Int) + 1 + (z.length : Int) + 1 + 4 + 1, 0) ∧
    getS l 4 b (1 + (x.length : Int) + 1 + (y.length : Int) + 1 + (z.length : Int) + 1 + 4 + 1) = (tm, 1 + (x.length : Int) + 1 + (y.length : Int) + 1 + (z.length : Int) + 1 + 4 + 1 + 4, 0) := by
  obtain ⟨h1, h2, h3, h4⟩ := authC_ok hv
  have ho : 0 ≤ ordN l ∧ ordN l ≤ 255 := by cases l <;> simp [ordN]
  generalize hp : List.replicate (padN (authB l x y z ck tk tm).length) (0 : UInt8) = pd
  have e : b = numS false 1 (ordN l) ++ x ++ [0] ++ y ++ [0] ++ z ++ [0] ++ numS l 4 ck ++ numS false 1 tk ++ numS l 4 tm ++ pd := by
    rw [← hb, authE, padS, hp, authB]; simp
  obtain ⟨t1, t2, t3⟩ := prin_texts (b := b) (p := numS false 1 (ordN l)) (r := numS l 4 ck ++ numS false 1 tk ++ numS l 4 tm ++ pd) (k := 1) (by rw [e]; simp) (by simp) h1
  refine ⟨?_, t1, t2, t3, ?_, ?_, ?_, ?_⟩
  · exact getS1_at (p := []) (r := x ++ [0] ++ y ++ [0] ++ z ++ [0] ++ numS l 4 ck ++ numS false 1 tk ++ numS l 4 tm ++ pd) (by rw [e]; simp) rfl ho
  · exact prinS_at (p := numS false 1 (ordN l)) (r := numS l 4 ck ++ numS false 1 tk ++ numS l 4 tm ++ pd) (by rw [e]; simp) (by simp) h1
  · exact getS4_at (p := numS false 1 (ordN l) ++ x ++ [0] ++ y ++ [0] ++ z ++ [0]) (r := numS false 1 tk ++ numS l 4 tm ++ pd) (by rw [e]; simp) (by simp; omega) h2
  · exact getS1_at (p := numS false 1 (ordN l) ++ x ++ [0] ++ y ++ [0] ++ z ++ [0] ++ numS l 4 ck) (r := numS l 4 tm ++ pd) (by rw [e]; simp) (by simp; omega) (by omega)
  · exact getS4_at (p := numS false 1 (ordN l) ++ x ++ [0] ++ y ++ [0] ++ z ++ [0] ++ numS l 4 ck ++ numS false 1 tk) (r := pd) (by first | (rw [e]; done) | (rw [e]; simp; done)) (by simp; omega) h4
theorem authD_trip {l : Bool} {b : List UInt8} {x y z : List UInt8} {ck tk tm : Int} (hv : authC x y z ck tk tm = 0) (hb : authE l x y z ck tk tm = b) : authD l b = ((x, y, z, ck, tk, tm), 0) := by
  obtain ⟨_, _, _, _, h1, h2, h3, h4⟩ := auth_parts l hv hb
  unfold authD aM aT aC aP
  simp only [h1, h2, h3, h4]
  rw [authN_ok hv, if_pos ⟨rfl, hb⟩]
/-- how the document reads -/
def rA0 (b : List UInt8) : Int := mvA 0 false (getS false 1 b 0).2.1 (getS false 1 b 0).2.2
def rB0 (b : List UInt8) : Bool := mvB false (getS false 1 b 0).2.2
def rA1 (b : List UInt8) : Int := mvA (rA0 b) (rB0 b) (textS b (rA0 b)).2.1 (textS b (rA0 b)).2.2
def rB1 (b : List UInt8) : Bool := mvB (rB0 b) (textS b (rA0 b)).2.2
def rA2 (b : List UInt8) : Int := mvA (rA1 b) (rB1 b) (textS b (rA1 b)).2.1 (textS b (rA1 b)).2.2
def rB2 (b : List UInt8) : Bool := mvB (rB1 b) (textS b (rA1 b)).2.2
def rA3 (b : List UInt8) : Int := mvA (rA2 b) (rB2 b) (textS b (rA2 b)).2.1 (textS b (rA2 b)).2.2
def rB3 (b : List UInt8) : Bool := mvB (rB2 b) (textS b (rA2 b)).2.2
def rA4 (l : Bool) (b : List UInt8) : Int := mvA (rA3 b) (rB3 b) (getS l 4 b (rA3 b)).2.1 (getS l 4 b (rA3 b)).2.2
def rB4 (l : Bool) (b : List UInt8) : Bool := mvB (rB3 b) (getS l 4 b (rA3 b)).2.2
def rA5 (l : Bool) (b : List UInt8) : Int := mvA (rA4 l b) (rB4 l b) (getS false 1 b (rA4 l b)).2.1 (getS false 1 b (rA4 l b)).2.2
def rB5 (l : Bool) (b : List UInt8) : Bool := mvB (rB4 l b) (getS false 1 b (rA4 l b)).2.2
def rA6 (l : Bool) (b : List UInt8) : Int := mvA (rA5 l b) (rB5 l b) (getS l 4 b (rA5 l b)).2.1 (getS l 4 b (rA5 l b)).2.2
def rB6 (l : Bool) (b : List UInt8) : Bool := mvB (rB5 l b) (getS l 4 b (rA5 l b)).2.2
theorem rA_bounds (l : Bool) (b : List UInt8) : (0 ≤ rA0 b ∧ rA0 b ≤ b.length) ∧ (0 ≤ rA1 b ∧ rA1 b ≤ b.length) ∧ (0 ≤ rA2 b ∧ rA2 b ≤ b.length) ∧ (0 ≤ rA3 b ∧ rA3 b ≤ b.length) ∧ (0 ≤ rA4 l b ∧ rA4 l b ≤ b.length) ∧ (0 ≤ rA5 l b ∧ rA5 l b ≤ b.length) := by
  have h0 : 0 ≤ rA0 b ∧ rA0 b ≤ b.length := mvA_bounds (by omega) (get_next _ _ _ _)
  have h1 : 0 ≤ rA1 b ∧ rA1 b ≤ b.length := mvA_bounds h0 (text_next _ _)
  have h2 : 0 ≤ rA2 b ∧ rA2 b ≤ b.length := mvA_bounds h1 (text_next _ _)
  have h3 : 0 ≤ rA3 b ∧ rA3 b ≤ b.length := mvA_bounds h2 (text_next _ _)
  have h4 : 0 ≤ rA4 l b ∧ rA4 l b ≤ b.length := mvA_bounds h3 (get_next _ _ _ _)
  exact ⟨h0, h1, h2, h3, h4, mvA_bounds h4 (get_next _ _ _ _)⟩
theorem auth_ref {l : Bool} {b : List UInt8} {x y z : List UInt8} {ck tk tm : Int} (hv : authC x y z ck tk tm = 0) (hb : authE l x y z ck tk tm = b) :
    (textS b (rA0 b)).1 = x ∧ (textS b (rA1 b)).1 = y ∧ (textS b (rA2 b)).1 = z ∧ (getS l 4 b (rA3 b)).1 = ck ∧ (getS false 1 b (rA4 l b)).1 = tk ∧ (getS l 4 b (rA5 l b)).1 = tm ∧ rB6 l b = false := by
  obtain ⟨h0, t1, t2, t3, _, h2, h3, h4⟩ := auth_parts l hv hb
  have a0 : rA0 b = 1 := by rw [rA0, h0]; rfl
  have b0 : rB0 b = false := by rw [rB0, h0]; rfl
  have a1 : rA1 b = 1 + (x.length : Int) + 1 := by rw [rA1, a0, b0, t1]; exact mvA_ok _ _
  have b1 : rB1 b = false := by rw [rB1, a0, b0, t1]; rfl
  have a2 : rA2 b = 1 + (x.length : Int) + 1 + (y.length : Int) + 1 := by rw [rA2, a1, b1, t2]; exact mvA_ok _ _
  have b2 : rB2 b = false := by rw [rB2, a1, b1, t2]; rfl
  have a3 : rA3 b = 1 + (x.length : Int) + 1 + (y.length : Int) + 1 + (z.length : Int) + 1 := by rw [rA3, a2, b2, t3]; exact mvA_ok _ _
  have b3 : rB3 b = false := by rw [rB3, a2, b2, t3]; rfl
  have a4 : rA4 l b = 1 + (x.length : Int) + 1 + (y.length : Int) + 1 + (z.length : Int) + 1 + 4 := by rw [rA4, a3, b3, h2]; exact mvA_ok _ _
  have b4 : rB4 l b = false := by rw [rB4, a3, b3, h2]; rfl
  have a5 : rA5 l b = 1 + (x.length : Int) + 1 + (y.length : Int) + 1 + (z.length : Int) + 1 + 4 + 1 := by rw [rA5, a4, b4, h3]; exact mvA_ok _ _
  have b5 : rB5 l b = false := by rw [rB5, a4, b4, h3]; rfl
  have b6 : rB6 l b = false := by rw [rB6, a5, b5, h4]; rfl
  rw [a0, a1, a2, a3, a4, a5, t1, t2, t3, h2, h3, h4]
  exact ⟨rfl, rfl, rfl, rfl, rfl, rfl, b6⟩
def rAN (l : Bool) (b : List UInt8) : List UInt8 × Int := authN l (textS b (rA0 b)).1 (textS b (rA1 b)).1 (textS b (rA2 b)).1 (getS l 4 b (rA3 b)).1 (getS false 1 b (rA4 l b)).1 (getS l 4 b (rA5 l b)).1
theorem authD_is {l : Bool} {b : List UInt8} (h : ¬ authD l b = (([], [], [], 0, 0, 0), 100)) : ∃ x y z ck tk tm, authC x y z ck tk tm = 0 ∧ authE l x y z ck tk tm = b := by
  unfold authD at h
  split at h
  · rename_i hh
    have hc := authN_is hh.1
    refine ⟨_, _, _, _, _, _, hc, ?_⟩
    rw [authN_ok hc] at hh
    exact hh.2
  · exact absurd rfl h
theorem authD_ref {l : Bool} {b : List UInt8} (h1 : rB6 l b = false) (h2 : (rAN l b).2 = 0) (h3 : (rAN l b).1 = b) : authD l b = (((textS b (rA0 b)).1, (textS b (rA1 b)).1, (textS b (rA2 b)).1, (getS l 4 b (rA3 b)).1, (getS false 1 b (rA4 l b)).1, (getS l 4 b (rA5 l b)).1), 0) := by
  have hc := authN_is (l := l) h2
  refine authD_trip hc ?_
  rw [rAN, authN_ok hc] at h3
  exact h3
theorem authD_bad {l : Bool} {b : List UInt8} (h : rB6 l b = true ∨ ¬ (rAN l b).2 = 0 ∨ ¬ (rAN l b).1 = b) : authD l b = (([], [], [], 0, 0, 0), 100) := by
  by_cases hd : authD l b = (([], [], [], 0, 0, 0), 100)
  · exact hd
  · exfalso
    obtain ⟨x, y, z, ck, tk, tm, hv, hb⟩ := authD_is hd
    obtain ⟨e1, e2, e3, e4, e5, e6, e7⟩ := auth_ref hv hb
    have e : rAN l b = (b, 0) := by rw [rAN, e1, e2, e3, e4, e5, e6, authN_ok hv, hb]
    rw [e, e7] at h
    simp at h
/-- in the other byte order nothing is decoded -/
theorem authD_other {l : Bool} {b : List UInt8} {x y z : List UInt8} {ck tk tm : Int} (hv : authC x y z ck tk tm = 0) (hb : authE l x y z ck tk tm = b) : authD (!l) b = (([], [], [], 0, 0, 0), 100) := by
  by_cases hd : authD (!l) b = (([], [], [], 0, 0, 0), 100)
  · exact hd
  · exfalso
    obtain ⟨x', y', z', ck', tk', tm', hv', hb'⟩ := authD_is hd
    have h1 := (auth_parts l hv hb).1
    have h2 := (auth_parts (!l) hv' hb').1
    rw [h1] at h2
    cases l <;> simp [ordN] at h2
theorem authE_len {l : Bool} {x y z : List UInt8} {ck tk tm : Int} (hv : authC x y z ck tk tm = 0) : (authE l x y z ck tk tm).length ≤ 140 := by
  have h := valid_len (authC_ok hv).1
  have hp := padN_lt (authB l x y z ck tk tm).length
  rw [authE, padS_len, authB_len]
  rw [authB_len] at hp
  omega
end Go.Sx

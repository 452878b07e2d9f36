/-
  What tickets are, as plain functions: for every input.
-/
import Derived.Test.YtcnemhfgpldplabPAuth
import Derived.Test.YtcnemhfgpldplabPKey
set_option linter.all false
namespace Go.Sx

def tickR (ad lf is : Int) : Prop := (0 ≤ ad ∧ ad ≤ 4294967295) ∧ (0 ≤ lf ∧ lf ≤ 255) ∧ (0 ≤ is ∧ is ≤ 4294967295)
instance (ad lf is : Int) : Decidable (tickR ad lf is) := by unfold tickR; infer_instance
def tickC (x y z : List UInt8) (ad se lf is : Int) (sn si : List UInt8) : Int :=
  if validS x y z = true ∧ nameS sn = true ∧ instS si = true then (if classS se = 2 then (if tickR ad lf is then 0 else 104) else 10) else 103
theorem tickC_3 {x y z : List UInt8} {ad se lf is : Int} {sn si : List UInt8} (h : validS x y z = false ∨ nameS sn = false ∨ instS si = false) : tickC x y z ad se lf is sn si = 103 := by
  rw [tickC, if_neg]
  rintro ⟨h1, h2, h3⟩
  rcases h with h | h | h
  · rw [h] at h1; cases h1
  · rw [h] at h2; cases h2
  · rw [h] at h3; cases h3
theorem tickC_10 {x y z : List UInt8} {ad se lf is : Int} {sn si : List UInt8} (h1 : validS x y z = true) (h2 : nameS sn = true) (h3 : instS si = true) (h : ¬ classS se = 2) : tickC x y z ad se lf is sn si = 10 := by
  rw [tickC, if_pos ⟨h1, h2, h3⟩, if_neg h]
theorem tickC_4 {x y z : List UInt8} {ad se lf is : Int} {sn si : List UInt8} (h1 : validS x y z = true) (h2 : nameS sn = true) (h3 : instS si = true) (h : classS se = 2) (hr : ¬ ((0 ≤ ad ∧ ad ≤ 4294967295) ∧ (0 ≤ lf ∧ lf ≤ 255) ∧ (0 ≤ is ∧ is ≤ 4294967295))) : tickC x y z ad se lf is sn si = 104 := by
  rw [tickC, if_pos ⟨h1, h2, h3⟩, if_pos h, if_neg (show ¬ tickR ad lf is from hr)]
theorem tickC_0 {x y z : List UInt8} {ad se lf is : Int} {sn si : List UInt8} (h1 : validS x y z = true) (h2 : nameS sn = true) (h3 : instS si = true) (h : classS se = 2) (ha : 0 ≤ ad ∧ ad ≤ 4294967295) (hl : 0 ≤ lf ∧ lf ≤ 255) (hi : 0 ≤ is ∧ is ≤ 4294967295) : tickC x y z ad se lf is sn si = 0 := by
  rw [tickC, if_pos ⟨h1, h2, h3⟩, if_pos h, if_pos (show tickR ad lf is from ⟨ha, hl, hi⟩)]
theorem tickC_ok {x y z : List UInt8} {ad se lf is : Int} {sn si : List UInt8} (h : tickC x y z ad se lf is sn si = 0) : validS x y z = true ∧ nameS sn = true ∧ instS si = true ∧ classS se = 2 ∧ (0 ≤ ad ∧ ad ≤ 4294967295) ∧ (0 ≤ lf ∧ lf ≤ 255) ∧ (0 ≤ is ∧ is ≤ 4294967295) := by
  unfold tickC at h
  split at h
  · rename_i hv
    split at h
    · rename_i hc
      split at h
      · rename_i hr; exact ⟨hv.1, hv.2.1, hv.2.2, hc, hr⟩
      · cases h
    · cases h
  · cases h
theorem class_ok {k : Int} (h : classS k = 2) : keyOk k = true := by
  unfold classS at h
  split at h
  · assumption
  · cases h
def tickB (li : Bool) (x y z : List UInt8) (ad se lf is : Int) (sn si : List UInt8) : List UInt8 := [] ++ numS false 1 (ordN li) ++ x ++ [0] ++ y ++ [0] ++ z ++ [0] ++ numS li 4 ad ++ keyB se ++ numS false 1 lf ++ numS li 4 is ++ sn ++ [0] ++ si ++ [0]
def tickE (li : Bool) (x y z : List UInt8) (ad se lf is : Int) (sn si : List UInt8) : List UInt8 := padS (tickB li x y z ad se lf is sn si)
theorem tickB_len (li : Bool) (x y z : List UInt8) (ad se lf is : Int) (sn si : List UInt8) : (tickB li x y z ad se lf is sn si).length = 0 + 1 + x.length + 1 + y.length + 1 + z.length + 1 + 4 + 8 + 1 + 4 + sn.length + 1 + si.length + 1 := by simp [tickB, keyB_len]; omega
def tickN (li : Bool) (x y z : List UInt8) (ad se lf is : Int) (sn si : List UInt8) : List UInt8 × Int := if tickC x y z ad se lf is sn si = 0 then (tickE li x y z ad se lf is sn si, 0) else ([], tickC x y z ad se lf is sn si)
theorem tickN_ok {li : Bool} {x y z : List UInt8} {ad se lf is : Int} {sn si : List UInt8} (h : tickC x y z ad se lf is sn si = 0) : tickN li x y z ad se lf is sn si = (tickE li x y z ad se lf is sn si, 0) := by rw [tickN, if_pos h]
theorem tickN_no {li : Bool} {x y z : List UInt8} {ad se lf is : Int} {sn si : List UInt8} (h : ¬ tickC x y z ad se lf is sn si = 0) : tickN li x y z ad se lf is sn si = ([], tickC x y z ad se lf is sn si) := by rw [tickN, if_neg h]
theorem tickN_is {li : Bool} {x y z : List UInt8} {ad se lf is : Int} {sn si : List UInt8} (h : (tickN li x y z ad se lf is sn si).2 = 0) : tickC x y z ad se lf is sn si = 0 := by
  by_cases hc : tickC x y z ad se lf is sn si = 0
  · exact hc
  · rw [tickN_no hc] at h; exact h
theorem tickE_len {li : Bool} {x y z : List UInt8} {ad se lf is : Int} {sn si : List UInt8} (hv : tickC x y z ad se lf is sn si = 0) : 0 < (tickE li x y z ad se lf is sn si).length ∧ (tickE li x y z ad se lf is sn si).length ≤ 224 := by
  obtain ⟨h1, h2, h3, _⟩ := tickC_ok hv
  have h := valid_len h1
  have h4 := name_len h2
  have h5 := inst_len h3
  have hp : padN (tickB li x y z ad se lf is sn si).length = (8 - (tickB li x y z ad se lf is sn si).length % 8) % 8 := rfl
  rw [tickE, padS_len]
  rw [tickB_len] at hp ⊢
  omega
/-- what the program reads -/
def uO (b : List UInt8) := getS false 1 b 0
def uB (b : List UInt8) : Bool := (uO b).1 == 1
def uP (b : List UInt8) := prinS b (uO b).2.1
def uA (b : List UInt8) := getS (uB b) 4 b (uP b).2.1
def uK (b : List UInt8) := bytesS b (uA b).2.1 8
def uS (b : List UInt8) := readK (uK b).1
def uL (b : List UInt8) := getS false 1 b (uK b).2.1
def uI (b : List UInt8) := getS (uB b) 4 b (uL b).2.1
def uN (b : List UInt8) := textS b (uI b).2.1
def uM (b : List UInt8) := textS b (uN b).2.1
abbrev TickT := Bool × List UInt8 × List UInt8 × List UInt8 × Int × Int × Int × Int × List UInt8 × List UInt8
def tick0 : TickT := (false, [], [], [], 0, 0, 0, 0, [], [])
def uT (b : List UInt8) : TickT := (uB b, (uP b).1.1, (uP b).1.2.1, (uP b).1.2.2, (uA b).1, (uS b).1, (uL b).1, (uI b).1, (uN b).1, (uM b).1)
def uE (b : List UInt8) : List UInt8 × Int := tickN (uB b) (uP b).1.1 (uP b).1.2.1 (uP b).1.2.2 (uA b).1 (uS b).1 (uL b).1 (uI b).1 (uN b).1 (uM b).1
def tickD (b : List UInt8) : TickT × Int := if (uO b).1 > 1 then (tick0, 7) else if (uE b).2 = 0 ∧ (uE b).1 = b then (uT b, 0) else (tick0, 100)
theorem tickD_7 {b : List UInt8} (h : (uO b).1 > 1) : tickD b = (tick0, 7) := by rw [tickD, if_pos h]
theorem tickD_yes {b : List UInt8} (h0 : ¬ (uO b).1 > 1) (h1 : (uE b).2 = 0) (h2 : (uE b).1 = b) : tickD b = (uT b, 0) := by rw [tickD, if_neg h0, if_pos ⟨h1, h2⟩]
theorem tickD_no {b : List UInt8} (h0 : ¬ (uO b).1 > 1) (h : ¬ (uE b).2 = 0 ∨ ¬ (uE b).1 = b) : tickD b = (tick0, 100) := by
  rw [tickD, if_neg h0, if_neg (fun hh => by rcases h with h | h; exact h hh.1; exact h hh.2)]
theorem tick_parts {li : Bool} {b : List UInt8} {x y z : List UInt8} {ad se lf is : Int} {sn si : List UInt8} (hse : 0 ≤ se ∧ se ≤ 18446744073709551615) (hv : tickC x y z ad se lf is sn si = 0) (hb : tickE li x y z ad se lf is sn si = b) :
    getS false 1 b 0 = (ordN li, 1, 0) ∧ textS b 1 = (x, 1 + (x.length : Int) + 1, 0) ∧ textS b (1 + (x.length : Int) + 1) = (y, 1 + (x.length : Int) + 1 + (y.length : Int) + 1, 0) ∧ textS b (1 + (x.length : Int) + 1 + (y.length : Int) + 1) = (z, 1 + (x.length : Int) + 1 + (y.length : Int) + 1 + (z.length : Int) + 1, 0) ∧
    prinS b 1 = ((x, y, z), 1 + (x.length : Int) + 1 + (y.length : Int) + 1 + (z.length : Int) + 1, 0) ∧
    ∀ k : Int, k = 1 + (x.length : Int) + 1 + (y.length : Int) + 1 + (z.length : Int) + 1 →
    getS li 4 b k = (ad, k + 4, 0) ∧ bytesS b (k + 4) 8 = (keyB se, k + 4 + 8, 0) ∧ getS false 1 b (k + 4 + 8) = (lf, k + 4 + 8 + 1, 0) ∧ getS li 4 b (k + 4 + 8 + 1) = (is, k + 4 + 8 + 1 + 4, 0) ∧
    textS b (k + 4 + 8 + 1 + 4) = (sn, k + 4 + 8 + 1 + 4 + sn.length + 1, 0) ∧ textS b (k + 4 + 8 + 1 + 4 + sn.length + 1) = (si, k + 4 + 8 + 1 + 4 + sn.length + 1 + si.length + 1, 0) := by
  obtain ⟨h1, h2, h3, h4, h5, h6, h7⟩ := tickC_ok hv
  have ho : 0 ≤ ordN li ∧ ordN li ≤ 255 := by cases li <;> simp [ordN]
  generalize hp : List.replicate (padN (tickB li x y z ad se lf is sn si).length) (0 : UInt8) = pd
  have e : b = numS false 1 (ordN li) ++ x ++ [0] ++ y ++ [0] ++ z ++ [0] ++ numS li 4 ad ++ keyB se ++ numS false 1 lf ++ numS li 4 is ++ sn ++ [0] ++ si ++ [0] ++ pd := by
    rw [← hb, tickE, padS, hp, tickB]; simp
  obtain ⟨t1, t2, t3⟩ := prin_texts (b := b) (p := numS false 1 (ordN li)) (r := numS li 4 ad ++ keyB se ++ numS false 1 lf ++ numS li 4 is ++ sn ++ [0] ++ si ++ [0] ++ pd) (k := 1) (by rw [e]; simp) (by simp) h1
  refine ⟨?_, t1, t2, t3, ?_, ?_⟩
  · exact getS1_at (p := []) (r := x ++ [0] ++ y ++ [0] ++ z ++ [0] ++ numS li 4 ad ++ keyB se ++ numS false 1 lf ++ numS li 4 is ++ sn ++ [0] ++ si ++ [0] ++ pd) (by rw [e]; simp) rfl ho
  · exact prinS_at (p := numS false 1 (ordN li)) (r := numS li 4 ad ++ keyB se ++ numS false 1 lf ++ numS li 4 is ++ sn ++ [0] ++ si ++ [0] ++ pd) (by rw [e]; simp) (by simp) h1
  · intro k hk
    generalize hq : numS false 1 (ordN li) ++ x ++ [0] ++ y ++ [0] ++ z ++ [0] = q at e
    have hql : k = q.length := by rw [← hq]; simp; omega
    refine ⟨?_, ?_, ?_, ?_, ?_, ?_⟩
    · exact getS4_at (p := q) (r := keyB se ++ numS false 1 lf ++ numS li 4 is ++ sn ++ [0] ++ si ++ [0] ++ pd) (by rw [e]; simp) hql h5
    · exact bytesS_at (p := q ++ numS li 4 ad) (r := numS false 1 lf ++ numS li 4 is ++ sn ++ [0] ++ si ++ [0] ++ pd) (by rw [e]; simp) (by simp; omega) rfl
    · exact getS1_at (p := q ++ numS li 4 ad ++ keyB se) (r := numS li 4 is ++ sn ++ [0] ++ si ++ [0] ++ pd) (by rw [e]; simp) (by simp [keyB_len]; omega) (by omega)
    · exact getS4_at (p := q ++ numS li 4 ad ++ keyB se ++ numS false 1 lf) (r := sn ++ [0] ++ si ++ [0] ++ pd) (by rw [e]; simp) (by simp [keyB_len]; omega) h7
    · exact textS_at (p := q ++ numS li 4 ad ++ keyB se ++ numS false 1 lf ++ numS li 4 is) (r := si ++ [0] ++ pd) (by rw [e]; simp) (by simp [keyB_len]; omega) (name_len h2) (name_nz h2)
    · exact textS_at (p := q ++ numS li 4 ad ++ keyB se ++ numS false 1 lf ++ numS li 4 is ++ sn ++ [0]) (r := pd) (by rw [e]; simp) (by simp [keyB_len]; omega) (inst_len h3) (inst_nz h3)
theorem ord_eq (li : Bool) : (ordN li == 1) = li := by cases li <;> rfl
theorem tickD_trip {li : Bool} {b : List UInt8} {x y z : List UInt8} {ad se lf is : Int} {sn si : List UInt8} (hse : 0 ≤ se ∧ se ≤ 18446744073709551615) (hv : tickC x y z ad se lf is sn si = 0) (hb : tickE li x y z ad se lf is sn si = b) : tickD b = ((li, x, y, z, ad, se, lf, is, sn, si), 0) := by
  obtain ⟨h0, _, _, _, h1, hh⟩ := tick_parts hse hv hb
  obtain ⟨K, hK⟩ : ∃ K : Int, K = 1 + (x.length : Int) + 1 + (y.length : Int) + 1 + (z.length : Int) + 1 := ⟨_, rfl⟩
  rw [← hK] at h1
  obtain ⟨h2, h3, h4, h5, h6, h7⟩ := hh K hK
  obtain ⟨_, _, _, hc, _⟩ := tickC_ok hv
  have o : uO b = (ordN li, 1, 0) := h0
  have l : uB b = li := by rw [uB, o]; exact ord_eq li
  have p : uP b = ((x, y, z), K, 0) := by rw [uP, o]; exact h1
  have a' : uA b = (ad, K + 4, 0) := by rw [uA, l, p]; exact h2
  have k' : uK b = (keyB se, K + 4 + 8, 0) := by rw [uK, a']; exact h3
  have s' : uS b = (se, true) := by rw [uS, k']; exact readK_key hse (class_ok hc)
  have l' : uL b = (lf, K + 4 + 8 + 1, 0) := by rw [uL, k']; exact h4
  have i' : uI b = (is, K + 4 + 8 + 1 + 4, 0) := by rw [uI, l, l']; exact h5
  have n' : uN b = (sn, K + 4 + 8 + 1 + 4 + sn.length + 1, 0) := by rw [uN, i']; exact h6
  have m' : uM b = (si, K + 4 + 8 + 1 + 4 + sn.length + 1 + si.length + 1, 0) := by rw [uM, n']; exact h7
  have e : uE b = (b, 0) := by rw [uE, l, p, a', s', l', i', n', m']; exact (tickN_ok hv).trans (by rw [hb])
  rw [tickD_yes (by rw [o]; cases li <;> simp [ordN]) (by rw [e]) (by rw [e]), uT, l, p, a', s', l', i', n', m']
/-- how the document reads -/
def vA0 (b : List UInt8) : Int := mvA 0 false (uO b).2.1 (uO b).2.2
def vB0 (b : List UInt8) : Bool := mvB false (uO b).2.2
def vA1 (b : List UInt8) : Int := mvA (vA0 b) (vB0 b) (textS b (vA0 b)).2.1 (textS b (vA0 b)).2.2
def vB1 (b : List UInt8) : Bool := mvB (vB0 b) (textS b (vA0 b)).2.2
def vA2 (b : List UInt8) : Int := mvA (vA1 b) (vB1 b) (textS b (vA1 b)).2.1 (textS b (vA1 b)).2.2
def vB2 (b : List UInt8) : Bool := mvB (vB1 b) (textS b (vA1 b)).2.2
def vA3 (b : List UInt8) : Int := mvA (vA2 b) (vB2 b) (textS b (vA2 b)).2.1 (textS b (vA2 b)).2.2
def vB3 (b : List UInt8) : Bool := mvB (vB2 b) (textS b (vA2 b)).2.2
def vA4 (b : List UInt8) : Int := mvA (vA3 b) (vB3 b) (getS (uB b) 4 b (vA3 b)).2.1 (getS (uB b) 4 b (vA3 b)).2.2
def vB4 (b : List UInt8) : Bool := mvB (vB3 b) (getS (uB b) 4 b (vA3 b)).2.2
def vA5 (b : List UInt8) : Int := mvA (vA4 b) (vB4 b) (bytesS b (vA4 b) 8).2.1 (bytesS b (vA4 b) 8).2.2
def vB5 (b : List UInt8) : Bool := mvB (vB4 b) (bytesS b (vA4 b) 8).2.2
def vA6 (b : List UInt8) : Int := mvA (vA5 b) (vB5 b) (getS false 1 b (vA5 b)).2.1 (getS false 1 b (vA5 b)).2.2
def vB6 (b : List UInt8) : Bool := mvB (vB5 b) (getS false 1 b (vA5 b)).2.2
def vA7 (b : List UInt8) : Int := mvA (vA6 b) (vB6 b) (getS (uB b) 4 b (vA6 b)).2.1 (getS (uB b) 4 b (vA6 b)).2.2
def vB7 (b : List UInt8) : Bool := mvB (vB6 b) (getS (uB b) 4 b (vA6 b)).2.2
def vA8 (b : List UInt8) : Int := mvA (vA7 b) (vB7 b) (textS b (vA7 b)).2.1 (textS b (vA7 b)).2.2
def vB8 (b : List UInt8) : Bool := mvB (vB7 b) (textS b (vA7 b)).2.2
def vA9 (b : List UInt8) : Int := mvA (vA8 b) (vB8 b) (textS b (vA8 b)).2.1 (textS b (vA8 b)).2.2
def vB9 (b : List UInt8) : Bool := mvB (vB8 b) (textS b (vA8 b)).2.2
theorem vA_bounds (b : List UInt8) : (0 ≤ vA0 b ∧ vA0 b ≤ b.length) ∧ (0 ≤ vA1 b ∧ vA1 b ≤ b.length) ∧ (0 ≤ vA2 b ∧ vA2 b ≤ b.length) ∧ (0 ≤ vA3 b ∧ vA3 b ≤ b.length) ∧ (0 ≤ vA4 b ∧ vA4 b ≤ b.length) ∧ (0 ≤ vA5 b ∧ vA5 b ≤ b.length) ∧ (0 ≤ vA6 b ∧ vA6 b ≤ b.length) ∧ (0 ≤ vA7 b ∧ vA7 b ≤ b.length) ∧ (0 ≤ vA8 b ∧ vA8 b ≤ b.length) := by
  have h0 : 0 ≤ vA0 b ∧ vA0 b ≤ b.length := mvA_bounds (by omega) (get_next _ _ _ _)
  have h1 : 0 ≤ vA1 b ∧ vA1 b ≤ b.length := mvA_bounds h0 (text_next _ _)
  have h2 : 0 ≤ vA2 b ∧ vA2 b ≤ b.length := mvA_bounds h1 (text_next _ _)
  have h3 : 0 ≤ vA3 b ∧ vA3 b ≤ b.length := mvA_bounds h2 (text_next _ _)
  have h4 : 0 ≤ vA4 b ∧ vA4 b ≤ b.length := mvA_bounds h3 (get_next _ _ _ _)
  have h5 : 0 ≤ vA5 b ∧ vA5 b ≤ b.length := mvA_bounds h4 (bytes_next _ _ _)
  have h6 : 0 ≤ vA6 b ∧ vA6 b ≤ b.length := mvA_bounds h5 (get_next _ _ _ _)
  have h7 : 0 ≤ vA7 b ∧ vA7 b ≤ b.length := mvA_bounds h6 (get_next _ _ _ _)
  exact ⟨h0, h1, h2, h3, h4, h5, h6, h7, mvA_bounds h7 (text_next _ _)⟩
def vT (b : List UInt8) : TickT := (uB b, (textS b (vA0 b)).1, (textS b (vA1 b)).1, (textS b (vA2 b)).1, (getS (uB b) 4 b (vA3 b)).1, (readK (bytesS b (vA4 b) 8).1).1, (getS false 1 b (vA5 b)).1, (getS (uB b) 4 b (vA6 b)).1, (textS b (vA7 b)).1, (textS b (vA8 b)).1)
def vE (b : List UInt8) : List UInt8 × Int := tickN (uB b) (textS b (vA0 b)).1 (textS b (vA1 b)).1 (textS b (vA2 b)).1 (getS (uB b) 4 b (vA3 b)).1 (readK (bytesS b (vA4 b) 8).1).1 (getS false 1 b (vA5 b)).1 (getS (uB b) 4 b (vA6 b)).1 (textS b (vA7 b)).1 (textS b (vA8 b)).1
theorem tick_ref {li : Bool} {b : List UInt8} {x y z : List UInt8} {ad se lf is : Int} {sn si : List UInt8} (hse : 0 ≤ se ∧ se ≤ 18446744073709551615) (hv : tickC x y z ad se lf is sn si = 0) (hb : tickE li x y z ad se lf is sn si = b) :
    vT b = (li, x, y, z, ad, se, lf, is, sn, si) ∧ vE b = (b, 0) ∧ vB9 b = false := by
  obtain ⟨h0, t1, t2, t3, _, hh⟩ := tick_parts hse hv hb
  obtain ⟨K, hK⟩ : ∃ K : Int, K = 1 + (x.length : Int) + 1 + (y.length : Int) + 1 + (z.length : Int) + 1 := ⟨_, rfl⟩
  rw [← hK] at t3
  obtain ⟨h2, h3, h4, h5, h6, h7⟩ := hh K hK
  obtain ⟨_, _, _, hc, _⟩ := tickC_ok hv
  have o : uO b = (ordN li, 1, 0) := h0
  have l : uB b = li := by rw [uB, o]; exact ord_eq li
  have a0 : vA0 b = 1 := by rw [vA0, o]; rfl
  have b0 : vB0 b = false := by rw [vB0, o]; rfl
  have a1 : vA1 b = 1 + (x.length : Int) + 1 := by rw [vA1, a0, b0, t1]; exact mvA_ok _ _
  have b1 : vB1 b = false := by rw [vB1, a0, b0, t1]; rfl
  have a2 : vA2 b = 1 + (x.length : Int) + 1 + (y.length : Int) + 1 := by rw [vA2, a1, b1, t2]; exact mvA_ok _ _
  have b2 : vB2 b = false := by rw [vB2, a1, b1, t2]; rfl
  have a3 : vA3 b = K := by rw [vA3, a2, b2, t3]; exact mvA_ok _ _
  have b3 : vB3 b = false := by rw [vB3, a2, b2, t3]; rfl
  have a4 : vA4 b = K + 4 := by rw [vA4, a3, b3, l, h2]; exact mvA_ok _ _
  have b4 : vB4 b = false := by rw [vB4, a3, b3, l, h2]; rfl
  have a5 : vA5 b = K + 4 + 8 := by rw [vA5, a4, b4, h3]; exact mvA_ok _ _
  have b5 : vB5 b = false := by rw [vB5, a4, b4, h3]; rfl
  have a6 : vA6 b = K + 4 + 8 + 1 := by rw [vA6, a5, b5, h4]; exact mvA_ok _ _
  have b6 : vB6 b = false := by rw [vB6, a5, b5, h4]; rfl
  have a7 : vA7 b = K + 4 + 8 + 1 + 4 := by rw [vA7, a6, b6, l, h5]; exact mvA_ok _ _
  have b7 : vB7 b = false := by rw [vB7, a6, b6, l, h5]; rfl
  have a8 : vA8 b = K + 4 + 8 + 1 + 4 + sn.length + 1 := by rw [vA8, a7, b7, h6]; exact mvA_ok _ _
  have b8 : vB8 b = false := by rw [vB8, a7, b7, h6]; rfl
  have b9 : vB9 b = false := by rw [vB9, a8, b8, h7]; rfl
  refine ⟨?_, ?_, b9⟩
  · rw [vT, l, a0, a1, a2, a3, a4, a5, a6, a7, a8, t1, t2, t3, h2, h3, h4, h5, h6, h7, readK_key hse (class_ok hc)]
  · rw [vE, l, a0, a1, a2, a3, a4, a5, a6, a7, a8, t1, t2, t3, h2, h3, h4, h5, h6, h7, readK_key hse (class_ok hc)]
    exact (tickN_ok hv).trans (by rw [hb])
theorem tickD_ref {b : List UInt8} (h2 : (vE b).2 = 0) (h3 : (vE b).1 = b) : tickD b = (vT b, 0) := by
  have hc := tickN_is h2
  refine tickD_trip (readK_bounds _) hc ?_
  rw [vE, tickN_ok hc] at h3
  exact h3
theorem tickD_bad {b : List UInt8} (h0 : ¬ (uO b).1 > 1) (h : vB9 b = true ∨ ¬ (vE b).2 = 0 ∨ ¬ (vE b).1 = b) : tickD b = (tick0, 100) := by
  by_cases hd : (uE b).2 = 0 ∧ (uE b).1 = b
  · exfalso
    have hc := tickN_is hd.1
    have hb : tickE (uB b) (uP b).1.1 (uP b).1.2.1 (uP b).1.2.2 (uA b).1 (uS b).1 (uL b).1 (uI b).1 (uN b).1 (uM b).1 = b := by
      have := hd.2
      rw [uE, tickN_ok hc] at this
      exact this
    obtain ⟨_, e2, e3⟩ := tick_ref (readK_bounds _) hc hb
    rw [e2, e3] at h
    simp at h
  · rw [tickD, if_neg h0, if_neg hd]
theorem oct0 (b : List UInt8) : (uO b).1 = ((b.getD 0 0).toNat : Int) := by
  unfold uO getS
  split
  · rename_i h
    have : b = [] := by
      by_cases hb : b.length = 0
      · exact List.length_eq_zero_iff.mp hb
      · exact absurd (roomS_0 (by omega) (by omega) (by omega) (by omega)) h
    subst this
    rfl
  · show getV false 1 b 0 = _
    unfold getV
    simp [List.range, List.range.loop]
end Go.Sx

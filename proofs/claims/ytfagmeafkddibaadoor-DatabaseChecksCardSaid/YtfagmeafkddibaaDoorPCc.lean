/-
  What caches of credentials are, as plain functions: for every input.
-/
import Derived.Test.YtfagmeafkddibaaDoorPFwd
set_option linter.all false
namespace Go.Sx
structure CR where
  x : List UInt8
  y : List UInt8
  z : List UInt8
  k : Int
  lf : Int
  kv : Int
  is : Int
  t : List UInt8
def cr0 : CR := ⟨[], [], [], 0, 0, 0, 0, []⟩
def crR (s : CR) : List L := [.s s.x, .s s.y, .s s.z, .i .u64 s.k, .i .i64 s.lf, .i .i64 s.kv, .i .i64 s.is, .sl (s.t.map u8) s.t.length]
theorem crR_len (s : CR) : (crR s).length = 8 := rfl
def i64R (n : Int) : Prop := -9223372036854775808 ≤ n ∧ n ≤ 9223372036854775807
/-- a credential that the machine may hold, with short texts -/
def crSm (B : Nat) (s : CR) : Prop := s.x.length ≤ B ∧ s.y.length ≤ B ∧ s.z.length ≤ B ∧ s.t.length ≤ B ∧ (0 ≤ s.k ∧ s.k ≤ 18446744073709551615) ∧ i64R s.lf ∧ i64R s.kv ∧ i64R s.is
def crIs (x y z : List UInt8) (s : CR) : Bool := s.x == x && (s.y == y && s.z == z)
theorem crIs_yes {x y z : List UInt8} {s : CR} (h1 : s.x = x) (h2 : s.y = y) (h3 : s.z = z) : crIs x y z s = true := by simp [crIs, h1, h2, h3]
theorem crIs_no {x y z : List UInt8} {s : CR} (h : ¬ (s.x = x ∧ s.y = y ∧ s.z = z)) : crIs x y z s = false := by
  rw [Bool.eq_false_iff]
  intro hh
  simp only [crIs, Bool.and_eq_true, beq_iff_eq] at hh
  exact h hh
theorem crIs_is {x y z : List UInt8} {s : CR} (h : crIs x y z s = true) : s.x = x ∧ s.y = y ∧ s.z = z := by
  simpa only [crIs, Bool.and_eq_true, beq_iff_eq] using h
def crAt (l : List CR) (x y z : List UInt8) : Nat := l.findIdx (crIs x y z)
theorem crAt_le (l : List CR) (x y z : List UInt8) : crAt l x y z ≤ l.length := List.findIdx_le_length
def crG (l : List CR) (x y z : List UInt8) : CR × Bool := if crAt l x y z = l.length then (cr0, false) else (l.getD (crAt l x y z) cr0, true)
theorem crG_no {l : List CR} {x y z : List UInt8} (h : crAt l x y z = l.length) : crG l x y z = (cr0, false) := by rw [crG, if_pos h]
theorem crG_yes {l : List CR} {x y z : List UInt8} {j : Nat} (h : crAt l x y z = j) (hj : j < l.length) : crG l x y z = (l.getD j cr0, true) := by subst h; rw [crG, if_neg (by omega)]
theorem cr0_small (B : Nat) : crSm B cr0 := by simp [crSm, cr0, i64R]
theorem crG_small {B : Nat} {l : List CR} (hl : ∀ s ∈ l, crSm B s) (x y z : List UInt8) : crSm B (crG l x y z).1 := by
  unfold crG
  split
  · exact cr0_small B
  · have := crAt_le l x y z
    exact hl _ (getD_mem (by omega))
/-- what a valid credential is -/
def crR0 (s : CR) : Prop := (0 ≤ s.lf ∧ s.lf ≤ 255) ∧ (0 ≤ s.kv ∧ s.kv ≤ 255) ∧ (0 ≤ s.is ∧ s.is ≤ 4294967295)
instance (s : CR) : Decidable (crR0 s) := by unfold crR0; infer_instance
def crE (l : List CR) (i : Nat) : Int :=
  if validS (l.getD i cr0).x (l.getD i cr0).y (l.getD i cr0).z = false then 103 else
  if keyOk (l.getD i cr0).k = false then 10 else
  if ¬ crR0 (l.getD i cr0) then 104 else
  if 255 < (l.getD i cr0).t.length then 105 else
  if crAt l (l.getD i cr0).x (l.getD i cr0).y (l.getD i cr0).z < i then 107 else 0
def ccC (o1 o2 o3 : List UInt8) (l : List CR) : Int := if validS o1 o2 o3 = false then 103 else if 20 < l.length then 106 else firstE (crE l) l.length
theorem crE_name {l : List CR} {i : Nat} {s : CR} (e : l.getD i cr0 = s) (h : validS s.x s.y s.z = false) : crE l i = 103 := by subst e; rw [crE, if_pos h]
theorem crE_key {l : List CR} {i : Nat} {s : CR} (e : l.getD i cr0 = s) (h : validS s.x s.y s.z = true) (h2 : keyOk s.k = false) : crE l i = 10 := by subst e; rw [crE, if_neg (by rw [h]; decide), if_pos h2]
theorem crE_range {l : List CR} {i : Nat} {s : CR} (e : l.getD i cr0 = s) (h : validS s.x s.y s.z = true) (h2 : keyOk s.k = true) (h3 : ¬ crR0 s) : crE l i = 104 := by subst e; rw [crE, if_neg (by rw [h]; decide), if_neg (by rw [h2]; decide), if_pos h3]
theorem crE_long {l : List CR} {i : Nat} {s : CR} (e : l.getD i cr0 = s) (h : validS s.x s.y s.z = true) (h2 : keyOk s.k = true) (h3 : crR0 s) (h4 : 255 < s.t.length) : crE l i = 105 := by subst e; rw [crE, if_neg (by rw [h]; decide), if_neg (by rw [h2]; decide), if_neg (fun hh => hh h3), if_pos h4]
theorem crE_dup {l : List CR} {i : Nat} {s : CR} (e : l.getD i cr0 = s) (h : validS s.x s.y s.z = true) (h2 : keyOk s.k = true) (h3 : crR0 s) (h4 : ¬ 255 < s.t.length) (h5 : crAt l s.x s.y s.z < i) : crE l i = 107 := by subst e; rw [crE, if_neg (by rw [h]; decide), if_neg (by rw [h2]; decide), if_neg (fun hh => hh h3), if_neg h4, if_pos h5]
theorem crE_ok {l : List CR} {i : Nat} {s : CR} (e : l.getD i cr0 = s) (h : validS s.x s.y s.z = true) (h2 : keyOk s.k = true) (h3 : crR0 s) (h4 : ¬ 255 < s.t.length) (h5 : ¬ crAt l s.x s.y s.z < i) : crE l i = 0 := by subst e; rw [crE, if_neg (by rw [h]; decide), if_neg (by rw [h2]; decide), if_neg (fun hh => hh h3), if_neg h4, if_neg h5]
/-- a credential without an error -/
def crV (s : CR) : Prop := validS s.x s.y s.z = true ∧ keyOk s.k = true ∧ crR0 s ∧ s.t.length ≤ 255
theorem crE_is {l : List CR} {i : Nat} (h : crE l i = 0) : crV (l.getD i cr0) ∧ i ≤ crAt l (l.getD i cr0).x (l.getD i cr0).y (l.getD i cr0).z := by
  unfold crE at h
  split at h
  · cases h
  · rename_i h1
    split at h
    · cases h
    · rename_i h2
      split at h
      · cases h
      · rename_i h3
        split at h
        · cases h
        · rename_i h4
          split at h
          · cases h
          · refine ⟨⟨?_, ?_, Decidable.not_not.mp h3, by omega⟩, by omega⟩
            · cases hv : validS (l.getD i cr0).x (l.getD i cr0).y (l.getD i cr0).z with
              | true => rfl
              | false => exact absurd hv h1
            · cases hv : keyOk (l.getD i cr0).k with
              | true => rfl
              | false => exact absurd hv h2
theorem ccC_name {o1 o2 o3 : List UInt8} {l : List CR} (h : validS o1 o2 o3 = false) : ccC o1 o2 o3 l = 103 := by rw [ccC, if_pos h]
theorem ccC_many {o1 o2 o3 : List UInt8} {l : List CR} (h : validS o1 o2 o3 = true) (h2 : 20 < l.length) : ccC o1 o2 o3 l = 106 := by rw [ccC, if_neg (by rw [h]; decide), if_pos h2]
theorem ccC_at {o1 o2 o3 : List UInt8} {l : List CR} {i : Nat} {e : Int} (h : validS o1 o2 o3 = true) (h2 : ¬ 20 < l.length) (hi : i < l.length) (h0 : ∀ j, j < i → crE l j = 0) (he : crE l i = e) (hn : e ≠ 0) : ccC o1 o2 o3 l = e := by
  rw [ccC, if_neg (by rw [h]; decide), if_neg h2, firstE_at hi h0 (by rw [he]; exact hn), he]
theorem ccC_ok {o1 o2 o3 : List UInt8} {l : List CR} (h : validS o1 o2 o3 = true) (h2 : ¬ 20 < l.length) (h0 : ∀ j, j < l.length → crE l j = 0) : ccC o1 o2 o3 l = 0 := by rw [ccC, if_neg (by rw [h]; decide), if_neg h2, firstE_ok h0]
theorem ccC_is {o1 o2 o3 : List UInt8} {l : List CR} (h : ccC o1 o2 o3 l = 0) : validS o1 o2 o3 = true ∧ l.length ≤ 20 ∧ ∀ j, j < l.length → crE l j = 0 := by
  unfold ccC at h
  split at h
  · cases h
  · rename_i h1
    split at h
    · cases h
    · refine ⟨?_, by omega, firstE_is h⟩
      cases hv : validS o1 o2 o3 with
      | true => rfl
      | false => exact absurd hv h1
theorem ccC_mem {o1 o2 o3 : List UInt8} {l : List CR} (h : ccC o1 o2 o3 l = 0) : ∀ s ∈ l, crV s := by
  intro s hs
  obtain ⟨j, hj, rfl⟩ := mem_getD cr0 hs
  exact (crE_is ((ccC_is h).2.2 j hj)).1
theorem crAt_take {l : List CR} {i : Nat} (hi : i ≤ l.length) (x y z : List UInt8) : crAt (l.take i) x y z = (l.take i).length ↔ ¬ crAt l x y z < i := by
  have hl : (l.take i).length = i := by simp; omega
  rw [hl]
  constructor
  · intro h hlt
    have h1 := find_hit (p := crIs x y z) (l := l) cr0 (by show crAt l x y z < _; omega)
    have h2 := find_miss (p := crIs x y z) (l := l.take i) (i := crAt l x y z) cr0 (by show _ < crAt (l.take i) x y z; omega)
    rw [take_getD hlt] at h2
    change crIs x y z (l.getD (crAt l x y z) cr0) = true at h1
    rw [h1] at h2
    cases h2
  · intro h
    have := find_no (p := crIs x y z) (l := l.take i) cr0 (fun j hj => by
      rw [hl] at hj
      rw [take_getD hj]
      exact find_miss cr0 (by show j < crAt l x y z; omega))
    rw [hl] at this
    exact this
theorem crG_dup {l : List CR} {i : Nat} {x y z : List UInt8} (hi : i ≤ l.length) (h : (crG (l.take i) x y z).2 = true) : crAt l x y z < i := by
  have e := crAt_take hi x y z
  unfold crG at h
  split at h
  · cases h
  · rename_i h1
    exact Decidable.not_not.mp fun h2 => h1 (e.mpr h2)
theorem crG_new {l : List CR} {i : Nat} {x y z : List UInt8} (hi : i ≤ l.length) (h : (crG (l.take i) x y z).2 = false) : ¬ crAt l x y z < i := by
  have e := crAt_take hi x y z
  unfold crG at h
  split at h
  · rename_i h1
    exact e.mp h1
  · cases h
/-- when a lifetime ends -/
def endS (is lf : Int) : Int := if (0 ≤ is ∧ is ≤ 4294967295) ∧ (0 ≤ lf ∧ lf ≤ 255) then is + 300 * (lf + 1) else 0
theorem endS_yes {is lf : Int} (h : (0 ≤ is ∧ is ≤ 4294967295) ∧ (0 ≤ lf ∧ lf ≤ 255)) : endS is lf = is + 300 * (lf + 1) := by rw [endS, if_pos h]
theorem endS_no {is lf : Int} (h : ¬ ((0 ≤ is ∧ is ≤ 4294967295) ∧ (0 ≤ lf ∧ lf ≤ 255))) : endS is lf = 0 := by rw [endS, if_neg h]
def expS (now : Int) (s : CR) : Bool := decide (now > endS s.is s.lf)
def liveG (now : Int) (g : CR × Bool) : CR × Int := if g.2 = false then (cr0, 76) else if expS now g.1 = true then (cr0, 26) else (g.1, 0)
theorem live_1 {now : Int} {g : CR × Bool} (h : g.2 = false) : liveG now g = (cr0, 76) := by rw [liveG, if_pos h]
theorem live_2 {now : Int} {g : CR × Bool} (h : g.2 = true) (h2 : expS now g.1 = true) : liveG now g = (cr0, 26) := by rw [liveG, if_neg (by rw [h]; decide), if_pos h2]
theorem live_3 {now : Int} {g : CR × Bool} (h : g.2 = true) (h2 : expS now g.1 = false) : liveG now g = (g.1, 0) := by rw [liveG, if_neg (by rw [h]; decide), if_neg (by rw [h2]; decide)]
/-- some of a list -/
theorem filt_step {p : CR → Bool} {l : List CR} {j : Nat} {K : List CR} (hj : j < l.length) (hK : (l.take j).filter p = K) : (l.take (j + 1)).filter p = if p (l.getD j cr0) = true then K ++ [l.getD j cr0] else K := by
  rw [take_getD_succ cr0 hj, List.filter_append, hK]
  simp only [List.filter_cons, List.filter_nil]
  split
  · rfl
  · simp
theorem filt_yes {p : CR → Bool} {l : List CR} {j : Nat} {K : List CR} (hj : j < l.length) (hK : (l.take j).filter p = K) (h : p (l.getD j cr0) = true) : (l.take (j + 1)).filter p = K ++ [l.getD j cr0] := by rw [filt_step hj hK, if_pos h]
theorem filt_no {p : CR → Bool} {l : List CR} {j : Nat} {K : List CR} (hj : j < l.length) (hK : (l.take j).filter p = K) (h : p (l.getD j cr0) = false) : (l.take (j + 1)).filter p = K := by rw [filt_step hj hK, if_neg (by rw [h]; decide)]
theorem filt_len {p : CR → Bool} {l : List CR} {j : Nat} {K : List CR} (hK : (l.take j).filter p = K) : K.length ≤ j := by
  have h1 := List.length_filter_le p (l.take j)
  rw [hK, List.length_take] at h1
  omega
theorem filt_le {p : CR → Bool} {l : List CR} {j : Nat} {K : List CR} (hK : (l.take j).filter p = K) : K.length ≤ l.length := by
  have h1 := List.length_filter_le p (l.take j)
  rw [hK, List.length_take] at h1
  omega
def keepS (x y z : List UInt8) (l : List CR) : List CR := l.filter fun s => !crIs x y z s
def fresS (now : Int) (l : List CR) : List CR := l.filter fun s => !expS now s
/-- what storing leads to: the owner, the credentials, the error -/
abbrev CcT := (List UInt8 × List UInt8 × List UInt8) × List CR
def cc0 : CcT := (([], [], []), [])
def ccS (o1 o2 o3 : List UInt8) (l : List CR) (s : CR) : CcT × Int :=
  if ccC o1 o2 o3 l ≠ 0 then (cc0, ccC o1 o2 o3 l) else
  if ccC o1 o2 o3 [s] ≠ 0 then (cc0, ccC o1 o2 o3 [s]) else
  if 20 ≤ (keepS s.x s.y s.z l).length then (cc0, 106) else (((o1, o2, o3), keepS s.x s.y s.z l ++ [s]), 0)
theorem ccS_1 {o1 o2 o3 : List UInt8} {l : List CR} {s : CR} (h : ¬ ccC o1 o2 o3 l = 0) : ccS o1 o2 o3 l s = (cc0, ccC o1 o2 o3 l) := by rw [ccS, if_pos h]
theorem ccS_2 {o1 o2 o3 : List UInt8} {l : List CR} {s : CR} (h : ccC o1 o2 o3 l = 0) (h2 : ¬ ccC o1 o2 o3 [s] = 0) : ccS o1 o2 o3 l s = (cc0, ccC o1 o2 o3 [s]) := by rw [ccS, if_neg (fun hh => hh h), if_pos h2]
theorem ccS_3 {o1 o2 o3 : List UInt8} {l : List CR} {s : CR} (h : ccC o1 o2 o3 l = 0) (h2 : ccC o1 o2 o3 [s] = 0) (h3 : 20 ≤ (keepS s.x s.y s.z l).length) : ccS o1 o2 o3 l s = (cc0, 106) := by rw [ccS, if_neg (fun hh => hh h), if_neg (fun hh => hh h2), if_pos h3]
theorem ccS_4 {o1 o2 o3 : List UInt8} {l : List CR} {s : CR} (h : ccC o1 o2 o3 l = 0) (h2 : ccC o1 o2 o3 [s] = 0) (h3 : ¬ 20 ≤ (keepS s.x s.y s.z l).length) : ccS o1 o2 o3 l s = (((o1, o2, o3), keepS s.x s.y s.z l ++ [s]), 0) := by rw [ccS, if_neg (fun hh => hh h), if_neg (fun hh => hh h2), if_neg h3]
theorem ccS_len (o1 o2 o3 : List UInt8) (l : List CR) (s : CR) : (ccS o1 o2 o3 l s).1.2.length ≤ l.length + 1 := by
  have := List.length_filter_le (fun t => !crIs s.x s.y s.z t) l
  unfold ccS keepS
  split
  · simp [cc0]
  · split
    · simp [cc0]
    · split
      · simp [cc0]
      · rw [List.length_append]; exact Nat.add_le_add_right this 1
def initS (x y z : List UInt8) : (List UInt8 × List UInt8 × List UInt8) × Int := if validS x y z = true then ((x, y, z), 0) else (([], [], []), 103)
theorem initS_yes {x y z : List UInt8} (h : validS x y z = true) : initS x y z = ((x, y, z), 0) := by rw [initS, if_pos h]
theorem initS_no {x y z : List UInt8} (h : validS x y z = false) : initS x y z = (([], [], []), 103) := by rw [initS, if_neg (by rw [h]; decide)]
end Go.Sx

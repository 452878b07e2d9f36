/-
  What files with the keys of services are, as plain functions: for every input.
-/
import Derived.Test.YtfagmeafkddibaaDoorPFwd
set_option linter.all false
namespace Go.Sx
structure SK where
  x : List UInt8
  y : List UInt8
  z : List UInt8
  n : Int
  k : Int
def sk0 : SK := ⟨[], [], [], 0, 0⟩
def skR (s : SK) : List L := [.s s.x, .s s.y, .s s.z, .i .i64 s.n, .i .u64 s.k]
theorem skR_len (s : SK) : (skR s).length = 5 := rfl
theorem skR_eta (s : SK) : skR s = [.s s.x, .s s.y, .s s.z, .i .i64 s.n, .i .u64 s.k] := rfl
/-- an element that the machine may hold, with short texts -/
def skSm (B : Nat) (s : SK) : Prop := s.x.length ≤ B ∧ s.y.length ≤ B ∧ s.z.length ≤ B ∧ (-9223372036854775808 ≤ s.n ∧ s.n ≤ 9223372036854775807) ∧ (0 ≤ s.k ∧ s.k ≤ 18446744073709551615)
def skIs (x y z : List UInt8) (n : Int) (s : SK) : Bool := s.x == x && (s.y == y && (s.z == z && s.n == n))
theorem skIs_yes {x y z : List UInt8} {n : Int} {s : SK} (h1 : s.x = x) (h2 : s.y = y) (h3 : s.z = z) (h4 : s.n = n) : skIs x y z n s = true := by simp [skIs, h1, h2, h3, h4]
theorem skIs_no {x y z : List UInt8} {n : Int} {s : SK} (h : ¬ (s.x = x ∧ s.y = y ∧ s.z = z ∧ s.n = n)) : skIs x y z n s = false := by
  rw [Bool.eq_false_iff]
  intro hh
  simp only [skIs, Bool.and_eq_true, beq_iff_eq] at hh
  exact h hh
theorem skIs_is {x y z : List UInt8} {n : Int} {s : SK} (h : skIs x y z n s = true) : s.x = x ∧ s.y = y ∧ s.z = z ∧ s.n = n := by
  simpa only [skIs, Bool.and_eq_true, beq_iff_eq] using h
def skAt (l : List SK) (x y z : List UInt8) (n : Int) : Nat := l.findIdx (skIs x y z n)
theorem skAt_le (l : List SK) (x y z : List UInt8) (n : Int) : skAt l x y z n ≤ l.length := List.findIdx_le_length
def skF (l : List SK) (x y z : List UInt8) (n : Int) : Int × Bool := if skAt l x y z n = l.length then (0, false) else ((l.getD (skAt l x y z n) sk0).k, true)
theorem skF_no {l : List SK} {x y z : List UInt8} {n : Int} (h : skAt l x y z n = l.length) : skF l x y z n = (0, false) := by rw [skF, if_pos h]
theorem skF_yes {l : List SK} {x y z : List UInt8} {n : Int} {j : Nat} (h : skAt l x y z n = j) (hj : j < l.length) : skF l x y z n = ((l.getD j sk0).k, true) := by subst h; rw [skF, if_neg (by omega)]
theorem skF_range {B : Nat} {l : List SK} (hl : ∀ s ∈ l, skSm B s) (x y z : List UInt8) (n : Int) : 0 ≤ (skF l x y z n).1 ∧ (skF l x y z n).1 ≤ 18446744073709551615 := by
  unfold skF
  split
  · simp
  · have := skAt_le l x y z n
    exact (hl _ (getD_mem (by omega))).2.2.2.2
/-- the error of an element, given those ahead of it -/
def skE (l : List SK) (i : Nat) : Int :=
  if validS (l.getD i sk0).x (l.getD i sk0).y (l.getD i sk0).z = false then 103 else
  if (l.getD i sk0).n < 0 ∨ 255 < (l.getD i sk0).n then 104 else
  if keyOk (l.getD i sk0).k = false then 10 else
  if skAt l (l.getD i sk0).x (l.getD i sk0).y (l.getD i sk0).z (l.getD i sk0).n < i then 107 else 0
def skC (l : List SK) : Int := if 60 < l.length then 106 else firstE (skE l) l.length
theorem skE_name {l : List SK} {i : Nat} {s : SK} (e : l.getD i sk0 = s) (h : validS s.x s.y s.z = false) : skE l i = 103 := by subst e; rw [skE, if_pos h]
theorem skE_range {l : List SK} {i : Nat} {s : SK} (e : l.getD i sk0 = s) (h : validS s.x s.y s.z = true) (h2 : s.n < 0 ∨ 255 < s.n) : skE l i = 104 := by subst e; rw [skE, if_neg (by rw [h]; decide), if_pos h2]
theorem skE_key {l : List SK} {i : Nat} {s : SK} (e : l.getD i sk0 = s) (h : validS s.x s.y s.z = true) (h2 : ¬ (s.n < 0 ∨ 255 < s.n)) (h3 : keyOk s.k = false) : skE l i = 10 := by subst e; rw [skE, if_neg (by rw [h]; decide), if_neg h2, if_pos h3]
theorem skE_dup {l : List SK} {i : Nat} {s : SK} (e : l.getD i sk0 = s) (h : validS s.x s.y s.z = true) (h2 : ¬ (s.n < 0 ∨ 255 < s.n)) (h3 : keyOk s.k = true) (h4 : skAt l s.x s.y s.z s.n < i) : skE l i = 107 := by subst e; rw [skE, if_neg (by rw [h]; decide), if_neg h2, if_neg (by rw [h3]; decide), if_pos h4]
theorem skE_ok {l : List SK} {i : Nat} {s : SK} (e : l.getD i sk0 = s) (h : validS s.x s.y s.z = true) (h2 : ¬ (s.n < 0 ∨ 255 < s.n)) (h3 : keyOk s.k = true) (h4 : ¬ skAt l s.x s.y s.z s.n < i) : skE l i = 0 := by subst e; rw [skE, if_neg (by rw [h]; decide), if_neg h2, if_neg (by rw [h3]; decide), if_neg h4]
theorem skE_is {l : List SK} {i : Nat} (h : skE l i = 0) : validS (l.getD i sk0).x (l.getD i sk0).y (l.getD i sk0).z = true ∧ (0 ≤ (l.getD i sk0).n ∧ (l.getD i sk0).n ≤ 255) ∧ keyOk (l.getD i sk0).k = true ∧ i ≤ skAt l (l.getD i sk0).x (l.getD i sk0).y (l.getD i sk0).z (l.getD i sk0).n := by
  unfold skE at h
  split at h
  · cases h
  · rename_i h1
    split at h
    · cases h
    · rename_i h2
      split at h
      · cases h
      · rename_i h3
        split at h
        · cases h
        · exact ⟨by simpa using h1, by omega, by simpa using h3, by omega⟩
theorem skC_many {l : List SK} (h : 60 < l.length) : skC l = 106 := by rw [skC, if_pos h]
theorem skC_at {l : List SK} {i : Nat} {e : Int} (h : ¬ 60 < l.length) (hi : i < l.length) (h0 : ∀ j, j < i → skE l j = 0) (he : skE l i = e) (hn : e ≠ 0) : skC l = e := by
  rw [skC, if_neg h, firstE_at hi h0 (by rw [he]; exact hn), he]
theorem skC_ok {l : List SK} (h : ¬ 60 < l.length) (h0 : ∀ j, j < l.length → skE l j = 0) : skC l = 0 := by rw [skC, if_neg h, firstE_ok h0]
theorem skC_is {l : List SK} (h : skC l = 0) : l.length ≤ 60 ∧ ∀ j, j < l.length → skE l j = 0 := by
  unfold skC at h
  split at h
  · cases h
  · exact ⟨by omega, firstE_is h⟩
theorem skC_mem {l : List SK} (h : skC l = 0) : ∀ s ∈ l, validS s.x s.y s.z = true ∧ (0 ≤ s.n ∧ s.n ≤ 255) ∧ keyOk s.k = true := by
  intro s hs
  obtain ⟨j, hj, rfl⟩ := mem_getD sk0 hs
  have := skE_is ((skC_is h).2 j hj)
  exact ⟨this.1, this.2.1, this.2.2.1⟩
/-- is the version of an element among those ahead of it -/
theorem skAt_take {l : List SK} {i : Nat} (hi : i ≤ l.length) (x y z : List UInt8) (n : Int) : skAt (l.take i) x y z n = (l.take i).length ↔ ¬ skAt l x y z n < i := by
  have hl : (l.take i).length = i := by simp; omega
  rw [hl]
  constructor
  · intro h hlt
    have h1 := find_hit (p := skIs x y z n) (l := l) sk0 (by show skAt l x y z n < _; omega)
    have h2 := find_miss (p := skIs x y z n) (l := l.take i) (i := skAt l x y z n) sk0 (by show _ < skAt (l.take i) x y z n; omega)
    rw [take_getD hlt] at h2
    change skIs x y z n (l.getD (skAt l x y z n) sk0) = true at h1
    rw [h1] at h2
    cases h2
  · intro h
    have := find_no (p := skIs x y z n) (l := l.take i) sk0 (fun j hj => by
      rw [hl] at hj
      rw [take_getD hj]
      exact find_miss sk0 (by show j < skAt l x y z n; omega))
    rw [hl] at this
    exact this

theorem skF_dup {l : List SK} {i : Nat} {x y z : List UInt8} {n : Int} (hi : i ≤ l.length) (h : (skF (l.take i) x y z n).2 = true) : skAt l x y z n < i := by
  have e := skAt_take hi x y z n
  unfold skF at h
  split at h
  · cases h
  · rename_i h1
    exact Decidable.not_not.mp fun h2 => h1 (e.mpr h2)
theorem skF_new {l : List SK} {i : Nat} {x y z : List UInt8} {n : Int} (hi : i ≤ l.length) (h : (skF (l.take i) x y z n).2 = false) : ¬ skAt l x y z n < i := by
  have e := skAt_take hi x y z n
  unfold skF at h
  split at h
  · rename_i h1
    exact e.mp h1
  · cases h
/-- the latest version, and whether there is one -/
def latK (x y z : List UInt8) (a : Int × Bool) (s : SK) : Int × Bool := if (s.x = x ∧ s.y = y ∧ s.z = z) ∧ (a.2 = false ∨ a.1 < s.n) then (s.n, true) else a
def latS (l : List SK) (x y z : List UInt8) : Int × Bool := l.foldl (latK x y z) (-1, false)
theorem latS_nil (x y z : List UInt8) : latS [] x y z = (-1, false) := rfl
theorem latS_app (l : List SK) (s : SK) (x y z : List UInt8) : latS (l ++ [s]) x y z = latK x y z (latS l x y z) s := by simp [latS, List.foldl_append]
theorem latS_take {l : List SK} {j : Nat} {A : Int × Bool} {x y z : List UInt8} (hj : j < l.length) (h : latS (l.take j) x y z = A) : latS (l.take (j + 1)) x y z = latK x y z A (l.getD j sk0) := by
  rw [take_getD_succ sk0 hj, latS_app, h]
theorem latK_yes {x y z : List UInt8} {a : Int × Bool} {s : SK} (h1 : s.x = x) (h2 : s.y = y) (h3 : s.z = z) (h4 : a.2 = false ∨ a.1 < s.n) : latK x y z a s = (s.n, true) := by rw [latK, if_pos ⟨⟨h1, h2, h3⟩, h4⟩]
theorem latK_no {x y z : List UInt8} {a : Int × Bool} {s : SK} (h : ¬ (s.x = x ∧ s.y = y ∧ s.z = z)) : latK x y z a s = a := by rw [latK, if_neg (fun hh => h hh.1)]
theorem latK_old {x y z : List UInt8} {a : Int × Bool} {s : SK} (h1 : a.2 = true) (h2 : ¬ a.1 < s.n) : latK x y z a s = a := by
  rw [latK, if_neg (fun hh => by rcases hh.2 with h | h; rw [h1] at h; cases h; exact h2 h)]
/-- a list with one more -/
def skA (l : List SK) (s : SK) : List SK × Int := if skC (l ++ [s]) = 0 then (l ++ [s], 0) else ([], skC (l ++ [s]))
theorem skA_ok {l : List SK} {s : SK} {e : Int} (h : skC (l ++ [s]) = e) (h0 : e = 0) : skA l s = (l ++ [s], 0) := by subst h; rw [skA, if_pos h0]
theorem skA_no {l : List SK} {s : SK} {e : Int} (h : skC (l ++ [s]) = e) (h0 : ¬ e = 0) : skA l s = ([], e) := by subst h; rw [skA, if_neg h0]
theorem skA_mem {B : Nat} {l : List SK} {s : SK} (h1 : ∀ t ∈ l, skSm B t) (h2 : skSm B s) : ∀ t ∈ (skA l s).1, skSm B t := by
  intro t ht
  unfold skA at ht
  split at ht
  · rcases List.mem_append.1 ht with h | h
    · exact h1 t h
    · simp at h; subst h; exact h2
  · cases ht

/-- an element's bytes, a list's bytes -/
def skB (s : SK) : List UInt8 := s.x ++ [0] ++ s.y ++ [0] ++ s.z ++ [0] ++ numS false 1 s.n ++ keyB s.k
def skBs (l : List SK) : List UInt8 := (l.map skB).flatten
theorem skBs_nil : skBs [] = [] := rfl
theorem skBs_cons (s : SK) (l : List SK) : skBs (s :: l) = skB s ++ skBs l := by simp [skBs]
theorem skBs_append (a b : List SK) : skBs (a ++ b) = skBs a ++ skBs b := by simp [skBs]
theorem skBs_one (s : SK) : skBs [s] = skB s := by simp [skBs]
theorem skB_len (s : SK) : (skB s).length = s.x.length + s.y.length + s.z.length + 12 := by simp [skB, keyB_len]; omega
theorem skBs_len {l : List SK} {B : Nat} (h : ∀ s ∈ l, skSm B s) : (skBs l).length ≤ l.length * (3 * B + 12) := by
  induction l with
  | nil => simp [skBs]
  | cons s l ih =>
    have h1 := h s (by simp)
    have h2 := ih fun t ht => h t (by simp [ht])
    rw [skBs_cons, List.length_append, skB_len, List.length_cons, Nat.succ_mul]
    obtain ⟨a, b, c, _⟩ := h1
    omega
def skN (l : List SK) : List UInt8 × Int := if skC l = 0 then (skBs l, 0) else ([], skC l)
theorem skN_ok {l : List SK} (h : skC l = 0) : skN l = (skBs l, 0) := by rw [skN, if_pos h]
theorem skN_no {l : List SK} (h : ¬ skC l = 0) : skN l = ([], skC l) := by rw [skN, if_neg h]
theorem skN_is {l : List SK} {b : List UInt8} (h : skN l = (b, 0)) : skC l = 0 ∧ skBs l = b := by
  unfold skN at h
  split at h
  · rename_i h1; exact ⟨h1, by simpa using h⟩
  · rename_i h1
    simp only [Prod.mk.injEq] at h
    exact absurd h.2 h1
open Classical in
/-- the list that some bytes are -/
noncomputable def skD (b : List UInt8) : List SK × Int := if h : ∃ l, skN l = (b, 0) then (Classical.choose h, 0) else ([], 100)
theorem skD_yes {b : List UInt8} {l : List SK} (h : skN l = (b, 0)) (u : ∀ l', skN l' = (b, 0) → l' = l) : skD b = (l, 0) := by
  have hx : ∃ l, skN l = (b, 0) := ⟨l, h⟩
  unfold skD
  rw [dif_pos hx]
  exact congrArg (fun q => (q, (0 : Int))) (u _ (Classical.choose_spec hx))
theorem skD_no {b : List UInt8} (h : ∀ l', skN l' ≠ (b, 0)) : skD b = ([], 100) := by
  unfold skD
  rw [dif_neg (fun ⟨l, hl⟩ => h l hl)]

/-- what is read of an element -/
def skRd (b : List UInt8) (k : Int) : SK × Int × Bool :=
  if (prinS b k).2.2 ≠ 0 then (sk0, 0, false) else
  if (getS false 1 b (prinS b k).2.1).2.2 ≠ 0 then (sk0, 0, false) else
  if (bytesS b (getS false 1 b (prinS b k).2.1).2.1 8).2.2 ≠ 0 then (sk0, 0, false) else
  (⟨(prinS b k).1.1, (prinS b k).1.2.1, (prinS b k).1.2.2, (getS false 1 b (prinS b k).2.1).1, (readK (bytesS b (getS false 1 b (prinS b k).2.1).2.1 8).1).1⟩,
    (bytesS b (getS false 1 b (prinS b k).2.1).2.1 8).2.1, (readK (bytesS b (getS false 1 b (prinS b k).2.1).2.1 8).1).2)
theorem skRd_1 {b : List UInt8} {k : Int} (h : ¬ (prinS b k).2.2 = 0) : skRd b k = (sk0, 0, false) := by rw [skRd, if_pos h]
theorem skRd_2 {b : List UInt8} {k : Int} (h : (prinS b k).2.2 = 0) (h2 : ¬ (getS false 1 b (prinS b k).2.1).2.2 = 0) : skRd b k = (sk0, 0, false) := by rw [skRd, if_neg (by simp [h]), if_pos h2]
theorem skRd_3 {b : List UInt8} {k : Int} (h : (prinS b k).2.2 = 0) (h2 : (getS false 1 b (prinS b k).2.1).2.2 = 0) (h3 : ¬ (bytesS b (getS false 1 b (prinS b k).2.1).2.1 8).2.2 = 0) : skRd b k = (sk0, 0, false) := by
  rw [skRd, if_neg (by simp [h]), if_neg (by simp [h2]), if_pos h3]
theorem skRd_4 {b : List UInt8} {k : Int} (h : (prinS b k).2.2 = 0) (h2 : (getS false 1 b (prinS b k).2.1).2.2 = 0) (h3 : (bytesS b (getS false 1 b (prinS b k).2.1).2.1 8).2.2 = 0) : skRd b k =
    (⟨(prinS b k).1.1, (prinS b k).1.2.1, (prinS b k).1.2.2, (getS false 1 b (prinS b k).2.1).1, (readK (bytesS b (getS false 1 b (prinS b k).2.1).2.1 8).1).1⟩,
    (bytesS b (getS false 1 b (prinS b k).2.1).2.1 8).2.1, (readK (bytesS b (getS false 1 b (prinS b k).2.1).2.1 8).1).2) := by
  rw [skRd, if_neg (by simp [h]), if_neg (by simp [h2]), if_neg (by simp [h3])]
theorem skRd_small (b : List UInt8) (k : Int) : skSm 40 (skRd b k).1 := by
  have h1 := prin_len b k
  have h2 := get1_range false b (prinS b k).2.1
  have h3 := readK_bounds (bytesS b (getS false 1 b (prinS b k).2.1).2.1 8).1
  unfold skRd
  split
  · simp [skSm, sk0]
  · split
    · simp [skSm, sk0]
    · split
      · simp [skSm, sk0]
      · exact ⟨h1.1, h1.2.1, h1.2.2, ⟨by show _ ≤ (getS false 1 b (prinS b k).2.1).1; omega, by show (getS false 1 b (prinS b k).2.1).1 ≤ _; omega⟩, h3⟩
theorem skRd_next (b : List UInt8) (k : Int) : 0 ≤ (skRd b k).2.1 ∧ (skRd b k).2.1 ≤ b.length := by
  have h := bytes_next b (getS false 1 b (prinS b k).2.1).2.1 8
  unfold skRd
  split
  · simp
  · split
    · simp
    · split
      · simp
      · exact h
/-- an element that stands in some bytes is read -/
theorem sfx_sk {b r : List UInt8} {K : Int} {s : SK} (h : Sfx b K (skB s ++ r)) (hv : validS s.x s.y s.z = true) (hn : 0 ≤ s.n ∧ s.n ≤ 255) (hk : keyOk s.k = true) (hk2 : 0 ≤ s.k ∧ s.k ≤ 18446744073709551615) :
    ∃ K1 K2 K3 K4 K', textS b K = (s.x, K1, 0) ∧ textS b K1 = (s.y, K2, 0) ∧ textS b K2 = (s.z, K3, 0) ∧ getS false 1 b K3 = (s.n, K4, 0) ∧ bytesS b K4 8 = (keyB s.k, K', 0) ∧ skRd b K = (s, K', true) ∧ Sfx b K' r := by
  have h : Sfx b K (s.x ++ ([0] ++ (s.y ++ ([0] ++ (s.z ++ ([0] ++ (numS false 1 s.n ++ (keyB s.k ++ r)))))))) := by simpa [skB] using h
  obtain ⟨K1, K2, K3, e1, e2, e3, e4, h1⟩ := sfx_texts h hv
  obtain ⟨K4, e5, h2⟩ := sfx_num1 h1 hn
  obtain ⟨K5, e6, h3⟩ := sfx_bytes (n := 8) h2 rfl
  refine ⟨K1, K2, K3, K4, K5, e1, e2, e3, e5, e6, ?_, h3⟩
  have er := readK_key hk2 hk
  rw [skRd_4] <;> simp [e4, e5, e6, er]
theorem key_range {k : Int} (h : keyOk k = true) : 0 ≤ k ∧ k ≤ 18446744073709551615 := by
  have h1 := keyOk_is h
  have h2 := key_parts k
  omega
/-- how far the program's decoder has come -/
def skI (b : List UInt8) (l : List SK) (k : Int) : Prop := ∀ l', skN l' = (b, 0) → ∃ r, l' = l ++ r ∧ k = (skBs l).length
theorem skI_0 (b : List UInt8) : skI b [] 0 := fun l' _ => ⟨l', rfl, rfl⟩
theorem skI_more {b : List UInt8} {l l' : List SK} {k : Int} (h : skI b l k) (hk : k < b.length) (hl : skN l' = (b, 0)) : ∃ s r, l' = l ++ s :: r ∧ validS s.x s.y s.z = true ∧ (0 ≤ s.n ∧ s.n ≤ 255) ∧ keyOk s.k = true ∧ k = (skBs l).length ∧ Sfx b k (skB s ++ skBs r) := by
  obtain ⟨r, h1, h2⟩ := h l' hl
  obtain ⟨c1, c2⟩ := skN_is hl
  match r with
  | [] =>
    rw [List.append_nil] at h1
    subst h1
    rw [c2] at h2
    omega
  | s :: r =>
    have hm := skC_mem c1 s (by rw [h1]; simp)
    exact ⟨s, r, h1, hm.1, hm.2.1, hm.2.2, h2, skBs l, by rw [← c2, h1, skBs_append, skBs_cons], h2⟩
theorem skI_step {b : List UInt8} {l : List SK} {k : Int} (h : skI b l k) (hk : k < b.length) (hr : (skRd b k).2.2 = true) : skI b (l ++ [(skRd b k).1]) (skRd b k).2.1 := by
  intro l' hl
  obtain ⟨s, r, h1, hv, hn, hok, h2, h3⟩ := skI_more h hk hl
  obtain ⟨K1, K2, K3, K4, K', _, _, _, _, _, e, p, q1, q2⟩ := sfx_sk h3 hv hn hok (key_range hok)
  rw [e]
  refine ⟨r, by rw [h1]; simp, ?_⟩
  obtain ⟨p0, g1, g2⟩ := h3
  show K' = _
  rw [skBs_append, skBs_one, List.length_append, q2]
  have := congrArg List.length q1
  have := congrArg List.length g1
  simp only [List.length_append] at *
  omega
theorem skI_bad {b : List UInt8} {l : List SK} {k : Int} (h : skI b l k) (hk : k < b.length) (hr : (skRd b k).2.2 = false) : skD b = ([], 100) := by
  refine skD_no fun l' hl => ?_
  obtain ⟨s, r, h1, hv, hn, hok, h2, h3⟩ := skI_more h hk hl
  obtain ⟨K1, K2, K3, K4, K', _, _, _, _, _, e, _⟩ := sfx_sk h3 hv hn hok (key_range hok)
  rw [e] at hr
  cases hr
theorem skI_end {b : List UInt8} {l l' : List SK} {k : Int} (h : skI b l k) (hk : ¬ k < b.length ∨ 60 < l.length) (hl : skN l' = (b, 0)) : l' = l := by
  obtain ⟨r, h1, h2⟩ := h l' hl
  obtain ⟨c1, c2⟩ := skN_is hl
  rcases hk with hk | hk
  · have : skBs r = [] := by
      have e : b.length = (skBs l).length + (skBs r).length := by rw [← c2, h1, skBs_append, List.length_append]
      exact List.eq_nil_of_length_eq_zero (by omega)
    match r with
    | [] => rw [h1, List.append_nil]
    | s :: r =>
      exfalso
      have := congrArg List.length this
      rw [skBs_cons, List.length_append, skB_len] at this
      simp at this
  · have := (skC_is c1).1
    rw [h1, List.length_append] at this
    omega
theorem skI_yes {b : List UInt8} {l : List SK} {k : Int} (h : skI b l k) (hk : ¬ k < b.length ∨ 60 < l.length) (h1 : (skN l).2 = 0) (h2 : (skN l).1 = b) : skD b = (l, 0) :=
  skD_yes (by rw [← h1, ← h2]) fun _ hl => skI_end h hk hl
theorem skI_no {b : List UInt8} {l : List SK} {k : Int} (h : skI b l k) (hk : ¬ k < b.length ∨ 60 < l.length) (h1 : ¬ (skN l).2 = 0 ∨ ¬ (skN l).1 = b) : skD b = ([], 100) := by
  refine skD_no fun l' hl => ?_
  have e := skI_end h hk hl
  subst e
  rw [hl] at h1
  simp at h1
/-- the keys that the laws make -/
def keyE (l : List UInt8) (i : Nat) : SK := ⟨serviceN (nx l (3 * i) 9), serviceI (nx l (3 * i) 9), realmN (nx l (3 * i) 9 / 3), nx l (3 * i + 1) 5, longK (nx l (3 * i + 2) 40)⟩
def keysS (l : List UInt8) : List SK := (List.range (min 70 ((l.length + 2) / 3))).map (keyE l)
theorem keysS_nil {l : List UInt8} (h : l.length = 0) : keysS l = [] := by simp [keysS, h]
theorem keysS_end {l : List UInt8} {j : Nat} (h1 : j = 0 ∨ 3 * (j - 1) < l.length) (h2 : ¬ (3 * j < l.length ∧ j < 70)) (h3 : j ≤ 70) : keysS l = (List.range j).map (keyE l) := by
  rw [keysS, show min 70 ((l.length + 2) / 3) = j by omega]
theorem keys_next (l : List UInt8) (j : Nat) : flat skR ((List.range j).map (keyE l)) ++ skR (keyE l j) = flat skR ((List.range (j + 1)).map (keyE l)) := by
  rw [List.range_succ, List.map_append, flat_append]
  simp [flat]
theorem keys_len (l : List UInt8) (j : Nat) : (flat skR ((List.range j).map (keyE l))).length = j * 5 := by
  rw [flat_len skR_len]; simp
theorem keyE_ok (l : List UInt8) (i : Nat) : validS (keyE l i).x (keyE l i).y (keyE l i).z = true ∧ (0 ≤ (keyE l i).n ∧ (keyE l i).n ≤ 255) ∧ keyOk (keyE l i).k = true := by
  have b1 := nx_bounds l (3 * i + 1) (n := 5) (by omega)
  have b2 := nx_bounds l (3 * i + 2) (n := 40) (by omega)
  refine ⟨?_, ⟨b1.1, by show nx l (3 * i + 1) 5 ≤ 255; omega⟩, (long_ok (by omega)).1⟩
  show validS (serviceN _) (serviceI _) (realmN _) = true
  obtain ⟨h1, h2⟩ := service_valid (nx l (3 * i) 9)
  unfold validS
  rw [h1, h2, realm_valid]; rfl
theorem sk_small {s : SK} (h : validS s.x s.y s.z = true ∧ (0 ≤ s.n ∧ s.n ≤ 255) ∧ keyOk s.k = true) : skSm 39 s := by
  obtain ⟨h1, h2, h3⟩ := h
  obtain ⟨l1, l2, l3⟩ := valid_len h1
  exact ⟨l1, l2, l3, by omega, key_range h3⟩
theorem sk_grow {A B : Nat} (hAB : A ≤ B) {s : SK} (h : skSm A s) : skSm B s := by
  obtain ⟨h1, h2, h3, h4⟩ := h
  exact ⟨by omega, by omega, by omega, h4⟩
theorem keysS_ok {l : List UInt8} : ∀ s ∈ keysS l, validS s.x s.y s.z = true ∧ (0 ≤ s.n ∧ s.n ≤ 255) ∧ keyOk s.k = true := by
  intro s hs
  obtain ⟨i, _, rfl⟩ := List.mem_map.1 hs
  exact keyE_ok l i
theorem keysS_len (l : List UInt8) : (keysS l).length ≤ 70 := by simp [keysS]; omega
/-- those of them that make no error -/
def goodK (O : List SK) (s : SK) : List SK := if O.length < 60 ∧ ∀ r, r < O.length → skIs s.x s.y s.z s.n (O.getD r sk0) = false then O ++ [s] else O
def goodS (l : List UInt8) : List SK := (keysS l).foldl goodK []
theorem goodK_yes {O : List SK} {s : SK} (h : O.length < 60) (h2 : ∀ r, r < O.length → skIs s.x s.y s.z s.n (O.getD r sk0) = false) : goodK O s = O ++ [s] := by rw [goodK, if_pos ⟨h, h2⟩]
theorem goodK_no {O : List SK} {s : SK} (h : ∃ r, r < O.length ∧ skIs s.x s.y s.z s.n (O.getD r sk0) = true) : goodK O s = O := by
  obtain ⟨r, h1, h2⟩ := h
  rw [goodK, if_neg (fun hh => by rw [hh.2 r h1] at h2; cases h2)]
theorem goodK_full {O : List SK} {s : SK} (h : ¬ O.length < 60) : goodK O s = O := by rw [goodK, if_neg (fun hh => h hh.1)]
theorem goodS_next {A O : List SK} {i : Nat} (hi : i < A.length) (hO : (A.take i).foldl goodK [] = O) : (A.take (i + 1)).foldl goodK [] = goodK O (A.getD i sk0) := by
  rw [take_getD_succ sk0 hi, List.foldl_append, hO]; rfl
theorem good_full {O : List SK} (h : ¬ O.length < 60) : ∀ A : List SK, A.foldl goodK O = O
  | [] => rfl
  | s :: A => by rw [List.foldl_cons, goodK_full h, good_full h A]
theorem goodS_end {A O : List SK} {i : Nat} (hO : (A.take i).foldl goodK [] = O) (h : A.length ≤ i ∨ ¬ O.length < 60) : A.foldl goodK [] = O := by
  rcases h with h | h
  · rwa [List.take_of_length_le h] at hO
  · conv => lhs; rw [← List.take_append_drop i A, List.foldl_append, hO]
    exact good_full h _
/-- no two versions are the same -/
def skGood (O : List SK) : Prop := O.length ≤ 60 ∧ (∀ s ∈ O, validS s.x s.y s.z = true ∧ (0 ≤ s.n ∧ s.n ≤ 255) ∧ keyOk s.k = true) ∧ ∀ i, i < O.length → ∀ r, r < i → skIs (O.getD i sk0).x (O.getD i sk0).y (O.getD i sk0).z (O.getD i sk0).n (O.getD r sk0) = false
theorem skGood_nil : skGood [] := ⟨by simp, by simp, by simp⟩
theorem skGood_add {O : List SK} {s : SK} (h : skGood O) (hl : O.length < 60) (hs : validS s.x s.y s.z = true ∧ (0 ≤ s.n ∧ s.n ≤ 255) ∧ keyOk s.k = true) (h2 : ∀ r, r < O.length → skIs s.x s.y s.z s.n (O.getD r sk0) = false) : skGood (O ++ [s]) := by
  obtain ⟨g1, g2, g3⟩ := h
  refine ⟨by simp; omega, fun t ht => ?_, fun i hi r hr => ?_⟩
  · rcases List.mem_append.1 ht with q | q
    · exact g2 t q
    · simp at q; subst q; exact hs
  · rw [List.length_append, List.length_singleton] at hi
    by_cases e : i < O.length
    · rw [app_getD e, app_getD (by omega)]; exact g3 i e r hr
    · have e : i = O.length := by omega
      subst e
      have : (O ++ [s]).getD O.length sk0 = s := by rw [app_getD' (Nat.le_refl _)]; simp
      rw [this, app_getD hr]
      exact h2 r hr
theorem skGood_C {O : List SK} (h : skGood O) : skC O = 0 := by
  obtain ⟨g1, g2, g3⟩ := h
  refine skC_ok (by omega) fun i hi => ?_
  obtain ⟨h1, h2, h3⟩ := g2 _ (getD_mem (d := sk0) hi)
  refine skE_ok rfl h1 (by omega) h3 fun hlt => ?_
  have := find_hit (p := skIs (O.getD i sk0).x (O.getD i sk0).y (O.getD i sk0).z (O.getD i sk0).n) (l := O) sk0 (Nat.lt_trans hlt hi)
  have h4 := g3 i hi _ hlt
  unfold skAt at h4
  rw [this] at h4
  cases h4
theorem good_fold {A : List SK} : ∀ {O : List SK}, skGood O → (∀ s ∈ A, validS s.x s.y s.z = true ∧ (0 ≤ s.n ∧ s.n ≤ 255) ∧ keyOk s.k = true) → skGood (A.foldl goodK O) := by
  induction A with
  | nil => intro O h _; exact h
  | cons s A ih =>
    intro O h hA
    rw [List.foldl_cons]
    refine ih ?_ fun t ht => hA t (by simp [ht])
    unfold goodK
    split
    · rename_i hh; exact skGood_add h hh.1 (hA s (by simp)) hh.2
    · exact h
theorem goodS_good (l : List UInt8) : skGood (goodS l) := good_fold skGood_nil keysS_ok
theorem skBs_take {l : List SK} {j : Nat} (h : j < l.length) : skBs (l.take (j + 1)) = skBs (l.take j) ++ (l.getD j sk0).x ++ [0] ++ (l.getD j sk0).y ++ [0] ++ (l.getD j sk0).z ++ [0] ++ numS false 1 (l.getD j sk0).n ++ keyB (l.getD j sk0).k := by
  rw [take_getD_succ sk0 h, skBs_append, skBs_one, skB]
  simp only [List.append_assoc]
theorem skBs_part {l : List SK} (h : skC l = 0) (j : Nat) : (skBs (l.take j)).length ≤ 60 * 129 := by
  have h1 := (skC_is h).1
  have h2 := skBs_len (l := l.take j) (B := 39) fun s hs => sk_small (skC_mem h s (List.mem_of_mem_take hs))
  have h3 : (l.take j).length ≤ 60 := by simp; omega
  have h4 : (l.take j).length * (3 * 39 + 12) ≤ 60 * (3 * 39 + 12) := Nat.mul_le_mul_right _ h3
  omega
theorem skN_len (l : List SK) : (skN l).1.length ≤ 7740 := by
  unfold skN
  split
  · rename_i h
    have := skBs_part h l.length
    rw [List.take_length] at this
    exact this
  · simp
theorem skD_mem {b : List UInt8} : ∀ s ∈ (skD b).1, skSm 39 s := by
  intro s hs
  unfold skD at hs
  split at hs
  · rename_i h
    exact sk_small (skC_mem (skN_is (Classical.choose_spec h)).1 s hs)
  · cases hs
theorem skD_len (b : List UInt8) : (skD b).1.length ≤ 60 := by
  unfold skD
  split
  · rename_i h
    exact (skC_is (skN_is (Classical.choose_spec h)).1).1
  · simp
/-- the document's reader at an element -/
structure SkR where
  k1 : Int
  k2 : Int
  k3 : Int
  b3 : Bool
  k4 : Int
  b4 : Bool
  k5 : Int
  b5 : Bool
  s : SK
def skRr (b : List UInt8) (k : Int) (bad : Bool) : SkR :=
  let k1 := mvA k bad (textS b k).2.1 (textS b k).2.2
  let b1 := mvB bad (textS b k).2.2
  let k2 := mvA k1 b1 (textS b k1).2.1 (textS b k1).2.2
  let b2 := mvB b1 (textS b k1).2.2
  let k3 := mvA k2 b2 (textS b k2).2.1 (textS b k2).2.2
  let b3 := mvB b2 (textS b k2).2.2
  let k4 := mvA k3 b3 (getS false 1 b k3).2.1 (getS false 1 b k3).2.2
  let b4 := mvB b3 (getS false 1 b k3).2.2
  let k5 := mvA k4 b4 (bytesS b k4 8).2.1 (bytesS b k4 8).2.2
  let b5 := mvB b4 (bytesS b k4 8).2.2
  ⟨k1, k2, k3, b3, k4, b4, k5, b5, ⟨(textS b k).1, (textS b k1).1, (textS b k2).1, (getS false 1 b k3).1, (readK (bytesS b k4 8).1).1⟩⟩
theorem mvA_ge {k n e : Int} {bad : Bool} (h : 0 ≤ k) (hn : 0 ≤ n) : 0 ≤ mvA k bad n e := by unfold mvA; split <;> omega
theorem skRr_bounds {b : List UInt8} {k : Int} (bad : Bool) (hk : 0 ≤ k ∧ k ≤ b.length) : (0 ≤ (skRr b k bad).k1 ∧ (skRr b k bad).k1 ≤ b.length) ∧ (0 ≤ (skRr b k bad).k2 ∧ (skRr b k bad).k2 ≤ b.length) ∧ (0 ≤ (skRr b k bad).k3 ∧ (skRr b k bad).k3 ≤ b.length) ∧ (0 ≤ (skRr b k bad).k4 ∧ (skRr b k bad).k4 ≤ b.length) ∧ (0 ≤ (skRr b k bad).k5 ∧ (skRr b k bad).k5 ≤ b.length) := by
  have h1 := mvA_bounds (bad := bad) (e := (textS b k).2.2) hk (text_next b k)
  have h2 := mvA_bounds (bad := mvB bad (textS b k).2.2) (e := (textS b (skRr b k bad).k1).2.2) h1 (text_next b (skRr b k bad).k1)
  have h3 := mvA_bounds (bad := mvB (mvB bad (textS b k).2.2) (textS b (skRr b k bad).k1).2.2) (e := (textS b (skRr b k bad).k2).2.2) h2 (text_next b (skRr b k bad).k2)
  have h4 := mvA_bounds (bad := (skRr b k bad).b3) (e := (getS false 1 b (skRr b k bad).k3).2.2) h3 (get_next false 1 b (skRr b k bad).k3)
  have h5 := mvA_bounds (bad := (skRr b k bad).b4) (e := (bytesS b (skRr b k bad).k4 8).2.2) h4 (bytes_next b (skRr b k bad).k4 8)
  exact ⟨h1, h2, h3, h4, h5⟩
theorem skRr_small (b : List UInt8) (k : Int) (bad : Bool) : skSm 40 (skRr b k bad).s := by
  have h2 := get1_range false b (skRr b k bad).k3
  exact ⟨text_len _ _, text_len _ _, text_len _ _, ⟨by show _ ≤ (getS false 1 b (skRr b k bad).k3).1; omega, by show (getS false 1 b (skRr b k bad).k3).1 ≤ _; omega⟩, readK_bounds _⟩
theorem mvB_false {bad : Bool} {e : Int} (h : mvB bad e = false) : bad = false ∧ e = 0 := by
  unfold mvB at h
  rw [Bool.or_eq_false_iff, decide_eq_false_iff_not] at h
  exact ⟨h.1, Decidable.not_not.mp h.2⟩
theorem mvA_none {k n e : Int} {bad : Bool} (h : mvB bad e = false) : mvA k bad n e = n := by
  obtain ⟨h1, h2⟩ := mvB_false h
  rw [h1, h2]; exact mvA_ok k n
/-- what the document's reader read without an error stood there -/
theorem skRr_fwd {b p : List UInt8} {k : Int} {bad : Bool} (h : (skRr b k bad).b5 = false) (hp : Pfx b k p) (hk : keyOk (skRr b k bad).s.k = true) : Pfx b (skRr b k bad).k5 (p ++ skB (skRr b k bad).s) := by
  obtain ⟨h5, e5⟩ := mvB_false h
  obtain ⟨h4, e4⟩ := mvB_false h5
  obtain ⟨h3, e3⟩ := mvB_false h4
  obtain ⟨h2, e2⟩ := mvB_false h3
  obtain ⟨h1, e1⟩ := mvB_false h2
  have q1 : (skRr b k bad).k1 = (textS b k).2.1 := mvA_none h2
  have q2 : (skRr b k bad).k2 = (textS b (skRr b k bad).k1).2.1 := mvA_none h3
  have q3 : (skRr b k bad).k3 = (textS b (skRr b k bad).k2).2.1 := mvA_none h4
  have q4 : (skRr b k bad).k4 = (getS false 1 b (skRr b k bad).k3).2.1 := mvA_none h5
  have q5 : (skRr b k bad).k5 = (bytesS b (skRr b k bad).k4 8).2.1 := mvA_none h
  have p1 := fwd_text e1 hp
  rw [← q1] at p1
  have p2 := fwd_text e2 p1
  change Pfx b (textS b (skRr b k bad).k1).2.1 _ at p2
  rw [← q2] at p2
  have p3 := fwd_text e3 p2
  change Pfx b (textS b (skRr b k bad).k2).2.1 _ at p3
  rw [← q3] at p3
  have p4 := fwd_get (fun d hd => back1 false hd) e4 p3
  change Pfx b (getS false 1 b (skRr b k bad).k3).2.1 _ at p4
  rw [← q4] at p4
  have p5 := (fwd_bytes e5 p4).1
  change Pfx b (bytesS b (skRr b k bad).k4 8).2.1 _ at p5
  rw [← q5] at p5
  have ek : keyB (skRr b k bad).s.k = (bytesS b (skRr b k bad).k4 8).1 := key_back (key_ok hk)
  have : p ++ skB (skRr b k bad).s = p ++ (textS b k).1 ++ [0] ++ (textS b (skRr b k bad).k1).1 ++ [0] ++ (textS b (skRr b k bad).k2).1 ++ [0] ++ numS false 1 (getS false 1 b (skRr b k bad).k3).1 ++ (bytesS b (skRr b k bad).k4 8).1 := by
    rw [skB, ek]
    simp only [List.append_assoc]
    rfl
  rw [this]
  exact p5
theorem skRr_more {b : List UInt8} {k : Int} {bad : Bool} (h : (skRr b k bad).b5 = false) : k < (skRr b k bad).k5 := by
  obtain ⟨h5, e5⟩ := mvB_false h
  obtain ⟨h4, e4⟩ := mvB_false h5
  obtain ⟨h3, e3⟩ := mvB_false h4
  obtain ⟨h2, e2⟩ := mvB_false h3
  obtain ⟨h1, e1⟩ := mvB_false h2
  have g1 := text_more e1
  have g2 := text_more e2
  have g3 := text_more e3
  have g4 := (get_more e4).1
  have g5 := (bytes_more e5).1
  have q1 : (skRr b k bad).k1 = (textS b k).2.1 := mvA_none h2
  have q2 : (skRr b k bad).k2 = (textS b (skRr b k bad).k1).2.1 := mvA_none h3
  have q3 : (skRr b k bad).k3 = (textS b (skRr b k bad).k2).2.1 := mvA_none h4
  have q4 : (skRr b k bad).k4 = (getS false 1 b (skRr b k bad).k3).2.1 := mvA_none h5
  have q5 : (skRr b k bad).k5 = (bytesS b (skRr b k bad).k4 8).2.1 := mvA_none h
  change (skRr b k bad).k1 < (textS b (skRr b k bad).k1).2.1 at g2
  change (skRr b k bad).k2 < (textS b (skRr b k bad).k2).2.1 at g3
  change (getS false 1 b (skRr b k bad).k3).2.1 = (skRr b k bad).k3 + (1 : Nat) at g4
  change (bytesS b (skRr b k bad).k4 8).2.1 = (skRr b k bad).k4 + 8 at g5
  omega
/-- an element that stands there is read by the document's reader -/
theorem sfx_skr {b r : List UInt8} {K : Int} {s : SK} (h : Sfx b K (skB s ++ r)) (hv : validS s.x s.y s.z = true) (hn : 0 ≤ s.n ∧ s.n ≤ 255) (hk : keyOk s.k = true) : ∃ K', (skRr b K false).s = s ∧ (skRr b K false).k5 = K' ∧ (skRr b K false).b5 = false ∧ Sfx b K' r := by
  obtain ⟨K1, K2, K3, K4, K', e1, e2, e3, e4, e5, _, h2⟩ := sfx_sk h hv hn hk (key_range hk)
  have q := readK_key (key_range hk) hk
  refine ⟨K', ?_, ?_, ?_, h2⟩ <;> simp [skRr, e1, e2, e3, e4, e5, q]
/-- how far the document's decoder has come -/
def skJ (b : List UInt8) (l : List SK) (k : Int) (bad : Bool) : Prop := (∀ l', skN l' = (b, 0) → bad = false ∧ ∃ r, l' = l ++ r ∧ k = (skBs l).length) ∧ (bad = false → (∀ s ∈ l, keyOk s.k = true) → Pfx b k (skBs l))
theorem skJ_0 (b : List UInt8) : skJ b [] 0 false := ⟨fun l' _ => ⟨rfl, l', rfl, rfl⟩, fun _ _ => pfx_0 b⟩
theorem skJ_step {b : List UInt8} {l : List SK} {k : Int} (h : skJ b l k false) (hk : k < b.length) : skJ b (l ++ [(skRr b k false).s]) (skRr b k false).k5 (skRr b k false).b5 := by
  refine ⟨fun l' hl => ?_, fun hb hs => ?_⟩
  · have hI : skI b l k := fun l' hl => (h.1 l' hl).2
    obtain ⟨s, r, h1, hv, hn, hok, h2, h3⟩ := skI_more hI hk hl
    obtain ⟨K', e1, e2, e3, q1, q2, q3⟩ := sfx_skr h3 hv hn hok
    refine ⟨e3, r, by rw [h1, e1]; simp, ?_⟩
    obtain ⟨p0, g1, g2⟩ := h3
    rw [e1, e2, skBs_append, skBs_one, List.length_append, q3]
    have := congrArg List.length q2
    have := congrArg List.length g1
    simp only [List.length_append] at *
    omega
  · rw [skBs_append, skBs_one]
    exact skRr_fwd hb (h.2 rfl fun s hm => hs s (by simp [hm])) (hs _ (by simp))
theorem skJ_bad {b : List UInt8} {l : List SK} {k : Int} (h : skJ b l k true) : skD b = ([], 100) := skD_no fun l' hl => by
  have := (h.1 l' hl).1
  cases this
theorem skJ_no {b : List UInt8} {l : List SK} {k : Int} {bad : Bool} (h : skJ b l k bad) (hk : ¬ k < b.length) (hc : ¬ skC l = 0) : skD b = ([], 100) := skD_no fun l' hl => by
  have hI : skI b l k := fun l' hl => (h.1 l' hl).2
  have e := skI_end hI (.inl hk) hl
  subst e
  exact hc (skN_is hl).1
theorem skJ_yes {b : List UInt8} {l : List SK} {k : Int} (h : skJ b l k false) (hk : ¬ k < b.length) (hc : skC l = 0) : skD b = (l, 0) := by
  have hI : skI b l k := fun l' hl => (h.1 l' hl).2
  have e := pfx_end (h.2 rfl fun s hs => (skC_mem hc s hs).2.2) hk
  exact skD_yes (by rw [skN_ok hc, e]) fun l' hl => skI_end hI (.inl hk) hl
/-- an encoding is that of one list -/
theorem sk_uniq {b : List UInt8} : ∀ {r r' : List SK} {K : Int}, (∀ s ∈ r, validS s.x s.y s.z = true ∧ (0 ≤ s.n ∧ s.n ≤ 255) ∧ keyOk s.k = true) → (∀ s ∈ r', validS s.x s.y s.z = true ∧ (0 ≤ s.n ∧ s.n ≤ 255) ∧ keyOk s.k = true) → Sfx b K (skBs r) → Sfx b K (skBs r') → r' = r
  | [], [], K, _, _, _, _ => rfl
  | [], s :: r', K, _, _, h, h' => by
    exfalso
    have e := sfx_end h
    obtain ⟨p, h1, h2⟩ := h'
    have := congrArg List.length h1
    rw [List.length_append, skBs_cons, List.length_append, skB_len] at this
    omega
  | s :: r, [], K, _, _, h, h' => by
    exfalso
    have e := sfx_end h'
    obtain ⟨p, h1, h2⟩ := h
    have := congrArg List.length h1
    rw [List.length_append, skBs_cons, List.length_append, skB_len] at this
    omega
  | s :: r, s' :: r', K, g, g', h, h' => by
    rw [skBs_cons] at h h'
    obtain ⟨v1, v2, v3⟩ := g s (by simp)
    obtain ⟨w1, w2, w3⟩ := g' s' (by simp)
    obtain ⟨_, _, _, _, K', _, _, _, _, _, e, q⟩ := sfx_sk h v1 v2 v3 (key_range v3)
    obtain ⟨_, _, _, _, K'', _, _, _, _, _, e', q'⟩ := sfx_sk h' w1 w2 w3 (key_range w3)
    rw [e] at e'
    simp only [Prod.mk.injEq, and_true] at e'
    obtain ⟨rfl, rfl⟩ := e'
    rw [sk_uniq (fun t ht => g t (by simp [ht])) (fun t ht => g' t (by simp [ht])) q q']
theorem skD_trip {l : List SK} (h : (skN l).2 = 0) : skD (skN l).1 = (l, 0) := by
  have h1 : skC l = 0 := by
    unfold skN at h
    split at h
    · assumption
    · exact h
  refine skD_yes (by rw [skN_ok h1]) fun l' hl => ?_
  obtain ⟨c1, c2⟩ := skN_is hl
  rw [skN_ok h1] at c2
  refine sk_uniq (b := skBs l) (K := 0) (skC_mem h1) (skC_mem c1) (sfx_0 _) ?_
  rw [c2]; exact sfx_0 _
theorem skA_len (l : List SK) (s : SK) : (skA l s).1.length ≤ l.length + 1 := by
  unfold skA
  split <;> simp
/-- a list that is too long for the laws -/
def skLg (l : List SK) : Bool := decide (70 < l.length) || l.any fun s => decide (100 < s.x.length ∨ 100 < s.y.length ∨ 100 < s.z.length)
theorem skLg_is {l : List SK} (h : skLg l = false) : l.length ≤ 70 ∧ ∀ s ∈ l, s.x.length ≤ 100 ∧ s.y.length ≤ 100 ∧ s.z.length ≤ 100 := by
  unfold skLg at h
  rw [Bool.or_eq_false_iff, decide_eq_false_iff_not, List.any_eq_false] at h
  refine ⟨by omega, fun s hs => ?_⟩
  have := h.2 s hs
  rw [decide_eq_true_eq] at this
  omega
theorem skLg_long {l : List SK} (h : 70 < l.length) : skLg l = true := by rw [skLg, decide_eq_true h]; rfl
theorem skLg_at {l : List SK} {j : Nat} (h : j < l.length) (h2 : 100 < (l.getD j sk0).x.length ∨ 100 < (l.getD j sk0).y.length ∨ 100 < (l.getD j sk0).z.length) : skLg l = true := by
  unfold skLg
  rw [Bool.or_eq_true]
  right
  rw [List.any_eq_true]
  exact ⟨_, getD_mem (d := sk0) h, decide_eq_true h2⟩
theorem skLg_no {l : List SK} (h : ¬ 70 < l.length) (h2 : ∀ i, i < l.length → ¬ (100 < (l.getD i sk0).x.length ∨ 100 < (l.getD i sk0).y.length ∨ 100 < (l.getD i sk0).z.length)) : skLg l = false := by
  unfold skLg
  rw [decide_eq_false h, Bool.false_or, List.any_eq_false]
  intro s hs
  obtain ⟨j, hj, rfl⟩ := mem_getD sk0 hs
  rw [decide_eq_true_eq]
  exact h2 j hj
/-- an element in which one cell is laid anew -/
theorem put_mid {a r b ls : List L} {o : Nat} (h : o + ls.length ≤ r.length) : putAt (a ++ (r ++ b)) (a.length + o) ls = a ++ (putAt r o ls ++ b) := by
  unfold putAt
  rw [List.take_append, List.take_of_length_le (by omega : a.length ≤ a.length + o), show a.length + o - a.length = o by omega, List.take_append_of_le_length (by omega), List.drop_append, List.drop_of_length_le (by omega : a.length ≤ a.length + o + ls.length), show a.length + o + ls.length - a.length = o + ls.length by omega, List.drop_append_of_le_length h]
  simp only [List.append_assoc, List.nil_append]
theorem put_sk {A : List SK} {k o : Nat} {v : L} {s' : SK} (h : k < A.length) (ho : o < 5) (hv : putAt (skR (A.getD k sk0)) o [v] = skR s') : putAt (flat skR A) (k * 5 + o) [v] = flat skR (A.set k s') := by
  have e1 : flat skR A = flat skR (A.take k) ++ (skR (A.getD k sk0) ++ flat skR (A.drop (k + 1))) := by
    conv => lhs; rw [← List.take_append_drop k A, flat_append, drop_getD_cons sk0 h, flat_cons]
  have e2 : (flat skR (A.take k)).length = k * 5 := by rw [flat_len skR_len, List.length_take, Nat.min_eq_left (by omega)]
  rw [e1, ← e2, put_mid (by show o + 1 ≤ 5; omega), hv, List.set_eq_take_append_cons_drop, if_pos h, flat_append, flat_cons]
/-- what adding a key leads to -/
theorem skAt_app {O : List SK} {s : SK} {x y z : List UInt8} {n : Int} (h : skAt O x y z n < O.length) : skAt (O ++ [s]) x y z n = skAt O x y z n := by
  have h1 := find_hit (p := skIs x y z n) (l := O) sk0 h
  refine find_at sk0 (by rw [List.length_append]; omega) (fun i hi => ?_) ?_
  · rw [app_getD (Nat.lt_trans hi h)]; exact find_miss sk0 hi
  · rw [app_getD h]; exact h1
theorem add_full {O : List SK} (s : SK) (h : O.length = 60) : (skA O s).2 ≠ 0 := by
  have : skC (O ++ [s]) = 106 := skC_many (by simp [h])
  rw [skA_no this (by decide)]; decide
theorem add_had {O : List SK} {x y z : List UInt8} {n k : Int} (h : (skF O x y z n).2 = true) : (skA O ⟨x, y, z, n, k⟩).2 ≠ 0 := by
  have hlt : skAt O x y z n < O.length := by
    have := skAt_le O x y z n
    unfold skF at h
    split at h
    · cases h
    · omega
  by_cases hc : skC (O ++ [⟨x, y, z, n, k⟩]) = 0
  · exfalso
    have := (skE_is ((skC_is hc).2 O.length (by simp))).2.2.2
    rw [app_getD' (Nat.le_refl _)] at this
    simp only [Nat.sub_self, List.getD_cons_zero] at this
    rw [skAt_app hlt] at this
    omega
  · rw [skA_no rfl hc]; exact hc
theorem miss_of {O : List SK} {x y z : List UInt8} {n : Int} (h : (skF O x y z n).2 = false) : skAt O x y z n = O.length ∧ ∀ r, r < O.length → skIs x y z n (O.getD r sk0) = false := by
  have e : skAt O x y z n = O.length := by
    unfold skF at h
    split at h
    · assumption
    · cases h
  exact ⟨e, fun r hr => find_miss sk0 (by show r < skAt O x y z n; omega)⟩
theorem add_new {O : List SK} {x y z : List UInt8} {n k : Int} (hO : skGood O) (hl : O.length < 60) (hs : validS x y z = true ∧ (0 ≤ n ∧ n ≤ 255) ∧ keyOk k = true) (h : (skF O x y z n).2 = false) :
    skA O ⟨x, y, z, n, k⟩ = (O ++ [⟨x, y, z, n, k⟩], 0) ∧ skF (O ++ [⟨x, y, z, n, k⟩]) x y z n = (k, true) := by
  obtain ⟨h1, h2⟩ := miss_of h
  refine ⟨skA_ok (skGood_C (skGood_add hO hl hs h2)) rfl, ?_⟩
  have e : skAt (O ++ [⟨x, y, z, n, k⟩]) x y z n = O.length := find_at sk0 (by simp) (fun i hi => by rw [app_getD hi]; exact h2 i hi) (by rw [app_getD' (Nat.le_refl _)]; simp [skIs])
  rw [skF_yes e (by simp), app_getD' (Nat.le_refl _)]
  simp
theorem latS_none (x y z : List UInt8) : ∀ l : List SK, (latS l x y z).2 = false → (latS l x y z).1 = -1 := by
  intro l
  suffices h : ∀ (l : List SK) (a : Int × Bool), (a.2 = false → a.1 = -1) → ((l.foldl (latK x y z) a).2 = false → (l.foldl (latK x y z) a).1 = -1) from h l (-1, false) (fun _ => rfl)
  intro l
  induction l with
  | nil => intro a h; exact h
  | cons s l ih =>
    intro a h
    rw [List.foldl_cons]
    refine ih _ ?_
    unfold latK
    split
    · intro h; cases h
    · exact h
theorem lat_same {O : List SK} {x y z : List UInt8} {n k : Int} (hn : 0 ≤ n) : (latS (O ++ [⟨x, y, z, n, k⟩]) x y z).1 = if n > (latS O x y z).1 then n else (latS O x y z).1 := by
  rw [latS_app]
  have h := latS_none x y z O
  generalize latS O x y z = a at *
  unfold latK
  split
  · rename_i hh
    rcases hh.2 with h2 | h2
    · rw [if_pos (by have := h h2; omega)]
    · rw [if_pos h2]
  · rename_i hh
    rw [if_neg (fun h2 => hh ⟨⟨rfl, rfl, rfl⟩, .inr h2⟩)]
theorem lat_other {O : List SK} {x y z u v w : List UInt8} {n k : Int} (h : ¬ (x = u ∧ y = v ∧ z = w)) : latS (O ++ [⟨x, y, z, n, k⟩]) u v w = latS O u v w := by
  rw [latS_app, latK_no h]
end Go.Sx

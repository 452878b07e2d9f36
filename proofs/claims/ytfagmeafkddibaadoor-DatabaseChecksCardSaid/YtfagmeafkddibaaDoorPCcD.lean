/-
  The caches that the laws make, as plain functions: for every input.
-/
import Derived.Test.YtfagmeafkddibaaDoorPCc
set_option linter.all false
namespace Go.Sx
theorem range_getD {n i : Nat} (h : i < n) : (List.range n).getD i 0 = i := by
  rw [List.getD_eq_getElem?_getD, List.getElem?_range h]; rfl
/-- how many bytes a ticket has that is made from the k-th number on -/
def credJ (l : List UInt8) (k : Nat) : Nat := (List.range 30).findIdx fun j => decide (nx l (k + 2 * j) 30 ≤ (j : Int))
theorem credJ_at {l : List UInt8} {k j : Nat} (h : ∀ i, i < j → (i : Int) < nx l (k + 2 * i) 30) (h2 : ¬ (j : Int) < nx l (k + 2 * j) 30) : credJ l k = j := by
  have b : ∀ i, nx l (k + 2 * i) 30 < 30 := fun i => (nx_bounds l _ (by omega)).2
  have hj : j < 30 := by
    by_cases h0 : j = 0
    · omega
    · have h1 := h (j - 1) (by omega)
      have h3 := b (j - 1)
      omega
  refine find_at 0 (by simpa using hj) (fun i hi => ?_) ?_
  · rw [range_getD (by omega)]; exact decide_eq_false (by have := h i hi; omega)
  · rw [range_getD hj]; exact decide_eq_true (by omega)
theorem credJ_le (l : List UInt8) (k : Nat) : credJ l k ≤ 30 := by
  have : credJ l k ≤ (List.range 30).length := List.findIdx_le_length
  simpa using this
def credT (l : List UInt8) (k n : Nat) : List UInt8 := (List.range n).map fun i => byteOf (nx l (k + 2 * i + 1) 256)
theorem credT_len (l : List UInt8) (k n : Nat) : (credT l k n).length = n := by simp [credT]
theorem credT_next (l : List UInt8) (k n : Nat) : credT l k (n + 1) = credT l k n ++ [byteOf (nx l (k + 2 * n + 1) 256)] := by
  rw [credT, List.range_succ, List.map_append]; rfl
def credE (l : List UInt8) (k : Nat) : CR := ⟨serviceN (nx l k 9), serviceI (nx l k 9), realmN (nx l k 9 / 3), sessN (nx l (k + 1) 9), nx l (k + 2) 256, nx l (k + 3) 256, nx l (k + 4) 256 * 100, credT l (k + 5) (credJ l (k + 5))⟩
def credP (l : List UInt8) (k : Nat) : Nat := k + 5 + 2 * credJ l (k + 5) + 1
def crSv (s : CR) : List UInt8 × List UInt8 × List UInt8 := (s.x, s.y, s.z)
def svN (n : Nat) : List UInt8 × List UInt8 × List UInt8 := (serviceN n, serviceI n, realmN ((n : Int) / 3))
theorem credE_ok (l : List UInt8) (k : Nat) : crV (credE l k) ∧ ∃ n, n < 9 ∧ crSv (credE l k) = svN n := by
  have b0 := nx_bounds l k (n := 9) (by omega)
  have b1 := nx_bounds l (k + 1) (n := 9) (by omega)
  have b2 := nx_bounds l (k + 2) (n := 256) (by omega)
  have b3 := nx_bounds l (k + 3) (n := 256) (by omega)
  have b4 := nx_bounds l (k + 4) (n := 256) (by omega)
  refine ⟨⟨?_, (sess_ok (by omega)).1, ⟨⟨b2.1, by show nx l (k + 2) 256 ≤ 255; omega⟩, ⟨b3.1, by show nx l (k + 3) 256 ≤ 255; omega⟩, ⟨by show 0 ≤ nx l (k + 4) 256 * 100; omega, by show nx l (k + 4) 256 * 100 ≤ 4294967295; omega⟩⟩, ?_⟩, (nx l k 9).toNat, by omega, ?_⟩
  · show validS (serviceN _) (serviceI _) (realmN _) = true
    obtain ⟨h1, h2⟩ := service_valid (nx l k 9)
    unfold validS
    rw [h1, h2, realm_valid]; rfl
  · show (credT l (k + 5) (credJ l (k + 5))).length ≤ 255
    have := credJ_le l (k + 5)
    rw [credT_len]; omega
  · show (_, _, _) = (_, _, _)
    rw [show (((nx l k 9).toNat : Nat) : Int) = nx l k 9 by omega]; rfl
theorem crV_small {s : CR} (h : crV s) : crSm 255 s := by
  obtain ⟨h1, h2, h3, h4⟩ := h
  obtain ⟨l1, l2, l3⟩ := valid_len h1
  have hk := keyOk_is h2
  have hk2 := key_parts s.k
  unfold crR0 at h3
  exact ⟨by omega, by omega, by omega, h4, by omega, by unfold i64R; omega, by unfold i64R; omega, by unfold i64R; omega⟩
theorem cr_grow {A B : Nat} (hAB : A ≤ B) {s : CR} (h : crSm A s) : crSm B s := by
  obtain ⟨h1, h2, h3, h4, h5⟩ := h
  exact ⟨by omega, by omega, by omega, by omega, h5⟩
/-- a cache grows by the credentials of other services -/
def cacheK (O : List CR) (s : CR) : List CR := if ∀ r, r < O.length → crIs s.x s.y s.z (O.getD r cr0) = false then O ++ [s] else O
theorem cacheK_yes {O : List CR} {s : CR} (h : ∀ r, r < O.length → crIs s.x s.y s.z (O.getD r cr0) = false) : cacheK O s = O ++ [s] := by rw [cacheK, if_pos h]
theorem cacheK_no {O : List CR} {s : CR} (h : ∃ r, r < O.length ∧ crIs s.x s.y s.z (O.getD r cr0) = true) : cacheK O s = O := by
  obtain ⟨r, h1, h2⟩ := h
  rw [cacheK, if_neg (fun hh => by rw [hh r h1] at h2; cases h2)]
theorem eqr {x y z : List UInt8} (s : CR) : (s.x == x && (s.y == y && (s.z == z && true))) = crIs x y z s := by simp [crIs]
def cachP (l : List UInt8) : Nat → Nat
  | 0 => 0
  | j + 1 => credP l (cachP l j)
def cachO (l : List UInt8) : Nat → List CR
  | 0 => []
  | j + 1 => cacheK (cachO l j) (credE l (cachP l j))
theorem cachP_ge (l : List UInt8) : ∀ j, j ≤ cachP l j
  | 0 => Nat.le_refl _
  | j + 1 => by have := cachP_ge l j; show j + 1 ≤ credP l (cachP l j); unfold credP; omega
theorem cachO_le (l : List UInt8) : ∀ j, (cachO l j).length ≤ j
  | 0 => Nat.le_refl _
  | j + 1 => by
    have := cachO_le l j
    show (cacheK (cachO l j) (credE l (cachP l j))).length ≤ j + 1
    unfold cacheK
    split
    · rw [List.length_append, List.length_singleton]; omega
    · omega
def cachN (l : List UInt8) : Nat := (List.range (l.length + 1)).findIdx fun j => decide (l.length ≤ cachP l j)
theorem cachN_at {l : List UInt8} {j : Nat} (h : ∀ i, i < j → cachP l i < l.length) (h2 : ¬ cachP l j < l.length) : cachN l = j := by
  have hj : j < l.length + 1 := by
    by_cases h0 : j = 0
    · omega
    · have h1 := h (j - 1) (by omega)
      have h3 := cachP_ge l (j - 1)
      omega
  refine find_at 0 (by simpa using hj) (fun i hi => ?_) ?_
  · rw [range_getD (by omega)]; exact decide_eq_false (by have := h i hi; omega)
  · rw [range_getD hj]; exact decide_eq_true (by omega)
def cachS (l : List UInt8) : List CR := cachO l (cachN l)
/-- no two credentials are for the same service -/
def crGood (O : List CR) : Prop := (∀ s ∈ O, crV s ∧ ∃ n, n < 9 ∧ crSv s = svN n) ∧ ∀ i, i < O.length → ∀ r, r < i → crIs (O.getD i cr0).x (O.getD i cr0).y (O.getD i cr0).z (O.getD r cr0) = false
theorem crGood_add {O : List CR} {s : CR} (h : crGood O) (hs : crV s ∧ ∃ n, n < 9 ∧ crSv s = svN n) (h2 : ∀ r, r < O.length → crIs s.x s.y s.z (O.getD r cr0) = false) : crGood (O ++ [s]) := by
  obtain ⟨g2, g3⟩ := h
  refine ⟨fun t ht => ?_, fun i hi r hr => ?_⟩
  · rcases List.mem_append.1 ht with q | q
    · exact g2 t q
    · simp at q; subst q; exact hs
  · rw [List.length_append, List.length_singleton] at hi
    by_cases e : i < O.length
    · rw [app_getD e, app_getD (by omega)]; exact g3 i e r hr
    · have e : i = O.length := by omega
      subst e
      have : (O ++ [s]).getD O.length cr0 = s := by rw [app_getD' (Nat.le_refl _)]; simp
      rw [this, app_getD hr]
      exact h2 r hr
theorem cachO_good (l : List UInt8) : ∀ j, crGood (cachO l j)
  | 0 => ⟨fun s h => (by cases h), fun i h => absurd h (Nat.not_lt_zero i)⟩
  | j + 1 => by
    have ih := cachO_good l j
    show crGood (cacheK (cachO l j) (credE l (cachP l j)))
    unfold cacheK
    split
    · rename_i h; exact crGood_add ih (credE_ok _ _) h
    · exact ih
theorem nodup_len {α : Type} [BEq α] [LawfulBEq α] : ∀ {l M : List α}, l.Nodup → (∀ x ∈ l, x ∈ M) → l.length ≤ M.length
  | [], _, _, _ => by simp
  | a :: l, M, h, hs => by
    have ha := hs a (by simp)
    rw [List.nodup_cons] at h
    have ih := nodup_len (M := M.erase a) h.2 (fun x hx => (List.mem_erase_of_ne (fun e => h.1 (by rw [← e]; exact hx))).2 (hs x (by simp [hx])))
    rw [List.length_erase_of_mem ha] at ih
    have := List.length_pos_of_mem ha
    rw [List.length_cons]; omega
theorem crGood_len {O : List CR} (h : crGood O) : O.length ≤ 9 := by
  obtain ⟨g1, g2⟩ := h
  have hn : (O.map crSv).Nodup := by
    rw [List.nodup_iff_pairwise_ne, List.pairwise_iff_getElem]
    intro i j hi hj hij e
    rw [List.length_map] at hi hj
    have := g2 j hj i hij
    rw [List.getElem_map, List.getElem_map] at e
    rw [List.getD_eq_getElem?_getD, List.getD_eq_getElem?_getD, List.getElem?_eq_getElem hj, List.getElem?_eq_getElem hi] at this
    simp only [crSv, Prod.mk.injEq] at e
    simp only [Option.getD_some] at this
    rw [crIs_yes e.1 e.2.1 e.2.2] at this
    cases this
  have := nodup_len (M := (List.range 9).map svN) hn (fun x hx => by
    obtain ⟨s, hs, rfl⟩ := List.mem_map.1 hx
    obtain ⟨_, n, hn, e⟩ := g1 s hs
    rw [e]
    exact List.mem_map.2 ⟨n, List.mem_range.2 hn, rfl⟩)
  simpa using this
theorem cachS_good (l : List UInt8) : crGood (cachS l) := cachO_good l _
theorem crGood_C {o1 o2 o3 : List UInt8} {O : List CR} (ho : validS o1 o2 o3 = true) (h : crGood O) : ccC o1 o2 o3 O = 0 := by
  have hl := crGood_len h
  refine ccC_ok ho (by omega) fun i hi => ?_
  obtain ⟨h1, h2, h3, h4⟩ := (h.1 _ (getD_mem (d := cr0) hi)).1
  refine crE_ok rfl h1 h2 h3 (by omega) fun hlt => ?_
  have := find_hit (p := crIs (O.getD i cr0).x (O.getD i cr0).y (O.getD i cr0).z) (l := O) cr0 (Nat.lt_trans hlt hi)
  have h5 := h.2 i hi _ hlt
  unfold crAt at h5
  rw [this] at h5
  cases h5
/-- a full cache -/
def fulE (n : Nat) : CR := ⟨[120] ++ [byteOf (97 + (n : Int))], [], [82], sessN n, 0, 0, 0, []⟩
theorem fulE_small {n : Nat} (h : n < 20) : crSm 255 (fulE n) := by
  refine ⟨by simp [fulE], by simp [fulE], by simp [fulE], by simp [fulE], ?_, by simp [fulE, i64R], by simp [fulE, i64R], by simp [fulE, i64R]⟩
  show 0 ≤ sessN n ∧ sessN n ≤ 18446744073709551615
  unfold sessN; omega
def fulS (O : List CR) : List CR := O ++ ((List.range 20).drop O.length).map fulE
theorem ful_all {O : List CR} {j : Nat} (h1 : O.length ≤ j) (h2 : ¬ j < 20) (h3 : j ≤ 20 ∨ j = O.length) : O ++ (((List.range j).drop O.length).map fulE) = fulS O := by
  unfold fulS
  rcases h3 with h3 | h3
  · rw [show j = 20 by omega]
  · subst h3
    rw [List.drop_of_length_le (by simp), List.drop_of_length_le (by simp; omega)]
theorem ful_next {O : List CR} {j : Nat} (h1 : O.length ≤ j) : O ++ (((List.range (j + 1)).drop O.length).map fulE) = O ++ (((List.range j).drop O.length).map fulE) ++ [fulE j] := by
  rw [List.range_succ, List.drop_append_of_le_length (by simpa using h1), List.map_append]
  simp
theorem ful_len {O : List CR} {j : Nat} (h1 : O.length ≤ j) : (O ++ (((List.range j).drop O.length).map fulE)).length = j := by simp; omega
theorem crG_good {O : List CR} (h : crGood O) (x y z : List UInt8) : crSm 90000 (crG O x y z).1 := crG_small (fun s hs => cr_grow (by omega) (crV_small (h.1 s hs).1)) x y z
theorem crV_mem {O : List CR} (h : crGood O) : ∀ s ∈ O, crSm 90000 s := fun s hs => cr_grow (by omega) (crV_small (h.1 s hs).1)
/-- a cache that is too long for the laws -/
def crLgE (s : CR) : Prop := 100 < s.x.length ∨ 100 < s.y.length ∨ 100 < s.z.length ∨ 400 < s.t.length
instance (s : CR) : Decidable (crLgE s) := by unfold crLgE; infer_instance
def ccLg (o1 o2 o3 : List UInt8) (l : List CR) : Bool := decide (30 < l.length ∨ 100 < o1.length ∨ 100 < o2.length ∨ 100 < o3.length) || l.any fun s => decide (crLgE s)
theorem ccLg_is {o1 o2 o3 : List UInt8} {l : List CR} (h : ccLg o1 o2 o3 l = false) : (l.length ≤ 30 ∧ o1.length ≤ 100 ∧ o2.length ≤ 100 ∧ o3.length ≤ 100) ∧ ∀ s ∈ l, s.x.length ≤ 100 ∧ s.y.length ≤ 100 ∧ s.z.length ≤ 100 ∧ s.t.length ≤ 400 := by
  unfold ccLg at h
  rw [Bool.or_eq_false_iff, decide_eq_false_iff_not, List.any_eq_false] at h
  refine ⟨by omega, fun s hs => ?_⟩
  have := h.2 s hs
  rw [decide_eq_true_eq] at this
  unfold crLgE at this
  omega
theorem ccLg_long {o1 o2 o3 : List UInt8} {l : List CR} (h : 30 < l.length ∨ 100 < o1.length ∨ 100 < o2.length ∨ 100 < o3.length) : ccLg o1 o2 o3 l = true := by rw [ccLg, decide_eq_true h]; rfl
theorem ccLg_at {o1 o2 o3 : List UInt8} {l : List CR} {j : Nat} (h : j < l.length) (h2 : crLgE (l.getD j cr0)) : ccLg o1 o2 o3 l = true := by
  unfold ccLg
  rw [Bool.or_eq_true]
  right
  rw [List.any_eq_true]
  exact ⟨_, getD_mem (d := cr0) h, decide_eq_true h2⟩
theorem ccLg_no {o1 o2 o3 : List UInt8} {l : List CR} (h : ¬ (30 < l.length ∨ 100 < o1.length ∨ 100 < o2.length ∨ 100 < o3.length)) (h2 : ∀ i, i < l.length → ¬ crLgE (l.getD i cr0)) : ccLg o1 o2 o3 l = false := by
  unfold ccLg
  rw [decide_eq_false h, Bool.false_or, List.any_eq_false]
  intro s hs
  obtain ⟨j, hj, rfl⟩ := mem_getD cr0 hs
  rw [decide_eq_true_eq]
  exact h2 j hj
theorem ful_small {O : List CR} (h : ∀ s ∈ O, crSm 90000 s) : ∀ s ∈ fulS O, crSm 90000 s := fun s hs => by
  rcases List.mem_append.1 hs with q | q
  · exact h s q
  · obtain ⟨n, hn, rfl⟩ := List.mem_map.1 q
    have := List.mem_of_mem_drop hn
    exact cr_grow (by omega) (fulE_small (by simpa using this))
theorem fulS_len {O : List CR} (h : O.length ≤ 20) : (fulS O).length = 20 := by simp [fulS]; omega
end Go.Sx

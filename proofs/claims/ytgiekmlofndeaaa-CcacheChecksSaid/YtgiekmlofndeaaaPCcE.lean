/-
  What files of caches of credentials are, as plain functions: for every input.
-/
import Derived.Test.YtgiekmlofndeaaaPCcD
import Derived.Test.YtgiekmlofndeaaaPSrv
set_option linter.all false
namespace Go.Sx
def prB (x y z : List UInt8) : List UInt8 := x ++ [0] ++ y ++ [0] ++ z ++ [0]
theorem prB_len (x y z : List UInt8) : (prB x y z).length = x.length + y.length + z.length + 3 := by simp [prB]; omega
def crB (s : CR) : List UInt8 := prB s.x s.y s.z ++ keyB s.k ++ numS false 1 s.lf ++ numS false 1 s.kv ++ numS false 2 (s.t.length : Int) ++ s.t ++ numS false 4 s.is
theorem crB_len (s : CR) : (crB s).length = s.x.length + s.y.length + s.z.length + s.t.length + 19 := by simp [crB, prB_len, keyB_len]; omega
def crBs (l : List CR) : List UInt8 := (l.map crB).flatten
theorem crBs_nil : crBs [] = [] := rfl
theorem crBs_cons (s : CR) (l : List CR) : crBs (s :: l) = crB s ++ crBs l := by simp [crBs]
theorem crBs_append (a b : List CR) : crBs (a ++ b) = crBs a ++ crBs b := by simp [crBs]
theorem crBs_one (s : CR) : crBs [s] = crB s := by simp [crBs]
theorem crBs_len {l : List CR} {B : Nat} (h : ∀ s ∈ l, crSm B s) : (crBs l).length ≤ l.length * (4 * B + 19) := by
  induction l with
  | nil => simp [crBs]
  | cons s l ih =>
    have h1 := h s (by simp)
    have h2 := ih fun t ht => h t (by simp [ht])
    rw [crBs_cons, List.length_append, crB_len, List.length_cons, Nat.succ_mul]
    obtain ⟨a, b, c, d, _⟩ := h1
    omega
def ccB (o : List UInt8 × List UInt8 × List UInt8) (l : List CR) : List UInt8 := prB o.1 o.2.1 o.2.2 ++ crBs l
def ccN (c : CcT) : List UInt8 × Int := if ccC c.1.1 c.1.2.1 c.1.2.2 c.2 = 0 then (ccB c.1 c.2, 0) else ([], ccC c.1.1 c.1.2.1 c.1.2.2 c.2)
theorem ccN_ok {o1 o2 o3 : List UInt8} {l : List CR} (h : ccC o1 o2 o3 l = 0) : ccN ((o1, o2, o3), l) = (ccB (o1, o2, o3) l, 0) := by rw [ccN, if_pos h]
theorem ccN_no {o1 o2 o3 : List UInt8} {l : List CR} (h : ¬ ccC o1 o2 o3 l = 0) : ccN ((o1, o2, o3), l) = ([], ccC o1 o2 o3 l) := by rw [ccN, if_neg h]
theorem ccN_is {c : CcT} {b : List UInt8} (h : ccN c = (b, 0)) : ccC c.1.1 c.1.2.1 c.1.2.2 c.2 = 0 ∧ ccB c.1 c.2 = b := by
  unfold ccN at h
  split at h
  · rename_i h1; exact ⟨h1, by simpa using h⟩
  · rename_i h1
    simp only [Prod.mk.injEq] at h
    exact absurd h.2 h1
theorem ccB_part {o1 o2 o3 : List UInt8} {l : List CR} (h : ccC o1 o2 o3 l = 0) (j : Nat) : (ccB (o1, o2, o3) (l.take j)).length ≤ 21000 := by
  obtain ⟨hv, h1, _⟩ := ccC_is h
  have h2 := crBs_len (l := l.take j) (B := 255) fun s hs => crV_small (ccC_mem h s (List.mem_of_mem_take hs))
  have h3 : (l.take j).length ≤ 20 := by simp; omega
  have h4 : (l.take j).length * (4 * 255 + 19) ≤ 20 * (4 * 255 + 19) := Nat.mul_le_mul_right _ h3
  obtain ⟨l1, l2, l3⟩ := valid_len hv
  rw [ccB, List.length_append, prB_len]
  show o1.length + o2.length + o3.length + 3 + _ ≤ _
  omega
theorem ccN_len (c : CcT) : (ccN c).1.length ≤ 21000 := by
  unfold ccN
  split
  · rename_i h
    have := ccB_part h c.2.length
    rwa [List.take_length] at this
  · simp
theorem ccB_take {o : List UInt8 × List UInt8 × List UInt8} {l : List CR} {j : Nat} (h : j < l.length) : ccB o (l.take (j + 1)) = ccB o (l.take j) ++ (l.getD j cr0).x ++ [0] ++ (l.getD j cr0).y ++ [0] ++ (l.getD j cr0).z ++ [0] ++ keyB (l.getD j cr0).k ++ numS false 1 (l.getD j cr0).lf ++ numS false 1 (l.getD j cr0).kv ++ numS false 2 ((l.getD j cr0).t.length : Int) ++ (l.getD j cr0).t ++ numS false 4 (l.getD j cr0).is := by
  rw [take_getD_succ cr0 h, ccB, ccB, crBs_append, crBs_one, crB, prB, prB]
  simp only [List.append_assoc]
open Classical in
/-- the cache that some bytes are -/
noncomputable def ccD (b : List UInt8) : CcT × Int := if h : ∃ c, ccN c = (b, 0) then (Classical.choose h, 0) else (cc0, 100)
theorem ccD_yes {b : List UInt8} {c : CcT} (h : ccN c = (b, 0)) (u : ∀ c', ccN c' = (b, 0) → c' = c) : ccD b = (c, 0) := by
  have hx : ∃ c, ccN c = (b, 0) := ⟨c, h⟩
  unfold ccD
  rw [dif_pos hx]
  exact congrArg (fun q => (q, (0 : Int))) (u _ (Classical.choose_spec hx))
theorem ccD_no {b : List UInt8} (h : ∀ c', ccN c' ≠ (b, 0)) : ccD b = (cc0, 100) := by
  unfold ccD
  rw [dif_neg (fun ⟨l, hl⟩ => h l hl)]
theorem ccD_len (b : List UInt8) : (ccD b).1.2.length ≤ 20 := by
  unfold ccD
  split
  · rename_i h
    exact (ccC_is (ccN_is (Classical.choose_spec h)).1).2.1
  · simp [cc0]

/-- what the program reads of a credential -/
structure CrP where
  P : (List UInt8 × List UInt8 × List UInt8) × Int × Int
  B : List UInt8 × Int × Int
  F : Int × Int × Int
  V : Int × Int × Int
  S : Int × Int × Int
  T : List UInt8 × Int × Int
  I : Int × Int × Int
def crPr (b : List UInt8) (k : Int) : CrP :=
  let P := prinS b k
  let B := bytesS b P.2.1 8
  let F := getS false 1 b B.2.1
  let V := getS false 1 b F.2.1
  let S := getS false 2 b V.2.1
  let T := bytesS b S.2.1 S.1
  let I := getS false 4 b T.2.1
  ⟨P, B, F, V, S, T, I⟩
def crPs (p : CrP) : CR := ⟨p.P.1.1, p.P.1.2.1, p.P.1.2.2, (readK p.B.1).1, p.F.1, p.V.1, p.I.1, p.T.1⟩
def crPe (p : CrP) : Int := if p.P.2.2 ≠ 0 then p.P.2.2 else if p.B.2.2 ≠ 0 then p.B.2.2 else if p.F.2.2 ≠ 0 then p.F.2.2 else if p.V.2.2 ≠ 0 then p.V.2.2 else if p.S.2.2 ≠ 0 then p.S.2.2 else if p.T.2.2 ≠ 0 then p.T.2.2 else p.I.2.2
def crRd (b : List UInt8) (k : Int) : CR × Int × Int := if crPe (crPr b k) = 0 then (crPs (crPr b k), (crPr b k).I.2.1, 0) else (cr0, 0, crPe (crPr b k))
theorem crRd_small (b : List UInt8) (k : Int) (hb : b.length ≤ 80000) : crSm 90000 (crRd b k).1 := by
  have h1 := prin_len b k
  have h2 := get1_range false b (crPr b k).B.2.1
  have h3 := get1_range false b (crPr b k).F.2.1
  have h4 := get4_range false b (crPr b k).T.2.1
  have h5 := bytesS_le b (crPr b k).S.2.1 (crPr b k).S.1
  unfold crRd
  split
  · refine ⟨by show (prinS b k).1.1.length ≤ 90000; omega, by show (prinS b k).1.2.1.length ≤ 90000; omega, by show (prinS b k).1.2.2.length ≤ 90000; omega, by show (bytesS b (crPr b k).S.2.1 (crPr b k).S.1).1.length ≤ 90000; omega, readK_bounds _, ?_, ?_, ?_⟩
    · show i64R (getS false 1 b (crPr b k).B.2.1).1; unfold i64R; omega
    · show i64R (getS false 1 b (crPr b k).F.2.1).1; unfold i64R; omega
    · show i64R (getS false 4 b (crPr b k).T.2.1).1; unfold i64R; omega
  · exact cr0_small _
theorem crRd_next (b : List UInt8) (k : Int) : 0 ≤ (crRd b k).2.1 ∧ (crRd b k).2.1 ≤ b.length := by
  have := get_next false 4 b (crPr b k).T.2.1
  unfold crRd
  split
  · exact this
  · simp
/-- a credential that stands in some bytes is read -/
theorem sfx_cr {b r : List UInt8} {K : Int} {s : CR} (h : Sfx b K (crB s ++ r)) (hs : crV s) : ∃ K1 K2 K3 K4 K5 K6 K7 K8 K',
    textS b K = (s.x, K1, 0) ∧ textS b K1 = (s.y, K2, 0) ∧ textS b K2 = (s.z, K3, 0) ∧ bytesS b K3 8 = (keyB s.k, K4, 0) ∧ getS false 1 b K4 = (s.lf, K5, 0) ∧ getS false 1 b K5 = (s.kv, K6, 0) ∧ getS false 2 b K6 = ((s.t.length : Int), K7, 0) ∧ bytesS b K7 (s.t.length : Int) = (s.t, K8, 0) ∧ getS false 4 b K8 = (s.is, K', 0) ∧ crRd b K = (s, K', 0) ∧ Sfx b K' r := by
  obtain ⟨hv, hk, hr, ht⟩ := hs
  unfold crR0 at hr
  have h : Sfx b K (s.x ++ ([0] ++ (s.y ++ ([0] ++ (s.z ++ ([0] ++ (keyB s.k ++ (numS false 1 s.lf ++ (numS false 1 s.kv ++ (numS false 2 (s.t.length : Int) ++ (s.t ++ (numS false 4 s.is ++ r)))))))))))) := by simpa [crB, prB] using h
  obtain ⟨K1, K2, K3, e1, e2, e3, e4, h1⟩ := sfx_texts h hv
  obtain ⟨K4, e5, h2⟩ := sfx_bytes (n := 8) h1 rfl
  obtain ⟨K5, e6, h3⟩ := sfx_num1 h2 hr.1
  obtain ⟨K6, e7, h4⟩ := sfx_num1 h3 hr.2.1
  obtain ⟨K7, e8, h5⟩ := sfx_num2 h4 (by omega)
  obtain ⟨K8, e9, h6⟩ := sfx_bytes (n := (s.t.length : Int)) h5 rfl
  obtain ⟨K9, e10, h7⟩ := sfx_num4 h6 hr.2.2
  refine ⟨K1, K2, K3, K4, K5, K6, K7, K8, K9, e1, e2, e3, e5, e6, e7, e8, e9, e10, ?_, h7⟩
  have er := readK_key (key_range hk) hk
  simp [crRd, crPe, crPs, crPr, e4, e5, e6, e7, e8, e9, e10, er]
/-- how far the program's decoder has come -/
def ccI (b : List UInt8) (o : List UInt8 × List UInt8 × List UInt8) (l : List CR) (k : Int) : Prop := ∀ c', ccN c' = (b, 0) → ∃ r, c' = (o, l ++ r) ∧ k = (ccB o l).length
theorem ccI_own {b : List UInt8} {c' : CcT} (h : ccN c' = (b, 0)) : ∃ K1 K2 K', textS b 0 = (c'.1.1, K1, 0) ∧ textS b K1 = (c'.1.2.1, K2, 0) ∧ textS b K2 = (c'.1.2.2, K', 0) ∧ prinS b 0 = (c'.1, K', 0) ∧ K' = (ccB c'.1 []).length := by
  obtain ⟨c1, c2⟩ := ccN_is h
  have hv := (ccC_is c1).1
  have h : Sfx b 0 (c'.1.1 ++ ([0] ++ (c'.1.2.1 ++ ([0] ++ (c'.1.2.2 ++ ([0] ++ crBs c'.2)))))) := by
    rw [← c2, ccB, prB]
    have := sfx_0 (c'.1.1 ++ [0] ++ c'.1.2.1 ++ [0] ++ c'.1.2.2 ++ [0] ++ crBs c'.2)
    simpa using this
  obtain ⟨K1, K2, K3, e1, e2, e3, e4, p, q1, q2⟩ := sfx_texts h hv
  refine ⟨K1, K2, K3, e1, e2, e3, e4, ?_⟩
  have := congrArg List.length q1
  rw [← c2] at this
  simp only [ccB, List.length_append, crBs_nil, List.length_nil] at *
  omega
theorem ccI_0 {b : List UInt8} (h : (prinS b 0).2.2 = 0) : ccI b (prinS b 0).1 [] (prinS b 0).2.1 := by
  intro c' hc
  obtain ⟨_, _, K', _, _, _, e, e2⟩ := ccI_own hc
  rw [e]
  exact ⟨c'.2, rfl, e2⟩
theorem ccI_not {b : List UInt8} (h : ¬ (prinS b 0).2.2 = 0) : ccD b = (cc0, 100) := ccD_no fun c' hc => by
  obtain ⟨_, _, K', _, _, _, e, e2⟩ := ccI_own hc
  rw [e] at h
  exact h rfl
theorem ccI_more {b : List UInt8} {o : List UInt8 × List UInt8 × List UInt8} {l : List CR} {k : Int} {c' : CcT} (h : ccI b o l k) (hk : k < b.length) (hl : ccN c' = (b, 0)) : ∃ s r, c' = (o, l ++ s :: r) ∧ crV s ∧ k = (ccB o l).length ∧ Sfx b k (crB s ++ crBs r) := by
  obtain ⟨r, h1, h2⟩ := h c' hl
  subst h1
  obtain ⟨c1, c2⟩ := ccN_is hl
  match r with
  | [] =>
    have c2 : ccB o (l ++ []) = b := c2
    rw [List.append_nil] at c2
    rw [c2] at h2
    omega
  | s :: r =>
    have hm := ccC_mem c1 s (by simp)
    refine ⟨s, r, rfl, hm, h2, ccB o l, ?_, h2⟩
    rw [← c2]
    show ccB o (l ++ s :: r) = _
    rw [ccB, ccB, crBs_append, crBs_cons, List.append_assoc]
theorem ccI_step {b : List UInt8} {o : List UInt8 × List UInt8 × List UInt8} {l : List CR} {k : Int} (h : ccI b o l k) (hk : k < b.length) : ccI b o (l ++ [(crRd b k).1]) (crRd b k).2.1 := by
  intro c' hl
  obtain ⟨s, r, h1, hv, h2, h3⟩ := ccI_more h hk hl
  obtain ⟨_, _, _, _, _, _, _, _, K', _, _, _, _, _, _, _, _, _, e, p, q1, q2⟩ := sfx_cr h3 hv
  rw [e]
  refine ⟨r, by rw [h1]; simp, ?_⟩
  obtain ⟨p0, g1, g2⟩ := h3
  show K' = _
  have e2 : (ccB o (l ++ [s])).length = (ccB o l).length + (crB s).length := by rw [ccB, ccB, crBs_append, crBs_one]; simp only [List.length_append]; omega
  show K' = ((ccB o (l ++ [s])).length : Int)
  rw [e2, q2]
  have := congrArg List.length q1
  have := congrArg List.length g1
  simp only [List.length_append] at *
  omega
theorem ccI_bad {b : List UInt8} {o : List UInt8 × List UInt8 × List UInt8} {l : List CR} {k : Int} (h : ccI b o l k) (hk : k < b.length) (hr : ¬ (crRd b k).2.2 = 0) : ccD b = (cc0, 100) := by
  refine ccD_no fun c' hl => ?_
  obtain ⟨s, r, h1, hv, h2, h3⟩ := ccI_more h hk hl
  obtain ⟨_, _, _, _, _, _, _, _, K', _, _, _, _, _, _, _, _, _, e, _⟩ := sfx_cr h3 hv
  rw [e] at hr
  exact hr rfl
theorem ccI_end {b : List UInt8} {o : List UInt8 × List UInt8 × List UInt8} {l : List CR} {k : Int} {c' : CcT} (h : ccI b o l k) (hk : ¬ k < b.length ∨ 20 < l.length) (hl : ccN c' = (b, 0)) : c' = (o, l) := by
  obtain ⟨r, h1, h2⟩ := h c' hl
  obtain ⟨c1, c2⟩ := ccN_is hl
  rw [h1] at c1 c2
  rcases hk with hk | hk
  · have : crBs r = [] := by
      have e : b.length = (ccB o l).length + (crBs r).length := by
        rw [← c2]
        show (ccB o (l ++ r)).length = _
        rw [ccB, ccB, crBs_append]; simp only [List.length_append]; omega
      exact List.eq_nil_of_length_eq_zero (by omega)
    match r with
    | [] => rw [h1, List.append_nil]
    | s :: r =>
      exfalso
      have := congrArg List.length this
      rw [crBs_cons, List.length_append, crB_len] at this
      simp at this
  · have := (ccC_is c1).2.1
    simp only [List.length_append] at this
    omega
theorem ccI_yes {b : List UInt8} {o : List UInt8 × List UInt8 × List UInt8} {l : List CR} {k : Int} (h : ccI b o l k) (hk : ¬ k < b.length ∨ 20 < l.length) (h1 : (ccN (o, l)).2 = 0) (h2 : (ccN (o, l)).1 = b) : ccD b = ((o, l), 0) :=
  ccD_yes (by rw [← h1, ← h2]) fun _ hl => ccI_end h hk hl
theorem ccI_no {b : List UInt8} {o : List UInt8 × List UInt8 × List UInt8} {l : List CR} {k : Int} (h : ccI b o l k) (hk : ¬ k < b.length ∨ 20 < l.length) (h1 : ¬ (ccN (o, l)).2 = 0 ∨ ¬ (ccN (o, l)).1 = b) : ccD b = (cc0, 100) := by
  refine ccD_no fun c' hl => ?_
  have e := ccI_end h hk hl
  subst e
  rw [hl] at h1
  simp at h1
theorem ccD_trip {c : CcT} (h : (ccN c).2 = 0) : ccD (ccN c).1 = (c, 0) := by
  have h1 : ccC c.1.1 c.1.2.1 c.1.2.2 c.2 = 0 := by
    unfold ccN at h
    split at h
    · assumption
    · exact h
  have hN : ccN c = (ccB c.1 c.2, 0) := by rw [ccN, if_pos h1]
  refine ccD_yes (by rw [hN]) fun c' hc => ?_
  rw [hN] at hc
  obtain ⟨c1, c2⟩ := ccN_is hc
  have own := ccI_own (b := ccB c.1 c.2) (c' := c) hN
  have own' := ccI_own (b := ccB c.1 c.2) (c' := c') hc
  obtain ⟨_, _, K, _, _, _, e, k1⟩ := own
  obtain ⟨_, _, K', _, _, _, e', k1'⟩ := own'
  rw [e] at e'
  simp only [Prod.mk.injEq, and_true] at e'
  obtain ⟨e1, e2⟩ := e'
  have key : ∀ {r r' : List CR} {b : List UInt8} {K : Int}, (∀ s ∈ r, crV s) → (∀ s ∈ r', crV s) → Sfx b K (crBs r) → Sfx b K (crBs r') → r' = r := by
    intro r
    induction r with
    | nil =>
      intro r' b K _ _ hh hh'
      match r' with
      | [] => rfl
      | s :: r' =>
        exfalso
        have e := sfx_end hh
        obtain ⟨p, h1, h2⟩ := hh'
        have := congrArg List.length h1
        rw [List.length_append, crBs_cons, List.length_append, crB_len] at this
        omega
    | cons s r ih =>
      intro r' b K g g' hh hh'
      match r' with
      | [] =>
        exfalso
        have e := sfx_end hh'
        obtain ⟨p, h1, h2⟩ := hh
        have := congrArg List.length h1
        rw [List.length_append, crBs_cons, List.length_append, crB_len] at this
        omega
      | s' :: r' =>
        rw [crBs_cons] at hh hh'
        obtain ⟨_, _, _, _, _, _, _, _, K1, _, _, _, _, _, _, _, _, _, e, q⟩ := sfx_cr hh (g s (by simp))
        obtain ⟨_, _, _, _, _, _, _, _, K2, _, _, _, _, _, _, _, _, _, e', q'⟩ := sfx_cr hh' (g' s' (by simp))
        rw [e] at e'
        simp only [Prod.mk.injEq, and_true] at e'
        obtain ⟨rfl, rfl⟩ := e'
        rw [ih (fun t ht => g t (by simp [ht])) (fun t ht => g' t (by simp [ht])) q q']
  have hl : c'.2 = c.2 := by
    refine key (b := ccB c.1 c.2) (K := ((prB c.1.1 c.1.2.1 c.1.2.2).length : Int)) (ccC_mem h1) (ccC_mem c1) ⟨prB c.1.1 c.1.2.1 c.1.2.2, rfl, rfl⟩ ⟨prB c.1.1 c.1.2.1 c.1.2.2, ?_, rfl⟩
    have c2' : ccB c'.1 c'.2 = ccB c.1 c.2 := c2
    rw [← c2', e1]; rfl
  exact Prod.ext e1.symm hl
/-- the document's reader at a credential -/
structure CrQ where
  k1 : Int
  k2 : Int
  k3 : Int
  b3 : Bool
  k4 : Int
  b4 : Bool
  k5 : Int
  b5 : Bool
  k6 : Int
  b6 : Bool
  n : Int
  k7 : Int
  b7 : Bool
  k8 : Int
  b8 : Bool
  k9 : Int
  b9 : Bool
  B : List UInt8
  s : CR
def crQr (b : List UInt8) (k : Int) (bad : Bool) : CrQ :=
  let k1 := mvA k bad (textS b k).2.1 (textS b k).2.2
  let b1 := mvB bad (textS b k).2.2
  let k2 := mvA k1 b1 (textS b k1).2.1 (textS b k1).2.2
  let b2 := mvB b1 (textS b k1).2.2
  let k3 := mvA k2 b2 (textS b k2).2.1 (textS b k2).2.2
  let b3 := mvB b2 (textS b k2).2.2
  let k4 := mvA k3 b3 (bytesS b k3 8).2.1 (bytesS b k3 8).2.2
  let b4 := mvB b3 (bytesS b k3 8).2.2
  let k5 := mvA k4 b4 (getS false 1 b k4).2.1 (getS false 1 b k4).2.2
  let b5 := mvB b4 (getS false 1 b k4).2.2
  let k6 := mvA k5 b5 (getS false 1 b k5).2.1 (getS false 1 b k5).2.2
  let b6 := mvB b5 (getS false 1 b k5).2.2
  let n := (getS false 2 b k6).1
  let k7 := mvA k6 b6 (getS false 2 b k6).2.1 (getS false 2 b k6).2.2
  let b7 := mvB b6 (getS false 2 b k6).2.2
  let k8 := mvA k7 b7 (bytesS b k7 n).2.1 (bytesS b k7 n).2.2
  let b8 := mvB b7 (bytesS b k7 n).2.2
  let k9 := mvA k8 b8 (getS false 4 b k8).2.1 (getS false 4 b k8).2.2
  let b9 := mvB b8 (getS false 4 b k8).2.2
  ⟨k1, k2, k3, b3, k4, b4, k5, b5, k6, b6, n, k7, b7, k8, b8, k9, b9, (bytesS b k3 8).1, ⟨(textS b k).1, (textS b k1).1, (textS b k2).1, (readK (bytesS b k3 8).1).1, (getS false 1 b k4).1, (getS false 1 b k5).1, (getS false 4 b k8).1, (bytesS b k7 n).1⟩⟩
theorem crQr_bounds {b : List UInt8} {k : Int} (bad : Bool) (hk : 0 ≤ k ∧ k ≤ b.length) : (0 ≤ (crQr b k bad).k1 ∧ (crQr b k bad).k1 ≤ b.length) ∧ (0 ≤ (crQr b k bad).k2 ∧ (crQr b k bad).k2 ≤ b.length) ∧ (0 ≤ (crQr b k bad).k3 ∧ (crQr b k bad).k3 ≤ b.length) ∧ (0 ≤ (crQr b k bad).k4 ∧ (crQr b k bad).k4 ≤ b.length) ∧ (0 ≤ (crQr b k bad).k5 ∧ (crQr b k bad).k5 ≤ b.length) ∧ (0 ≤ (crQr b k bad).k6 ∧ (crQr b k bad).k6 ≤ b.length) ∧ (0 ≤ (crQr b k bad).k7 ∧ (crQr b k bad).k7 ≤ b.length) ∧ (0 ≤ (crQr b k bad).k8 ∧ (crQr b k bad).k8 ≤ b.length) ∧ (0 ≤ (crQr b k bad).k9 ∧ (crQr b k bad).k9 ≤ b.length) := by
  have h1 := mvA_bounds (bad := bad) (e := (textS b k).2.2) hk (text_next b k)
  have h2 := mvA_bounds (bad := mvB bad (textS b k).2.2) (e := (textS b (crQr b k bad).k1).2.2) h1 (text_next b (crQr b k bad).k1)
  have h3 := mvA_bounds (bad := mvB (mvB bad (textS b k).2.2) (textS b (crQr b k bad).k1).2.2) (e := (textS b (crQr b k bad).k2).2.2) h2 (text_next b (crQr b k bad).k2)
  have h4 := mvA_bounds (bad := (crQr b k bad).b3) (e := (bytesS b (crQr b k bad).k3 8).2.2) h3 (bytes_next b (crQr b k bad).k3 8)
  have h5 := mvA_bounds (bad := (crQr b k bad).b4) (e := (getS false 1 b (crQr b k bad).k4).2.2) h4 (get_next false 1 b (crQr b k bad).k4)
  have h6 := mvA_bounds (bad := (crQr b k bad).b5) (e := (getS false 1 b (crQr b k bad).k5).2.2) h5 (get_next false 1 b (crQr b k bad).k5)
  have h7 := mvA_bounds (bad := (crQr b k bad).b6) (e := (getS false 2 b (crQr b k bad).k6).2.2) h6 (get_next false 2 b (crQr b k bad).k6)
  have h8 := mvA_bounds (bad := (crQr b k bad).b7) (e := (bytesS b (crQr b k bad).k7 (crQr b k bad).n).2.2) h7 (bytes_next b (crQr b k bad).k7 (crQr b k bad).n)
  have h9 := mvA_bounds (bad := (crQr b k bad).b8) (e := (getS false 4 b (crQr b k bad).k8).2.2) h8 (get_next false 4 b (crQr b k bad).k8)
  exact ⟨h1, h2, h3, h4, h5, h6, h7, h8, h9⟩
theorem crQr_small (b : List UInt8) (k : Int) (bad : Bool) (hb : b.length ≤ 80000) : crSm 90000 (crQr b k bad).s := by
  have h1 := text_len b k
  have h1' := text_len b (crQr b k bad).k1
  have h1'' := text_len b (crQr b k bad).k2
  have h2 := get1_range false b (crQr b k bad).k4
  have h3 := get1_range false b (crQr b k bad).k5
  have h4 := get4_range false b (crQr b k bad).k8
  have h5 := bytesS_le b (crQr b k bad).k7 (crQr b k bad).n
  refine ⟨by show (textS b k).1.length ≤ 90000; omega, by show (textS b (crQr b k bad).k1).1.length ≤ 90000; omega, by show (textS b (crQr b k bad).k2).1.length ≤ 90000; omega, by show (bytesS b (crQr b k bad).k7 (crQr b k bad).n).1.length ≤ 90000; omega, readK_bounds _, ?_, ?_, ?_⟩
  · show i64R (getS false 1 b (crQr b k bad).k4).1; unfold i64R; omega
  · show i64R (getS false 1 b (crQr b k bad).k5).1; unfold i64R; omega
  · show i64R (getS false 4 b (crQr b k bad).k8).1; unfold i64R; omega
structure CrW (b : List UInt8) (k : Int) (bad : Bool) : Prop where
  h1 : bad = false
  e1 : (textS b k).2.2 = 0
  q1 : (crQr b k bad).k1 = (textS b k).2.1
  e2 : (textS b (crQr b k bad).k1).2.2 = 0
  q2 : (crQr b k bad).k2 = (textS b (crQr b k bad).k1).2.1
  e3 : (textS b (crQr b k bad).k2).2.2 = 0
  q3 : (crQr b k bad).k3 = (textS b (crQr b k bad).k2).2.1
  e4 : (bytesS b (crQr b k bad).k3 8).2.2 = 0
  q4 : (crQr b k bad).k4 = (bytesS b (crQr b k bad).k3 8).2.1
  e5 : (getS false 1 b (crQr b k bad).k4).2.2 = 0
  q5 : (crQr b k bad).k5 = (getS false 1 b (crQr b k bad).k4).2.1
  e6 : (getS false 1 b (crQr b k bad).k5).2.2 = 0
  q6 : (crQr b k bad).k6 = (getS false 1 b (crQr b k bad).k5).2.1
  e7 : (getS false 2 b (crQr b k bad).k6).2.2 = 0
  q7 : (crQr b k bad).k7 = (getS false 2 b (crQr b k bad).k6).2.1
  e8 : (bytesS b (crQr b k bad).k7 (crQr b k bad).n).2.2 = 0
  q8 : (crQr b k bad).k8 = (bytesS b (crQr b k bad).k7 (crQr b k bad).n).2.1
  e9 : (getS false 4 b (crQr b k bad).k8).2.2 = 0
  q9 : (crQr b k bad).k9 = (getS false 4 b (crQr b k bad).k8).2.1
theorem crW_of {b : List UInt8} {k : Int} {bad : Bool} (h : (crQr b k bad).b9 = false) : CrW b k bad := by
  obtain ⟨g9, e9⟩ := mvB_false h
  obtain ⟨g8, e8⟩ := mvB_false g9
  obtain ⟨g7, e7⟩ := mvB_false g8
  obtain ⟨g6, e6⟩ := mvB_false g7
  obtain ⟨g5, e5⟩ := mvB_false g6
  obtain ⟨g4, e4⟩ := mvB_false g5
  obtain ⟨g3, e3⟩ := mvB_false g4
  obtain ⟨g2, e2⟩ := mvB_false g3
  obtain ⟨g1, e1⟩ := mvB_false g2
  exact ⟨g1, e1, mvA_none g2, e2, mvA_none g3, e3, mvA_none g4, e4, mvA_none g5, e5, mvA_none g6, e6, mvA_none g7, e7, mvA_none g8, e8, mvA_none g9, e9, mvA_none h⟩
/-- what the document's reader read without an error stood there -/
theorem crQr_fwd {b p : List UInt8} {k : Int} {bad : Bool} (h : (crQr b k bad).b9 = false) (hp : Pfx b k p) (hk : keyOk (crQr b k bad).s.k = true) : Pfx b (crQr b k bad).k9 (p ++ crB (crQr b k bad).s) := by
  have w := crW_of h
  have p1 := fwd_text w.e1 hp
  rw [← w.q1] at p1
  have p2 := fwd_text w.e2 p1
  rw [← w.q2] at p2
  have p3 := fwd_text w.e3 p2
  rw [← w.q3] at p3
  have p4 := (fwd_bytes w.e4 p3).1
  rw [← w.q4] at p4
  have p5 := fwd_get (fun d hd => back1 false hd) w.e5 p4
  rw [← w.q5] at p5
  have p6 := fwd_get (fun d hd => back1 false hd) w.e6 p5
  rw [← w.q6] at p6
  have p7 := fwd_get (fun d hd => back2 false hd) w.e7 p6
  rw [← w.q7] at p7
  have p8 := (fwd_bytes w.e8 p7).1
  have l8 := (fwd_bytes w.e8 p7).2
  rw [← w.q8] at p8
  have p9 := fwd_get (fun d hd => back4 false hd) w.e9 p8
  rw [← w.q9] at p9
  have ek : keyB (crQr b k bad).s.k = (bytesS b (crQr b k bad).k3 8).1 := key_back (key_ok hk)
  have el : ((crQr b k bad).s.t.length : Int) = (getS false 2 b (crQr b k bad).k6).1 := l8
  have : p ++ crB (crQr b k bad).s = p ++ (textS b k).1 ++ [0] ++ (textS b (crQr b k bad).k1).1 ++ [0] ++ (textS b (crQr b k bad).k2).1 ++ [0] ++ (bytesS b (crQr b k bad).k3 8).1 ++ numS false 1 (getS false 1 b (crQr b k bad).k4).1 ++ numS false 1 (getS false 1 b (crQr b k bad).k5).1 ++ numS false 2 (getS false 2 b (crQr b k bad).k6).1 ++ (bytesS b (crQr b k bad).k7 (crQr b k bad).n).1 ++ numS false 4 (getS false 4 b (crQr b k bad).k8).1 := by
    rw [crB, ek, el, prB]
    simp only [List.append_assoc]
    rfl
  rw [this]
  exact p9
theorem crQr_more {b : List UInt8} {k : Int} {bad : Bool} (h : (crQr b k bad).b9 = false) : k < (crQr b k bad).k9 := by
  have w := crW_of h
  have g1 := text_more w.e1
  have g2 := text_more w.e2
  have g3 := text_more w.e3
  have g4 := (bytes_more w.e4).1
  have g5 := (get_more w.e5).1
  have g6 := (get_more w.e6).1
  have g7 := (get_more w.e7).1
  have g8 := (bytes_more w.e8).1
  have g8' := (bytes_more w.e8).2.1
  have g9 := (get_more w.e9).1
  have q1 := w.q1
  have q2 := w.q2
  have q3 := w.q3
  have q4 := w.q4
  have q5 := w.q5
  have q6 := w.q6
  have q7 := w.q7
  have q8 := w.q8
  have q9 := w.q9
  omega
/-- a credential that stands there is read by the document's reader -/
theorem sfx_crq {b r : List UInt8} {K : Int} {s : CR} (h : Sfx b K (crB s ++ r)) (hs : crV s) : ∃ K', (crQr b K false).s = s ∧ (crQr b K false).k9 = K' ∧ (crQr b K false).b9 = false ∧ Sfx b K' r := by
  obtain ⟨K1, K2, K3, K4, K5, K6, K7, K8, K', e1, e2, e3, e4, e5, e6, e7, e8, e9, _, h2⟩ := sfx_cr h hs
  have q := readK_key (key_range hs.2.1) hs.2.1
  refine ⟨K', ?_, ?_, ?_, h2⟩ <;> simp [crQr, e1, e2, e3, e4, e5, e6, e7, e8, e9, q]
/-- how far the document's decoder has come -/
def ccJ (b : List UInt8) (o : List UInt8 × List UInt8 × List UInt8) (l : List CR) (k : Int) (bad : Bool) : Prop := (∀ c', ccN c' = (b, 0) → bad = false ∧ ∃ r, c' = (o, l ++ r) ∧ k = (ccB o l).length) ∧ (bad = false → (∀ s ∈ l, keyOk s.k = true) → Pfx b k (ccB o l))
/-- the owner, as the document's reader reads it -/
structure OwQ where
  k1 : Int
  k2 : Int
  k3 : Int
  b3 : Bool
  o : List UInt8 × List UInt8 × List UInt8
def owQ (b : List UInt8) : OwQ :=
  let k1 := mvA 0 false (textS b 0).2.1 (textS b 0).2.2
  let b1 := mvB false (textS b 0).2.2
  let k2 := mvA k1 b1 (textS b k1).2.1 (textS b k1).2.2
  let b2 := mvB b1 (textS b k1).2.2
  let k3 := mvA k2 b2 (textS b k2).2.1 (textS b k2).2.2
  let b3 := mvB b2 (textS b k2).2.2
  ⟨k1, k2, k3, b3, ((textS b 0).1, (textS b k1).1, (textS b k2).1)⟩
theorem owQ_bounds (b : List UInt8) : (0 ≤ (owQ b).k1 ∧ (owQ b).k1 ≤ b.length) ∧ (0 ≤ (owQ b).k2 ∧ (owQ b).k2 ≤ b.length) ∧ (0 ≤ (owQ b).k3 ∧ (owQ b).k3 ≤ b.length) := by
  have h1 := mvA_bounds (k := 0) (bad := false) (e := (textS b 0).2.2) ⟨Int.le_refl _, by omega⟩ (text_next b 0)
  have h2 := mvA_bounds (bad := mvB false (textS b 0).2.2) (e := (textS b (owQ b).k1).2.2) h1 (text_next b (owQ b).k1)
  have h3 := mvA_bounds (bad := mvB (mvB false (textS b 0).2.2) (textS b (owQ b).k1).2.2) (e := (textS b (owQ b).k2).2.2) h2 (text_next b (owQ b).k2)
  exact ⟨h1, h2, h3⟩
theorem ccJ_0 (b : List UInt8) : ccJ b (owQ b).o [] (owQ b).k3 (owQ b).b3 := by
  refine ⟨fun c' hc => ?_, fun h _ => ?_⟩
  · obtain ⟨K1, K2, K', e1, e2, e3, _, e5⟩ := ccI_own hc
    have a1 : (owQ b).b3 = false := by simp [owQ, e1, e2, e3]
    have a2 : (owQ b).k3 = K' := by simp [owQ, e1, e2, e3]
    have a3 : (owQ b).o = c'.1 := by simp [owQ, e1, e2, e3]
    rw [a1, a2, a3]
    exact ⟨rfl, c'.2, rfl, e5⟩
  · obtain ⟨h3, e3⟩ := mvB_false h
    obtain ⟨h2, e2⟩ := mvB_false h3
    obtain ⟨h1, e1⟩ := mvB_false h2
    have q1 : (owQ b).k1 = (textS b 0).2.1 := mvA_none h2
    have q2 : (owQ b).k2 = (textS b (owQ b).k1).2.1 := mvA_none h3
    have q3 : (owQ b).k3 = (textS b (owQ b).k2).2.1 := mvA_none h
    have p1 := fwd_text e1 (pfx_0 b)
    rw [← q1] at p1
    have p2 := fwd_text e2 p1
    change Pfx b (textS b (owQ b).k1).2.1 _ at p2
    rw [← q2] at p2
    have p3 := fwd_text e3 p2
    change Pfx b (textS b (owQ b).k2).2.1 _ at p3
    rw [← q3] at p3
    have : ccB (owQ b).o [] = [] ++ (textS b 0).1 ++ [0] ++ (textS b (owQ b).k1).1 ++ [0] ++ (textS b (owQ b).k2).1 ++ [0] := by
      rw [ccB, crBs_nil, prB, List.append_nil]; rfl
    rw [this]
    exact p3
theorem ccJ_I {b : List UInt8} {o : List UInt8 × List UInt8 × List UInt8} {l : List CR} {k : Int} {bad : Bool} (h : ccJ b o l k bad) : ccI b o l k := fun c' hc => (h.1 c' hc).2
theorem ccJ_step {b : List UInt8} {o : List UInt8 × List UInt8 × List UInt8} {l : List CR} {k : Int} (h : ccJ b o l k false) (hk : k < b.length) : ccJ b o (l ++ [(crQr b k false).s]) (crQr b k false).k9 (crQr b k false).b9 := by
  refine ⟨fun c' hl => ?_, fun hb hs => ?_⟩
  · obtain ⟨s, r, h1, hv, h2, h3⟩ := ccI_more (ccJ_I h) hk hl
    obtain ⟨K', e1, e2, e3, q1, q2, q3⟩ := sfx_crq h3 hv
    refine ⟨e3, r, by rw [h1, e1]; simp, ?_⟩
    obtain ⟨p0, g1, g2⟩ := h3
    have e4 : (ccB o (l ++ [s])).length = (ccB o l).length + (crB s).length := by rw [ccB, ccB, crBs_append, crBs_one]; simp only [List.length_append]; omega
    rw [e1, e2, e4, q3]
    have := congrArg List.length q2
    have := congrArg List.length g1
    simp only [List.length_append] at *
    omega
  · have : ccB o (l ++ [(crQr b k false).s]) = ccB o l ++ crB (crQr b k false).s := by rw [ccB, ccB, crBs_append, crBs_one, List.append_assoc]
    rw [this]
    exact crQr_fwd hb (h.2 rfl fun s hm => hs s (by simp [hm])) (hs _ (by simp))
theorem ccJ_bad {b : List UInt8} {o : List UInt8 × List UInt8 × List UInt8} {l : List CR} {k : Int} (h : ccJ b o l k true) : ccD b = (cc0, 100) := ccD_no fun c' hl => by
  have := (h.1 c' hl).1
  cases this
theorem ccJ_no {b : List UInt8} {o : List UInt8 × List UInt8 × List UInt8} {l : List CR} {k : Int} {bad : Bool} (h : ccJ b o l k bad) (hk : ¬ k < b.length) (hc : ¬ ccC o.1 o.2.1 o.2.2 l = 0) : ccD b = (cc0, 100) := ccD_no fun c' hl => by
  have e := ccI_end (ccJ_I h) (.inl hk) hl
  subst e
  exact hc (ccN_is hl).1
theorem ccJ_yes {b : List UInt8} {o : List UInt8 × List UInt8 × List UInt8} {l : List CR} {k : Int} (h : ccJ b o l k false) (hk : ¬ k < b.length) (hc : ccC o.1 o.2.1 o.2.2 l = 0) : ccD b = ((o, l), 0) := by
  have e := pfx_end (h.2 rfl fun s hs => (ccC_mem hc s hs).2.1) hk
  exact ccD_yes (by rw [ccN, if_pos hc, e]) fun c' hl => ccI_end (ccJ_I h) (.inl hk) hl
end Go.Sx

/-
  What files of caches of credentials are, as plain functions: for every input.
-/
import Derived.Test.YtcmcjiacpahliabPCcD
import Derived.Test.YtcmcjiacpahliabPSrv
set_option linter.all false
namespace Go.Sx
def prB (x y z : List UInt8) : List UInt8 := x ++ [0] ++ y ++ [0] ++ z ++ [0]
theorem prB_len (x y z : List UInt8) : (prB x y z).length = x.length + y.length + z.length + 3 := by simp [prB]; omega
def crB (s : CR) : List UInt8 := prB s.x s.y s.z ++ keyB s.k ++ numS false 1 s.lf ++ numS false 1 s.kv ++ numS false 2 (s.t.length : Int) ++ s.t ++ numS false 4 s.is
theorem crB_len (s : CR) : (crB s).length = s.x.length + s.y.length + s.z.length + s.t.length + 19 := by simp [crB, prB_len, keyB_len]; omega
def crBs (l : List CR) : List UInt8 := (l.map crB).flatten
theorem crBs_nil : crBs [] = [] := rfl
theorem crBs_cons (s : CR) (l : List CR) : crBs (s :: l) = crB s ++ crBs l := by simp [crBs]
theorem crBs_append (a b : List CR) : crBs (a ++ b) = crBs a ++ crBs b := by simp [crBs]
theorem crBs_one (s : CR) : crBs [s] = crB s := by simp [crBs]
theorem crBs_len {l : List CR} {B : Nat} (h : ∀ s ∈ l, crSm B s) : (crBs l).length ≤ l.length * (4 * B + 19) := by
  induction l with
  | nil => simp [crBs]
  | cons s l ih =>
    have h1 := h s (by simp)
    have h2 := ih fun t ht => h t (by simp [ht])
    rw [crBs_cons, List.length_append, crB_len, List.length_cons, Nat.succ_mul]
    obtain ⟨a, b, c, d, _⟩ := h1
    omega
def ccB (o : List UInt8 × List UInt8 × List UInt8) (l : List CR) : List UInt8 := prB o.1 o.2.1 o.2.2 ++ crBs l
def ccN (c : CcT) : List UInt8 × Int := if ccC c.1.1 c.1.2.1 c.1.2.2 c.2 = 0 then (ccB c.1 c.2, 0) else ([], ccC c.1.1 c.1.2.1 c.1.2.2 c.2)
theorem ccN_ok {o1 o2 o3 : List UInt8} {l : List CR} (h : ccC o1 o2 o3 l = 0) : ccN ((o1, o2, o3), l) = (ccB (o1, o2, o3) l, 0) := by rw [ccN, if_pos h]
theorem ccN_no {o1 o2 o3 : List UInt8} {l : List CR} (h : ¬ ccC o1 o2 o3 l = 0) : ccN ((o1, o2, o3), l) = ([], ccC o1 o2 o3 l) := by rw [ccN, if_neg h]
theorem ccN_is {c : CcT} {b : List UInt8} (h : ccN c = (b, 0)) : ccC c.1.1 c.1.2.1 c.1.2.2 c.2 = 0 ∧ ccB c.1 c.2 = b := by
  unfold ccN at h
  split at h
  · rename_i h1; exact ⟨h1, by simpa using h⟩
  · rename_i h1
    simp only [Prod.mk.injEq] at h
    exact absurd h.2 h1
theorem ccB_part {o1 o2 o3 : List UInt8} {l : List CR} (h : ccC o1 o2 o3 l = 0) (j : Nat) : (ccB (o1, o2, o3) (l.take j)).length ≤ 21000 := by
  obtain ⟨hv, h1, _⟩ := ccC_is h
  have h2 := crBs_len (l := l.take j) (B := 255) fun s hs => crV_small (ccC_mem h s (List.mem_of_mem_take hs))
  have h3 : (l.take j).length ≤ 20 := by simp; omega
  have h4 : (l.take j).length * (4 * 255 + 19) ≤ 20 * (4 * 255 + 19) := Nat.mul_le_mul_right _ h3
  obtain ⟨l1, l2, l3⟩ := valid_len hv
  rw [ccB, List.length_append, prB_len]
  show o1.length + o2.length + o3.length + 3 + _ ≤ _
  omega
theorem ccN_len (c : CcT) : (ccN c).1.length ≤ 21000 := by
  unfold ccN
  split
  · rename_i h
    have := ccB_part h c.2.length
    rwa [List.take_length] at this
  · simp
theorem ccB_take {o : List UInt8 × List UInt8 × List UInt8} {l : List CR} {j : Nat} (h : j < l.length) : ccB o (l.take (j + 1)) = ccB o (l.take j) ++ (l.getD j cr0).x ++ [0] ++ (l.getD j cr0).y ++ [0] ++ (l.getD j cr0).z ++ [0] ++ keyB (l.getD j cr0).k ++ numS false 1 (l.getD j cr0).lf ++ numS false 1 (l.getD j cr0).kv ++ numS false 2 ((l.getD j cr0).t.length : Int) ++ (l.getD j cr0).t ++ numS false 4 (l.getD j cr0).is := by
  rw [take_getD_succ cr0 h, ccB, ccB, crBs_append, crBs_one, crB, prB, prB]
  simp only [List.append_assoc]
open Classical in
/-- the cache that some bytes are -/
noncomputable def ccD (b : List UInt8) : CcT × Int := if h : ∃ c, ccN c = (b, 0) then (Classical.choose h, 0) else (cc0, 100)
theorem ccD_yes {b : List UInt8} {c : CcT} (h : ccN c = (b, 0)) (u : ∀ c', ccN c' = (b, 0) → c' = c) : ccD b = (c, 0) := by
  have hx : ∃ c, ccN c = (b, 0) := ⟨c, h⟩
  unfold ccD
  rw [dif_pos hx]
  exact congrArg (fun q => (q, (0 : Int))) (u _ (Classical.choose_spec hx))
theorem ccD_no {b : List UInt8} (h : ∀ c', ccN c' ≠ (b, 0)) : ccD b = (cc0, 100) := by
  unfold ccD
  rw [dif_neg (fun ⟨l, hl⟩ => h l hl)]
theorem ccD_len (b : List UInt8) : (ccD b).1.2.length ≤ 20 := by
  unfold ccD
  split
  · rename_i h
    exact (ccC_is (ccN_is (Classical.choose_spec h)).1).2.1
  · simp [cc0]

/-- what the program reads of a credential -/
structure CrP where
  P : (List UInt8 × List UInt8 × List UInt8) × Int × Int
  B : List UInt8 × Int × Int
  F : Int × Int × Int
  V : Int × Int × Int
  S : Int × Int × Int
  T : List UInt8 × Int × Int
  I : Int × Int × Int
def crPr (b : List UInt8) (k : Int) : CrP :=
  let P := prinS b k
  let B := bytesS b P.2.1 8
  let F := getS false 1 b B.2.1
  let V := getS false 1 b F.2.1
  let S := getS false 2 b V.2.1
  let T := bytesS b S.2.1 S.1
  let I := getS false 4 b T.2.1
  ⟨P, B, F, V, S, T, I⟩
def crPs (p : CrP) : CR := ⟨p.P.1.1, p.P.1.2.1, p.P.1.2.2, (readK p.B.1).1, p.F.1, p.V.1, p.I.1, p.T.1⟩
def crPe (p : CrP) : Int := if p.P.2.2 ≠ 0 then p.P.2.2 else if p.B.2.2 ≠ 0 then p.B.2.2 else if p.F.2.2 ≠ 0 then p.F.2.2 else if p.V.2.2 ≠ 0 then p.V.2.2 else if p.S.2.2 ≠ 0 then p.S.2.2 else if p.T.2.2 ≠ 0 then p.T.2.2 else p.I.2.2
def crRd (b : List UInt8) (k : Int) : CR × Int × Int := if crPe (crPr b k) = 0 then (crPs (crPr b k), (crPr b k).I.2.1, 0) else (cr0, 0, crPe (crPr b k))
theorem crRd_small (b : List UInt8) (k : Int) (hb : b.length ≤ 900) : crSm 1000 (crRd b k).1 := by
  have h1 := prin_len b k
  have h2 := get1_range false b (crPr b k).B.2.1
  have h3 := get1_range false b (crPr b k).F.2.1
  have h4 := get4_range false b (crPr b k).T.2.1
  have h5 := bytesS_le b (crPr b k).S.2.1 (crPr b k).S.1
  unfold crRd
  split
  · refine ⟨by show (prinS b k).1.1.length ≤ 1000; omega, by show (prinS b k).1.2.1.length ≤ 1000; omega, by show (prinS b k).1.2.2.length ≤ 1000; omega, by show (bytesS b (crPr b k).S.2.1 (crPr b k).S.1).1.length ≤ 1000; omega, readK_bounds _, ?_, ?_, ?_⟩
    · show i64R (getS false 1 b (crPr b k).B.2.1).1; unfold i64R; omega
    · show i64R (getS false 1 b (crPr b k).F.2.1).1; unfold i64R; omega
    · show i64R (getS false 4 b (crPr b k).T.2.1).1; unfold i64R; omega
  · exact cr0_small _
theorem crRd_next (b : List UInt8) (k : Int) : 0 ≤ (crRd b k).2.1 ∧ (crRd b k).2.1 ≤ b.length := by
  have := get_next false 4 b (crPr b k).T.2.1
  unfold crRd
  split
  · exact this
  · simp
/-- a credential that stands in some bytes is read -/
theorem sfx_cr {b r : List UInt8} {K : Int} {s : CR} (h : Sfx b K (crB s ++ r)) (hs : crV s) : ∃ K1 K2 K3 K4 K5 K6 K7 K8 K',
    textS b K = (s.x, K1, 0) ∧ textS b K1 = (s.y, K2, 0) ∧ textS b K2 = (s.z, K3, 0) ∧ bytesS b K3 8 = (keyB s.k, K4, 0) ∧ getS false 1 b K4 = (s.lf, K5, 0) ∧ getS false 1 b K5 = (s.kv, K6, 0) ∧ getS false 2 b K6 = ((s.t.length : Int), K7, 0) ∧ bytesS b K7 (s.t.length : Int) = (s.t, K8, 0) ∧ getS false 4 b K8 = (s.is, K', 0) ∧ crRd b K = (s, K', 0) ∧ Sfx b K' r := by
  obtain ⟨hv, hk, hr, ht⟩ := hs
  unfold crR0 at hr
  have h : Sfx b K (s.x ++ ([0] ++ (s.y ++ ([0] ++ (s.z ++ ([0] ++ (keyB s.k ++ (numS false 1 s.lf ++ (numS false 1 s.kv ++ (numS false 2 (s.t.length : Int) ++ (s.t ++ (numS false 4 s.is ++ r)))))))))))) := by simpa [crB, prB] using h
  obtain ⟨K1, K2, K3, e1, e2, e3, e4, h1⟩ := sfx_texts h hv
  obtain ⟨K4, e5, h2⟩ := sfx_bytes (n := 8) h1 rfl
  obtain ⟨K5, e6, h3⟩ := sfx_num1 h2 hr.1
  obtain ⟨K6, e7, h4⟩ := sfx_num1 h3 hr.2.1
  obtain ⟨K7, e8, h5⟩ := sfx_num2 h4 (by omega)
  obtain ⟨K8, e9, h6⟩ := sfx_bytes (n := (s.t.length : Int)) h5 rfl
  obtain ⟨K9, e10, h7⟩ := sfx_num4 h6 hr.2.2
  refine ⟨K1, K2, K3, K4, K5, K6, K7, K8, K9, e1, e2, e3, e5, e6, e7, e8, e9, e10, ?_, h7⟩
  have er := readK_key (key_range hk) hk
  simp [crRd, crPe, crPs, crPr, e4, e5, e6, e7, e8, e9, e10, er]
/-- how far the program's decoder has come -/
def ccI (b : List UInt8) (o : List UInt8 × List UInt8 × List UInt8) (l : List CR) (k : Int) : Prop := ∀ c', ccN c' = (b, 0) → ∃ r, c' = (o, l ++ r) ∧ k = (ccB o l).length
theorem ccI_own {b : List UInt8} {c' : CcT} (h : ccN c' = (b, 0)) : ∃ K1 K2 K', textS b 0 = (c'.1.1, K1, 0) ∧ textS b K1 = (c'.1.2.1, K2, 0) ∧ textS b K2 = (c'.1.2.2, K', 0) ∧ prinS b 0 = (c'.1, K', 0) ∧ K' = (ccB c'.1 []).length := by
  obtain ⟨c1, c2⟩ := ccN_is h
  have hv := (ccC_is c1).1
  have h : Sfx b 0 (c'.1.1 ++ ([0] ++ (c'.1.2.1 ++ ([0] ++ (c'.1.2.2 ++ ([0] ++ crBs c'.2)))))) := by
    rw [← c2, ccB, prB]
    have := sfx_0 (c'.1.1 ++ [0] ++ c'.1.2.1 ++ [0] ++ c'.1.2.2 ++ [0] ++ crBs c'.2)
    simpa using this
  obtain ⟨K1, K2, K3, e1, e2, e3, e4, p, q1, q2⟩ := sfx_texts h hv
  refine ⟨K1, K2, K3, e1, e2, e3, e4, ?_⟩
  have := congrArg List.length q1
  rw [← c2] at this
  simp only [ccB, List.length_append, crBs_nil, List.length_nil] at *
  omega
theorem ccI_0 {b : List UInt8} (h : (prinS b 0).2.2 = 0) : ccI b (prinS b 0).1 [] (prinS b 0).2.1 := by
  intro c' hc
  obtain ⟨_, _, K', _, _, _, e, e2⟩ := ccI_own hc
  rw [e]
  exact ⟨c'.2, rfl, e2⟩
theorem ccI_not {b : List UInt8} (h : ¬ (prinS b 0).2.2 = 0) : ccD b = (cc0, 100) := ccD_no fun c' hc => by
  obtain ⟨_, _, K', _, _, _, e, e2⟩ := ccI_own hc
  rw [e] at h
  exact h rfl
theorem ccI_more {b : List UInt8} {o : List UInt8 × List UInt8 × List UInt8} {l : List CR} {k : Int} {c' : CcT} (h : ccI b o l k) (hk : k < b.length) (hl : ccN c' = (b, 0)) : ∃ s r, c' = (o, l ++ s :: r) ∧ crV s ∧ k = (ccB o l).length ∧ Sfx b k (crB s ++ crBs r) := by
  obtain ⟨r, h1, h2⟩ := h c' hl
  subst h1
  obtain ⟨c1, c2⟩ := ccN_is hl
  match r with
  | [] =>
    have c2 : ccB o (l ++ []) = b := c2
    rw [List.append_nil] at c2
    rw [c2] at h2
    omega
  | s :: r =>
    have hm := ccC_mem c1 s (by simp)
    refine ⟨s, r, rfl, hm, h2, ccB o l, ?_, h2⟩
    rw [← c2]
    show ccB o (l ++ s :: r) = _
    rw [ccB, ccB, crBs_append, crBs_cons, List.append_assoc]
theorem ccI_step {b : List UInt8} {o : List UInt8 × List UInt8 × List UInt8} {l : List CR} {k : Int} (h : ccI b o l k) (hk : k < b.length) : ccI b o (l ++ [(crRd b k).1]) (crRd b k).2.1 := by
  intro c' hl
  obtain ⟨s, r, h1, hv, h2, h3⟩ := ccI_more h hk hl
  obtain ⟨_, _, _, _, _, _, _, _, K', _, _, _, _, _, _, _, _, _, e, p, q1, q2⟩ := sfx_cr h3 hv
  rw [e]
  refine ⟨r, by rw [h1]; simp, ?_⟩
  obtain ⟨p0, g1, g2⟩ := h3
  show K' = _
  have e2 : (ccB o (l ++ [s])).length = (ccB o l).length + (crB s).length := by rw [ccB, ccB, crBs_append, crBs_one]; simp only [List.length_append]; omega
  show K' = ((ccB o (l ++ [s])).length : Int)
  rw [e2, q2]
  have := congrArg List.length q1
  have := congrArg List.length g1
  simp only [List.length_append] at *
  omega
theorem ccI_bad {b : List UInt8} {o : List UInt8 × List UInt8 × List UInt8} {l : List CR} {k : Int} (h : ccI b o l k) (hk : k < b.length) (hr : ¬ (crRd b k).2.2 = 0) : ccD b = (cc0, 100) := by
  refine ccD_no fun c' hl => ?_
  obtain ⟨s, r, h1, hv, h2, h3⟩ := ccI_more h hk hl
  obtain ⟨_, _, _, _, _, _, _, _, K', _, _, _, _, _, _, _, _, _, e, _⟩ := sfx_cr h3 hv
  rw [e] at hr
  exact hr rfl
theorem ccI_end {b : List UInt8} {o : List UInt8 × List UInt8 × List UInt8} {l : List CR} {k : Int} {c' : CcT} (h : ccI b o l k) (hk : ¬ k < b.length ∨ 20 < l.length) (hl : ccN c' = (b, 0)) : c' = (o, l) := by
  obtain ⟨r, h1, h2⟩ := h c' hl
  obtain ⟨c1, c2⟩ := ccN_is hl
  rw [h1] at c1 c2
  rcases hk with hk | hk
  · have : crBs r = [] := by
      have e : b.length = (ccB o l).length + (crBs r).length := by
        rw [← c2]
        show (ccB o (l ++ r)).length = _
        rw [ccB, ccB, crBs_append]; simp only [List.length_append]; omega
      exact List.eq_nil_of_length_eq_zero (by omega)
    match r with
    | [] => rw [h1, List.append_nil]
    | s :: r =>
      exfalso
      have := congrArg List.length this
      rw [crBs_cons, List.length_append, crB_len] at this
      simp at this
  · have := (ccC_is c1).2.1
    simp only [List.length_append] at this
    omega
theorem ccI_yes {b : List UInt8} {o : List UInt8 × List UInt8 × List UInt8} {l : List CR} {k : Int} (h : ccI b o l k) (hk : ¬ k < b.length ∨ 20 < l.length) (h1 : (ccN (o, l)).2 = 0) (h2 : (ccN (o, l)).1 = b) : ccD b = ((o, l), 0) :=
  ccD_yes (by rw [← h1, ← h2]) fun _ hl => ccI_end h hk hl
theorem ccI_no {b : List UInt8} {o : List UInt8 × List UInt8 × List UInt8} {l : List CR} {k : Int} (h : ccI b o l k) (hk : ¬ k < b.length ∨ 20 < l.length) (h1 : ¬ (ccN (o, l)).2 = 0 ∨ ¬ (ccN (o, l)).1 = b) : ccD b = (cc0, 100) := by
  refine ccD_no fun c' hl => ?_
  have e := ccI_end h hk hl
  subst e
  rw [hl] at h1
  simp at h1
end Go.Sx

/-
  What messages of applications are, as plain functions: for every input.
-/
import Derived.Test.YtgiekmlofndeaaaPCod
set_option linter.all false
set_option linter.all false
namespace Go.Sx
abbrev ApT := Bool × Bool × Int × List UInt8 × List UInt8 × List UInt8
def ap0 : ApT := (false, false, 0, [], [], [])
def apC (kv : Int) (re t u : List UInt8) : Int := if realmS re = true then (if 0 ≤ kv ∧ kv ≤ 255 then (if t.length ≤ 255 ∧ u.length ≤ 255 then 0 else 105) else 104) else 103
theorem apC_3 {kv : Int} {re t u : List UInt8} (h : realmS re = false) : apC kv re t u = 103 := by rw [apC, if_neg (by simp [h])]
theorem apC_4 {kv : Int} {re t u : List UInt8} (h : realmS re = true) (h1 : ¬ (0 ≤ kv ∧ kv ≤ 255)) : apC kv re t u = 104 := by rw [apC, if_pos h, if_neg h1]
theorem apC_5 {kv : Int} {re t u : List UInt8} (h : realmS re = true) (h1 : 0 ≤ kv ∧ kv ≤ 255) (h2 : ¬ (t.length ≤ 255 ∧ u.length ≤ 255)) : apC kv re t u = 105 := by rw [apC, if_pos h, if_pos h1, if_neg h2]
theorem apC_0 {kv : Int} {re t u : List UInt8} (h : realmS re = true) (h1 : 0 ≤ kv ∧ kv ≤ 255) (h2 : t.length ≤ 255 ∧ u.length ≤ 255) : apC kv re t u = 0 := by rw [apC, if_pos h, if_pos h1, if_pos h2]
theorem apC_ok {kv : Int} {re t u : List UInt8} (h : apC kv re t u = 0) : realmS re = true ∧ (0 ≤ kv ∧ kv ≤ 255) ∧ t.length ≤ 255 ∧ u.length ≤ 255 := by
  unfold apC at h
  split at h
  · rename_i h1
    split at h
    · rename_i h2
      split at h
      · rename_i h3; exact ⟨h1, h2, h3⟩
      · cases h
    · cases h
  · cases h
def apK (mu : Bool) : Int := if mu then 4 else 3
theorem apK_range (mu : Bool) : 1 ≤ apK mu ∧ apK mu ≤ 10 := by cases mu <;> decide
def apB (li mu : Bool) (kv : Int) (re t u : List UInt8) : List UInt8 := putS (apK mu) li ++ numS false 1 kv ++ re ++ [0] ++ numS false 1 (t.length : Int) ++ numS false 1 (u.length : Int) ++ t ++ u
theorem apB_len (li mu : Bool) (kv : Int) (re t u : List UInt8) : (apB li mu kv re t u).length = 2 + 1 + re.length + 1 + 1 + 1 + t.length + u.length := by
  have h : (putS (apK mu) li).length = 2 := by rw [putS_yes (apK_range mu).1 (apK_range mu).2]; rfl
  simp [apB, h]; omega
def apN (x : ApT) : List UInt8 × Int := if apC x.2.2.1 x.2.2.2.1 x.2.2.2.2.1 x.2.2.2.2.2 = 0 then (apB x.1 x.2.1 x.2.2.1 x.2.2.2.1 x.2.2.2.2.1 x.2.2.2.2.2, 0) else ([], apC x.2.2.1 x.2.2.2.1 x.2.2.2.2.1 x.2.2.2.2.2)
theorem apN_ok {li mu : Bool} {kv : Int} {re t u : List UInt8} (h : apC kv re t u = 0) : apN (li, mu, kv, re, t, u) = (apB li mu kv re t u, 0) := by rw [apN]; exact if_pos h
theorem apN_no {li mu : Bool} {kv : Int} {re t u : List UInt8} (h : ¬ apC kv re t u = 0) : apN (li, mu, kv, re, t, u) = ([], apC kv re t u) := by rw [apN]; exact if_neg h
theorem apN_is {x : ApT} {b : List UInt8} (h : apN x = (b, 0)) : apC x.2.2.1 x.2.2.2.1 x.2.2.2.2.1 x.2.2.2.2.2 = 0 ∧ apB x.1 x.2.1 x.2.2.1 x.2.2.2.1 x.2.2.2.2.1 x.2.2.2.2.2 = b := by
  unfold apN at h
  split at h
  · rename_i h1; cases h; exact ⟨h1, rfl⟩
  · rename_i h1; exact absurd (congrArg Prod.snd h) h1
theorem apN_len (x : ApT) : (apN x).1.length ≤ 600 := by
  unfold apN
  split
  · rename_i h
    obtain ⟨h1, _, h2⟩ := apC_ok h
    have := realm_len h1
    rw [apB_len]; omega
  · simp
def apu0  (b : List UInt8) := getS false 1 b 2
def apu1  (b : List UInt8) := textS b (apu0  b).2.1
def apu2  (b : List UInt8) := getS false 1 b (apu1  b).2.1
def apu3  (b : List UInt8) := getS false 1 b (apu2  b).2.1
def apu4  (b : List UInt8) := bytesS b (apu3  b).2.1 (apu2  b).1
def apu5  (b : List UInt8) := bytesS b (apu4  b).2.1 (apu3  b).1
def apw0  (b : List UInt8) := getS false 1 b 2
def aps1  (b : List UInt8) : Int × Bool := mvS ((2, false) : Int × Bool) (apw0  b).2
def apw1  (b : List UInt8) := textS b (aps1  b).1
def aps2  (b : List UInt8) : Int × Bool := mvS (aps1  b) (apw1  b).2
def apw2  (b : List UInt8) := getS false 1 b (aps2  b).1
def aps3  (b : List UInt8) : Int × Bool := mvS (aps2  b) (apw2  b).2
def apw3  (b : List UInt8) := getS false 1 b (aps3  b).1
def aps4  (b : List UInt8) : Int × Bool := mvS (aps3  b) (apw3  b).2
def apw4  (b : List UInt8) := bytesS b (aps4  b).1 (apw2  b).1
def aps5  (b : List UInt8) : Int × Bool := mvS (aps4  b) (apw4  b).2
def apw5  (b : List UInt8) := bytesS b (aps5  b).1 (apw3  b).1
def aps6  (b : List UInt8) : Int × Bool := mvS (aps5  b) (apw5  b).2
theorem aps_bounds  (b : List UInt8) : (0 ≤ (aps1  b).1 ∧ (aps1  b).1 ≤ max (2 : Int) (b.length : Int)) ∧ (0 ≤ (aps2  b).1 ∧ (aps2  b).1 ≤ max (2 : Int) (b.length : Int)) ∧ (0 ≤ (aps3  b).1 ∧ (aps3  b).1 ≤ max (2 : Int) (b.length : Int)) ∧ (0 ≤ (aps4  b).1 ∧ (aps4  b).1 ≤ max (2 : Int) (b.length : Int)) ∧ (0 ≤ (aps5  b).1 ∧ (aps5  b).1 ≤ max (2 : Int) (b.length : Int)) ∧ (0 ≤ (aps6  b).1 ∧ (aps6  b).1 ≤ max (2 : Int) (b.length : Int)) := by
  have g0 : 0 ≤ ((2, false) : Int × Bool).1 ∧ ((2, false) : Int × Bool).1 ≤ max (2 : Int) (b.length : Int) := by simp only; omega
  have g1 : 0 ≤ (aps1  b).1 ∧ (aps1  b).1 ≤ max (2 : Int) (b.length : Int) := mvS_bounds g0 (get_next _ _ _ _)
  have g2 : 0 ≤ (aps2  b).1 ∧ (aps2  b).1 ≤ max (2 : Int) (b.length : Int) := mvS_bounds g1 (text_next _ _)
  have g3 : 0 ≤ (aps3  b).1 ∧ (aps3  b).1 ≤ max (2 : Int) (b.length : Int) := mvS_bounds g2 (get_next _ _ _ _)
  have g4 : 0 ≤ (aps4  b).1 ∧ (aps4  b).1 ≤ max (2 : Int) (b.length : Int) := mvS_bounds g3 (get_next _ _ _ _)
  have g5 : 0 ≤ (aps5  b).1 ∧ (aps5  b).1 ≤ max (2 : Int) (b.length : Int) := mvS_bounds g4 (bytes_next _ _ _)
  have g6 : 0 ≤ (aps6  b).1 ∧ (aps6  b).1 ≤ max (2 : Int) (b.length : Int) := mvS_bounds g5 (bytes_next _ _ _)
  exact ⟨g1, g2, g3, g4, g5, g6⟩
theorem ap_read {kv : Int} {re t u : List UInt8} (hkv : 0 ≤ kv ∧ kv ≤ 255) (hre : re.length ≤ 39 ∧ 0 ∉ re) (ht : t.length ≤ 255) (hu : u.length ≤ 255) {b r : List UInt8} (hs : Sfx b 2 (numS false 1 kv ++ (re ++ ([0] ++ (numS false 1 (t.length : Int) ++ (numS false 1 (u.length : Int) ++ (t ++ (u ++ (r))))))))) : (∃ K, (apu0  b) = (kv, K, 0)) ∧ ((apw0  b) = (kv, (apu0  b).2.1, 0)) ∧ (∃ K, (apu1  b) = (re, K, 0)) ∧ ((apw1  b) = (re, (apu1  b).2.1, 0)) ∧ (∃ K, (apu2  b) = ((t.length : Int), K, 0)) ∧ ((apw2  b) = ((t.length : Int), (apu2  b).2.1, 0)) ∧ (∃ K, (apu3  b) = ((u.length : Int), K, 0)) ∧ ((apw3  b) = ((u.length : Int), (apu3  b).2.1, 0)) ∧ (∃ K, (apu4  b) = (t, K, 0)) ∧ ((apw4  b) = (t, (apu4  b).2.1, 0)) ∧ (∃ K, (apu5  b) = (u, K, 0)) ∧ ((apw5  b) = (u, (apu5  b).2.1, 0)) ∧ (aps6  b) = ((apu5  b).2.1, false) ∧ Sfx b (apu5  b).2.1 r := by
  obtain ⟨K0, e0, q0⟩ := sfx_num1 hs hkv
  have x0 : (apu0  b) = (kv, K0, 0) := by
    simp only [apu0]
    exact e0
  have y0 : (apw0  b) = (kv, K0, 0) := by
    simp only [apw0]
    exact e0
  have z1 : (aps1  b) = (K0, false) := by simp only [aps1, y0, mvS_ok]
  obtain ⟨K1, e1, q1⟩ := sfx_text q0 hre.1 hre.2
  have x1 : (apu1  b) = (re, K1, 0) := by
    simp only [apu1, x0]
    exact e1
  have y1 : (apw1  b) = (re, K1, 0) := by
    simp only [apw1, z1, y0]
    exact e1
  have z2 : (aps2  b) = (K1, false) := by simp only [aps2, z1, y1, mvS_ok]
  obtain ⟨K2, e2, q2⟩ := sfx_num1 q1 (by omega)
  have x2 : (apu2  b) = ((t.length : Int), K2, 0) := by
    simp only [apu2, x1, x0]
    exact e2
  have y2 : (apw2  b) = ((t.length : Int), K2, 0) := by
    simp only [apw2, z2, y0, y1]
    exact e2
  have z3 : (aps3  b) = (K2, false) := by simp only [aps3, z2, y2, mvS_ok]
  obtain ⟨K3, e3, q3⟩ := sfx_num1 q2 (by omega)
  have x3 : (apu3  b) = ((u.length : Int), K3, 0) := by
    simp only [apu3, x2, x0, x1]
    exact e3
  have y3 : (apw3  b) = ((u.length : Int), K3, 0) := by
    simp only [apw3, z3, y0, y1, y2]
    exact e3
  have z4 : (aps4  b) = (K3, false) := by simp only [aps4, z3, y3, mvS_ok]
  obtain ⟨K4, e4, q4⟩ := sfx_bytes q3 rfl
  have x4 : (apu4  b) = (t, K4, 0) := by
    simp only [apu4, x3, x0, x1, x2]
    exact e4
  have y4 : (apw4  b) = (t, K4, 0) := by
    simp only [apw4, z4, y0, y1, y2, y3]
    exact e4
  have z5 : (aps5  b) = (K4, false) := by simp only [aps5, z4, y4, mvS_ok]
  obtain ⟨K5, e5, q5⟩ := sfx_bytes q4 rfl
  have x5 : (apu5  b) = (u, K5, 0) := by
    simp only [apu5, x4, x0, x1, x2, x3]
    exact e5
  have y5 : (apw5  b) = (u, K5, 0) := by
    simp only [apw5, z5, y0, y1, y2, y3, y4]
    exact e5
  have z6 : (aps6  b) = (K5, false) := by simp only [aps6, z5, y5, mvS_ok]
  refine ⟨⟨_, x0⟩, by rw [y0, x0], ⟨_, x1⟩, by rw [y1, x1], ⟨_, x2⟩, by rw [y2, x2], ⟨_, x3⟩, by rw [y3, x3], ⟨_, x4⟩, by rw [y4, x4], ⟨_, x5⟩, by rw [y5, x5], ?_, ?_⟩
  · rw [z6, x5]
  · rw [x5]; exact q5
def apRd (b : List UInt8) : ApT := ((readS b).2.1, (readS b).1 == 4, (apu0 b).1, (apu1 b).1, (apu4 b).1, (apu5 b).1)
def apRw (l : Bool) (b : List UInt8) : ApT := (l, (readS b).1 == 4, (apw0 b).1, (apw1 b).1, (apw4 b).1, (apw5 b).1)
theorem apK_eq (mu : Bool) : (apK mu == 4) = mu := by cases mu <;> rfl
/-- what is read of bytes that begin with a request -/
theorem ap_front {li mu : Bool} {kv : Int} {re t u b r : List UInt8} (hv : apC kv re t u = 0) (hb : b = apB li mu kv re t u ++ r) :
    readS b = (apK mu, li, 0) ∧ apRd b = (li, mu, kv, re, t, u) ∧ apRw li b = (li, mu, kv, re, t, u) ∧ aps6 b = ((apu5 b).2.1, false) ∧ Sfx b (apu5 b).2.1 r := by
  obtain ⟨h1, h2, h3, h4⟩ := apC_ok hv
  have e : b = putS (apK mu) li ++ (numS false 1 kv ++ (re ++ ([0] ++ (numS false 1 (t.length : Int) ++ (numS false 1 (u.length : Int) ++ (t ++ (u ++ (r)))))))) := by rw [hb, apB]; simp
  obtain ⟨⟨_, x0⟩, y0, ⟨_, x1⟩, y1, _, _, _, _, ⟨_, x4⟩, y4, ⟨_, x5⟩, y5, z, q⟩ := ap_read h2 ⟨realm_len h1, realm_nz h1⟩ h3 h4 (sfx_head e (apK_range mu).1 (apK_range mu).2)
  have hr := readS_head e (apK_range mu).1 (apK_range mu).2
  refine ⟨hr, ?_, ?_, z, q⟩
  · rw [apRd, hr, x0, x1, x4, x5]
    simp only [apK_eq]
  · rw [apRw, hr, y0, y1, y4, y5]
    simp only [apK_eq]
theorem ap_rd {x : ApT} {b : List UInt8} (h : apN x = (b, 0)) : apRd b = x ∧ apRw x.1 b = x ∧ (aps6 b).2 = false ∧ readS b = (apK x.2.1, x.1, 0) := by
  obtain ⟨li, mu, kv, re, t, u⟩ := x
  obtain ⟨h1, h2⟩ := apN_is h
  obtain ⟨r1, r2, r3, r4, _⟩ := ap_front (b := b) (li := li) (mu := mu) (r := []) h1 (by rw [← h2]; simp)
  exact ⟨r2, r3, by rw [r4], r1⟩
def apD (b : List UInt8) : ApT × Int := if (isS b [3, 4]).2 = 0 then decG apN apRd ap0 b else (ap0, (isS b [3, 4]).2)
theorem apD_head {b : List UInt8} (h : ¬ (isS b [3, 4]).2 = 0) : apD b = (ap0, (isS b [3, 4]).2) := by rw [apD, if_neg h]
theorem apD_yes {b : List UInt8} (h : (isS b [3, 4]).2 = 0) (h1 : (apN (apRd b)).2 = 0) (h2 : (apN (apRd b)).1 = b) : apD b = (apRd b, 0) := by rw [apD, if_pos h, decG_yes h1 h2]
theorem apD_no {b : List UInt8} (h : (isS b [3, 4]).2 = 0) (h1 : ¬ (apN (apRd b)).2 = 0 ∨ ¬ (apN (apRd b)).1 = b) : apD b = (ap0, 100) := by rw [apD, if_pos h, decG_no h1]
theorem apD_ref {b : List UInt8} (h : (isS b [3, 4]).2 = 0) (h1 : (apN (apRw (isS b [3, 4]).1 b)).2 = 0) (h2 : (apN (apRw (isS b [3, 4]).1 b)).1 = b) : apD b = (apRw (isS b [3, 4]).1 b, 0) := by
  rw [apD, if_pos h]
  exact decG_ref (rd' := apRw (isS b [3, 4]).1) (fun e => (ap_rd e).1) h1 h2
theorem apD_bad {b : List UInt8} (h : (isS b [3, 4]).2 = 0) (h1 : (aps6 b).2 = true ∨ ¬ (apN (apRw (isS b [3, 4]).1 b)).2 = 0 ∨ ¬ (apN (apRw (isS b [3, 4]).1 b)).1 = b) : apD b = (ap0, 100) := by
  rw [apD, if_pos h]
  refine decG_bad (rd' := apRw (isS b [3, 4]).1) (bad := fun b => (aps6 b).2) (fun e => ?_) h1
  obtain ⟨q1, q2, q3, q4⟩ := ap_rd e
  have : (isS b [3, 4]).1 = (apRd b).1 := by rw [(isS_is h).2.2]; rfl
  rw [this]
  exact ⟨q2, q3⟩
theorem apD_trip {x : ApT} {b : List UInt8} (h : apN x = (b, 0)) : apD b = (x, 0) := by
  obtain ⟨_, _, _, q⟩ := ap_rd h
  rw [apD, if_pos (by rw [isS_ok q (by cases x.2.1 <;> decide)]), decG_trip (fun e => (ap_rd e).1) h]

abbrev TgT := ApT × Int × Int × List UInt8 × List UInt8
def tg0 : TgT := (ap0, 0, 0, [], [])
def tgC (mu : Bool) (kv : Int) (re t u : List UInt8) (tm lf : Int) (sv si : List UInt8) : Int :=
  if mu = true then 100 else if apC kv re t u = 0 then (if nameS sv = true ∧ instS si = true then (if (0 ≤ tm ∧ tm ≤ 4294967295) ∧ (0 ≤ lf ∧ lf ≤ 255) then 0 else 104) else 103) else apC kv re t u
section
variable {li mu : Bool} {kv tm lf : Int} {re t u sv si : List UInt8}
theorem tgC_mu (h : mu = true) : tgC mu kv re t u tm lf sv si = 100 := by rw [tgC, if_pos h]
theorem tgC_ap (h : mu = false) (h1 : ¬ apC kv re t u = 0) : tgC mu kv re t u tm lf sv si = apC kv re t u := by rw [tgC, if_neg (by simp [h]), if_neg h1]
theorem tgC_3 (h : mu = false) (h1 : apC kv re t u = 0) (h2 : nameS sv = false ∨ instS si = false) : tgC mu kv re t u tm lf sv si = 103 := by
  rw [tgC, if_neg (by simp [h]), if_pos h1, if_neg (fun hh => by rcases h2 with h2 | h2; (rw [h2] at hh; exact absurd hh.1 (by decide)); (rw [h2] at hh; exact absurd hh.2 (by decide)))]
theorem tgC_4 (h : mu = false) (h1 : apC kv re t u = 0) (h2 : nameS sv = true) (h3 : instS si = true) (h4 : ¬ ((0 ≤ tm ∧ tm ≤ 4294967295) ∧ (0 ≤ lf ∧ lf ≤ 255))) : tgC mu kv re t u tm lf sv si = 104 := by
  rw [tgC, if_neg (by simp [h]), if_pos h1, if_pos ⟨h2, h3⟩, if_neg h4]
theorem tgC_0 (h : mu = false) (h1 : apC kv re t u = 0) (h2 : nameS sv = true) (h3 : instS si = true) (h4 : 0 ≤ tm ∧ tm ≤ 4294967295) (h5 : 0 ≤ lf ∧ lf ≤ 255) : tgC mu kv re t u tm lf sv si = 0 := by
  rw [tgC, if_neg (by simp [h]), if_pos h1, if_pos ⟨h2, h3⟩, if_pos ⟨h4, h5⟩]
theorem tgC_ok (h : tgC mu kv re t u tm lf sv si = 0) : mu = false ∧ apC kv re t u = 0 ∧ nameS sv = true ∧ instS si = true ∧ (0 ≤ tm ∧ tm ≤ 4294967295) ∧ (0 ≤ lf ∧ lf ≤ 255) := by
  unfold tgC at h
  split at h
  · cases h
  · rename_i h0
    split at h
    · rename_i h1
      split at h
      · rename_i h2
        split at h
        · rename_i h3; exact ⟨by cases mu <;> simp_all, h1, h2.1, h2.2, h3⟩
        · cases h
      · cases h
    · rename_i h1; exact absurd h h1
end
def tgB (li mu : Bool) (kv : Int) (re t u : List UInt8) (tm lf : Int) (sv si : List UInt8) : List UInt8 := apB li mu kv re t u ++ numS li 4 tm ++ numS false 1 lf ++ sv ++ [0] ++ si ++ [0]
theorem tgB_len (li mu : Bool) (kv : Int) (re t u : List UInt8) (tm lf : Int) (sv si : List UInt8) : (tgB li mu kv re t u tm lf sv si).length = 2 + 1 + re.length + 1 + 1 + 1 + t.length + u.length + 4 + 1 + sv.length + 1 + si.length + 1 := by
  simp [tgB, apB_len]; omega
def tgCx (x : TgT) : Int := tgC x.1.2.1 x.1.2.2.1 x.1.2.2.2.1 x.1.2.2.2.2.1 x.1.2.2.2.2.2 x.2.1 x.2.2.1 x.2.2.2.1 x.2.2.2.2
def tgBx (x : TgT) : List UInt8 := tgB x.1.1 x.1.2.1 x.1.2.2.1 x.1.2.2.2.1 x.1.2.2.2.2.1 x.1.2.2.2.2.2 x.2.1 x.2.2.1 x.2.2.2.1 x.2.2.2.2
def tgN (x : TgT) : List UInt8 × Int := if tgCx x = 0 then (tgBx x, 0) else ([], tgCx x)
theorem tgN_ok {li mu : Bool} {kv tm lf : Int} {re t u sv si : List UInt8} (h : tgC mu kv re t u tm lf sv si = 0) : tgN ((li, mu, kv, re, t, u), tm, lf, sv, si) = (tgB li mu kv re t u tm lf sv si, 0) := by rw [tgN]; exact if_pos h
theorem tgN_no {li mu : Bool} {kv tm lf : Int} {re t u sv si : List UInt8} (h : ¬ tgC mu kv re t u tm lf sv si = 0) : tgN ((li, mu, kv, re, t, u), tm, lf, sv, si) = ([], tgC mu kv re t u tm lf sv si) := by rw [tgN]; exact if_neg h
theorem tgN_is {x : TgT} {b : List UInt8} (h : tgN x = (b, 0)) : tgCx x = 0 ∧ tgBx x = b := by
  unfold tgN at h
  split at h
  · rename_i h1; cases h; exact ⟨h1, rfl⟩
  · rename_i h1; exact absurd (congrArg Prod.snd h) h1
theorem tgN_len (x : TgT) : (tgN x).1.length ≤ 700 := by
  unfold tgN
  split
  · rename_i h
    obtain ⟨_, h0, h5, h6, _⟩ := tgC_ok h
    obtain ⟨h1, _, h2⟩ := apC_ok h0
    have := realm_len h1
    have := name_len h5
    have := inst_len h6
    show (tgB _ _ _ _ _ _ _ _ _ _).length ≤ _
    rw [tgB_len]; omega
  · simp
def tgu0 (l : Bool) (b : List UInt8) := getS l 4 b (apu5 b).2.1
def tgu1 (l : Bool) (b : List UInt8) := getS false 1 b (tgu0 l b).2.1
def tgu2 (l : Bool) (b : List UInt8) := textS b (tgu1 l b).2.1
def tgu3 (l : Bool) (b : List UInt8) := textS b (tgu2 l b).2.1
def tgw0 (l : Bool) (b : List UInt8) := getS l 4 b (aps6 b).1
def tgs1 (l : Bool) (b : List UInt8) : Int × Bool := mvS (aps6 b) (tgw0 l b).2
def tgw1 (l : Bool) (b : List UInt8) := getS false 1 b (tgs1 l b).1
def tgs2 (l : Bool) (b : List UInt8) : Int × Bool := mvS (tgs1 l b) (tgw1 l b).2
def tgw2 (l : Bool) (b : List UInt8) := textS b (tgs2 l b).1
def tgs3 (l : Bool) (b : List UInt8) : Int × Bool := mvS (tgs2 l b) (tgw2 l b).2
def tgw3 (l : Bool) (b : List UInt8) := textS b (tgs3 l b).1
def tgs4 (l : Bool) (b : List UInt8) : Int × Bool := mvS (tgs3 l b) (tgw3 l b).2
theorem tgs_bounds (l : Bool) (b : List UInt8) (g0 : 0 ≤ (aps6 b).1 ∧ (aps6 b).1 ≤ max (2 : Int) (b.length : Int)) : (0 ≤ (tgs1 l b).1 ∧ (tgs1 l b).1 ≤ max (2 : Int) (b.length : Int)) ∧ (0 ≤ (tgs2 l b).1 ∧ (tgs2 l b).1 ≤ max (2 : Int) (b.length : Int)) ∧ (0 ≤ (tgs3 l b).1 ∧ (tgs3 l b).1 ≤ max (2 : Int) (b.length : Int)) ∧ (0 ≤ (tgs4 l b).1 ∧ (tgs4 l b).1 ≤ max (2 : Int) (b.length : Int)) := by
  have g1 : 0 ≤ (tgs1 l b).1 ∧ (tgs1 l b).1 ≤ max (2 : Int) (b.length : Int) := mvS_bounds g0 (get_next _ _ _ _)
  have g2 : 0 ≤ (tgs2 l b).1 ∧ (tgs2 l b).1 ≤ max (2 : Int) (b.length : Int) := mvS_bounds g1 (get_next _ _ _ _)
  have g3 : 0 ≤ (tgs3 l b).1 ∧ (tgs3 l b).1 ≤ max (2 : Int) (b.length : Int) := mvS_bounds g2 (text_next _ _)
  have g4 : 0 ≤ (tgs4 l b).1 ∧ (tgs4 l b).1 ≤ max (2 : Int) (b.length : Int) := mvS_bounds g3 (text_next _ _)
  exact ⟨g1, g2, g3, g4⟩
theorem tg_read {l : Bool} {tm lf : Int} {sv si : List UInt8} (htm : 0 ≤ tm ∧ tm ≤ 4294967295) (hlf : 0 ≤ lf ∧ lf ≤ 255) (hsv : sv.length ≤ 39 ∧ 0 ∉ sv) (hsi : si.length ≤ 39 ∧ 0 ∉ si) {b r : List UInt8} (hs : Sfx b (apu5 b).2.1 (numS l 4 tm ++ (numS false 1 lf ++ (sv ++ ([0] ++ (si ++ ([0] ++ (r)))))))) (z0 : (aps6 b) = ((apu5 b).2.1, false)) : (∃ K, (tgu0 l b) = (tm, K, 0)) ∧ ((tgw0 l b) = (tm, (tgu0 l b).2.1, 0)) ∧ (∃ K, (tgu1 l b) = (lf, K, 0)) ∧ ((tgw1 l b) = (lf, (tgu1 l b).2.1, 0)) ∧ (∃ K, (tgu2 l b) = (sv, K, 0)) ∧ ((tgw2 l b) = (sv, (tgu2 l b).2.1, 0)) ∧ (∃ K, (tgu3 l b) = (si, K, 0)) ∧ ((tgw3 l b) = (si, (tgu3 l b).2.1, 0)) ∧ (tgs4 l b) = ((tgu3 l b).2.1, false) ∧ Sfx b (tgu3 l b).2.1 r := by
  obtain ⟨K0, e0, q0⟩ := sfx_num4 hs htm
  have x0 : (tgu0 l b) = (tm, K0, 0) := by
    simp only [tgu0]
    exact e0
  have y0 : (tgw0 l b) = (tm, K0, 0) := by
    simp only [tgw0, z0]
    exact e0
  have z1 : (tgs1 l b) = (K0, false) := by simp only [tgs1, z0, y0, mvS_ok]
  obtain ⟨K1, e1, q1⟩ := sfx_num1 q0 hlf
  have x1 : (tgu1 l b) = (lf, K1, 0) := by
    simp only [tgu1, x0]
    exact e1
  have y1 : (tgw1 l b) = (lf, K1, 0) := by
    simp only [tgw1, z1, y0]
    exact e1
  have z2 : (tgs2 l b) = (K1, false) := by simp only [tgs2, z1, y1, mvS_ok]
  obtain ⟨K2, e2, q2⟩ := sfx_text q1 hsv.1 hsv.2
  have x2 : (tgu2 l b) = (sv, K2, 0) := by
    simp only [tgu2, x1, x0]
    exact e2
  have y2 : (tgw2 l b) = (sv, K2, 0) := by
    simp only [tgw2, z2, y0, y1]
    exact e2
  have z3 : (tgs3 l b) = (K2, false) := by simp only [tgs3, z2, y2, mvS_ok]
  obtain ⟨K3, e3, q3⟩ := sfx_text q2 hsi.1 hsi.2
  have x3 : (tgu3 l b) = (si, K3, 0) := by
    simp only [tgu3, x2, x0, x1]
    exact e3
  have y3 : (tgw3 l b) = (si, K3, 0) := by
    simp only [tgw3, z3, y0, y1, y2]
    exact e3
  have z4 : (tgs4 l b) = (K3, false) := by simp only [tgs4, z3, y3, mvS_ok]
  refine ⟨⟨_, x0⟩, by rw [y0, x0], ⟨_, x1⟩, by rw [y1, x1], ⟨_, x2⟩, by rw [y2, x2], ⟨_, x3⟩, by rw [y3, x3], ?_, ?_⟩
  · rw [z4, x3]
  · rw [x3]; exact q3
def tgRd (b : List UInt8) : TgT := (apRd b, (tgu0 (isS b [3]).1 b).1, (tgu1 (isS b [3]).1 b).1, (tgu2 (isS b [3]).1 b).1, (tgu3 (isS b [3]).1 b).1)
def tgAw (l : Bool) (b : List UInt8) : ApT := (l, false, (apw0 b).1, (apw1 b).1, (apw4 b).1, (apw5 b).1)
def tgRw (l : Bool) (b : List UInt8) : TgT := (tgAw l b, (tgw0 l b).1, (tgw1 l b).1, (tgw2 l b).1, (tgw3 l b).1)
theorem tg_rd {x : TgT} {b : List UInt8} (h : tgN x = (b, 0)) : readS b = (3, x.1.1, 0) ∧ tgRd b = x ∧ tgRw x.1.1 b = x ∧ (tgs4 x.1.1 b).2 = false ∧ ∃ r, r.length ≠ 0 ∧ Sfx b (apu5 b).2.1 r := by
  obtain ⟨⟨li, mu, kv, re, t, u⟩, tm, lf, sv, si⟩ := x
  obtain ⟨h1, h2⟩ := tgN_is h
  obtain ⟨h3, h4, h5, h6, h7, h8⟩ := tgC_ok h1
  simp only at h3 h4 h5 h6 h7 h8
  subst h3
  obtain ⟨r1, r2, r3, r4, r5⟩ := ap_front (b := b) (li := li) (mu := false) (r := numS li 4 tm ++ (numS false 1 lf ++ (sv ++ ([0] ++ (si ++ ([0] ++ ([]))))))) h4 (by rw [← h2, tgBx]; simp [tgB])
  obtain ⟨⟨_, x0⟩, y0, ⟨_, x1⟩, y1, ⟨_, x2⟩, y2, ⟨_, x3⟩, y3, z, _⟩ := tg_read (l := li) h7 h8 ⟨name_len h5, name_nz h5⟩ ⟨inst_len h6, inst_nz h6⟩ r5 r4
  have hi := isS_ok r1 (ks := [3]) (by decide)
  refine ⟨r1, ?_, ?_, by show (tgs4 li b).2 = false; rw [z], _, ?_, r5⟩
  · rw [tgRd, hi, r2, x0, x1, x2, x3]
  · have r3' : tgAw li b = (li, false, kv, re, t, u) := by
      have := r3
      unfold apRw at this
      unfold tgAw
      simp only [Prod.mk.injEq] at this ⊢
      exact ⟨trivial, trivial, this.2.2⟩
    show tgRw li b = _
    rw [tgRw, r3', y0, y1, y2, y3]
  · simp
def tgD (b : List UInt8) : TgT × Int := if (isS b [3]).2 = 0 then decG tgN tgRd tg0 b else (tg0, (isS b [3]).2)
theorem tgD_head {b : List UInt8} (h : ¬ (isS b [3]).2 = 0) : tgD b = (tg0, (isS b [3]).2) := by rw [tgD, if_neg h]
theorem tgD_yes {b : List UInt8} (h : (isS b [3]).2 = 0) (h1 : (tgN (tgRd b)).2 = 0) (h2 : (tgN (tgRd b)).1 = b) : tgD b = (tgRd b, 0) := by rw [tgD, if_pos h, decG_yes h1 h2]
theorem tgD_no {b : List UInt8} (h : (isS b [3]).2 = 0) (h1 : ¬ (tgN (tgRd b)).2 = 0 ∨ ¬ (tgN (tgRd b)).1 = b) : tgD b = (tg0, 100) := by rw [tgD, if_pos h, decG_no h1]
theorem tgD_ref {b : List UInt8} (h : (isS b [3]).2 = 0) (h1 : (tgN (tgRw (isS b [3]).1 b)).2 = 0) (h2 : (tgN (tgRw (isS b [3]).1 b)).1 = b) : tgD b = (tgRw (isS b [3]).1 b, 0) := by
  rw [tgD, if_pos h]
  exact decG_ref (rd' := tgRw (isS b [3]).1) (fun e => (tg_rd e).2.1) h1 h2
theorem tgD_bad {b : List UInt8} (h : (isS b [3]).2 = 0) (h1 : (tgs4 (isS b [3]).1 b).2 = true ∨ ¬ (tgN (tgRw (isS b [3]).1 b)).2 = 0 ∨ ¬ (tgN (tgRw (isS b [3]).1 b)).1 = b) : tgD b = (tg0, 100) := by
  rw [tgD, if_pos h]
  refine decG_bad (rd' := tgRw (isS b [3]).1) (bad := fun b => (tgs4 (isS b [3]).1 b).2) (fun e => ?_) h1
  obtain ⟨q1, q2, q3, q4, _⟩ := tg_rd e
  have : (isS b [3]).1 = (tgRd b).1.1 := by rw [(isS_is h).2.2]; rfl
  rw [this]
  exact ⟨q3, q4⟩
theorem tgD_trip {x : TgT} {b : List UInt8} (h : tgN x = (b, 0)) : tgD b = (x, 0) := by
  obtain ⟨q, _⟩ := tg_rd h
  rw [tgD, if_pos (by rw [isS_ok q (by decide)]), decG_trip (fun e => (tg_rd e).2.1) h]
/-- no bytes are both -/
theorem ap_tg {x : ApT} {y : TgT} {b : List UInt8} (h1 : apN x = (b, 0)) (h2 : tgN y = (b, 0)) : False := by
  obtain ⟨li, mu, kv, re, t, u⟩ := x
  obtain ⟨e1, e2⟩ := apN_is h1
  obtain ⟨_, _, _, _, q⟩ := ap_front (b := b) (li := li) (mu := mu) (r := []) e1 (by rw [← e2]; simp)
  obtain ⟨_, _, _, _, r, hr, p, e3, e4⟩ := tg_rd h2
  have e5 := sfx_end q
  have e6 : b.length = p.length + r.length := by rw [e3]; simp
  omega
theorem ap_notg {x : ApT} {b : List UInt8} (h : apN x = (b, 0)) : ¬ (tgD b).2 = 0 := by
  intro h1
  unfold tgD at h1
  split at h1
  · exact ap_tg h (decG_is h1).1
  · rename_i h2; exact h2 h1
theorem tg_noap {y : TgT} {b : List UInt8} (h : tgN y = (b, 0)) : ¬ (apD b).2 = 0 := by
  intro h1
  unfold apD at h1
  split at h1
  · exact ap_tg (decG_is h1).1 h
  · rename_i h2; exact h2 h1

abbrev MuT := Int × Int × Int
def mt0 : MuT := (0, 0, 0)
def mtR (ck tk tm : Int) : Prop := (0 ≤ ck ∧ ck ≤ 4294967295) ∧ (0 ≤ tk ∧ tk ≤ 199) ∧ (0 ≤ tm ∧ tm ≤ 4294967295)
instance (ck tk tm : Int) : Decidable (mtR ck tk tm) := by unfold mtR; infer_instance
def mtB (l : Bool) (ck tk tm : Int) : List UInt8 := [] ++ numS false 1 (ordN l) ++ numS l 4 ck ++ numS false 1 tk ++ numS l 4 tm
theorem mtB_len (l : Bool) (ck tk tm : Int) : (mtB l ck tk tm).length = 0 + 1 + 4 + 1 + 4 := by simp [mtB]
def mtE (l : Bool) (ck tk tm : Int) : List UInt8 := padS (mtB l ck tk tm)
theorem mtE_len (l : Bool) (ck tk tm : Int) : (mtE l ck tk tm).length = 16 := by rw [mtE, padS_len, mtB_len]; rfl
def mtN (l : Bool) (x : MuT) : List UInt8 × Int := if mtR x.1 x.2.1 x.2.2 then (mtE l x.1 x.2.1 x.2.2, 0) else ([], 104)
theorem mtN_ok {l : Bool} {ck tk tm : Int} (h : (0 ≤ ck ∧ ck ≤ 4294967295) ∧ (0 ≤ tk ∧ tk ≤ 199) ∧ (0 ≤ tm ∧ tm ≤ 4294967295)) : mtN l (ck, tk, tm) = (mtE l ck tk tm, 0) := by rw [mtN]; exact if_pos h
theorem mtN_no {l : Bool} {ck tk tm : Int} (h : ¬ ((0 ≤ ck ∧ ck ≤ 4294967295) ∧ (0 ≤ tk ∧ tk ≤ 199) ∧ (0 ≤ tm ∧ tm ≤ 4294967295))) : mtN l (ck, tk, tm) = ([], 104) := by rw [mtN]; exact if_neg h
theorem mtN_is {l : Bool} {x : MuT} {b : List UInt8} (h : mtN l x = (b, 0)) : mtR x.1 x.2.1 x.2.2 ∧ mtE l x.1 x.2.1 x.2.2 = b := by
  unfold mtN at h
  split at h
  · rename_i h1; cases h; exact ⟨h1, rfl⟩
  · cases h
theorem mtN_len (l : Bool) (x : MuT) : (mtN l x).1.length ≤ 16 := by
  unfold mtN
  split
  · exact Nat.le_of_eq (mtE_len _ _ _ _)
  · simp
def mtu0 (l : Bool) (b : List UInt8) := getS l 4 b 1
def mtu1 (l : Bool) (b : List UInt8) := getS false 1 b (mtu0 l b).2.1
def mtu2 (l : Bool) (b : List UInt8) := getS l 4 b (mtu1 l b).2.1
def mtw0 (l : Bool) (b : List UInt8) := getS l 4 b (oct0S b).1
def mts1 (l : Bool) (b : List UInt8) : Int × Bool := mvS (oct0S b) (mtw0 l b).2
def mtw1 (l : Bool) (b : List UInt8) := getS false 1 b (mts1 l b).1
def mts2 (l : Bool) (b : List UInt8) : Int × Bool := mvS (mts1 l b) (mtw1 l b).2
def mtw2 (l : Bool) (b : List UInt8) := getS l 4 b (mts2 l b).1
def mts3 (l : Bool) (b : List UInt8) : Int × Bool := mvS (mts2 l b) (mtw2 l b).2
theorem mts_bounds (l : Bool) (b : List UInt8) (g0 : 0 ≤ (oct0S b).1 ∧ (oct0S b).1 ≤ max (2 : Int) (b.length : Int)) : (0 ≤ (mts1 l b).1 ∧ (mts1 l b).1 ≤ max (2 : Int) (b.length : Int)) ∧ (0 ≤ (mts2 l b).1 ∧ (mts2 l b).1 ≤ max (2 : Int) (b.length : Int)) ∧ (0 ≤ (mts3 l b).1 ∧ (mts3 l b).1 ≤ max (2 : Int) (b.length : Int)) := by
  have g1 : 0 ≤ (mts1 l b).1 ∧ (mts1 l b).1 ≤ max (2 : Int) (b.length : Int) := mvS_bounds g0 (get_next _ _ _ _)
  have g2 : 0 ≤ (mts2 l b).1 ∧ (mts2 l b).1 ≤ max (2 : Int) (b.length : Int) := mvS_bounds g1 (get_next _ _ _ _)
  have g3 : 0 ≤ (mts3 l b).1 ∧ (mts3 l b).1 ≤ max (2 : Int) (b.length : Int) := mvS_bounds g2 (get_next _ _ _ _)
  exact ⟨g1, g2, g3⟩
theorem mt_read {l : Bool} {ck tk tm : Int} (hck : 0 ≤ ck ∧ ck ≤ 4294967295) (htk : 0 ≤ tk ∧ tk ≤ 255) (htm : 0 ≤ tm ∧ tm ≤ 4294967295) {b r : List UInt8} (hs : Sfx b 1 (numS l 4 ck ++ (numS false 1 tk ++ (numS l 4 tm ++ (r))))) (z0 : (oct0S b) = (1, false)) : (∃ K, (mtu0 l b) = (ck, K, 0)) ∧ ((mtw0 l b) = (ck, (mtu0 l b).2.1, 0)) ∧ (∃ K, (mtu1 l b) = (tk, K, 0)) ∧ ((mtw1 l b) = (tk, (mtu1 l b).2.1, 0)) ∧ (∃ K, (mtu2 l b) = (tm, K, 0)) ∧ ((mtw2 l b) = (tm, (mtu2 l b).2.1, 0)) ∧ (mts3 l b) = ((mtu2 l b).2.1, false) ∧ Sfx b (mtu2 l b).2.1 r := by
  obtain ⟨K0, e0, q0⟩ := sfx_num4 hs hck
  have x0 : (mtu0 l b) = (ck, K0, 0) := by
    simp only [mtu0]
    exact e0
  have y0 : (mtw0 l b) = (ck, K0, 0) := by
    simp only [mtw0, z0]
    exact e0
  have z1 : (mts1 l b) = (K0, false) := by simp only [mts1, z0, y0, mvS_ok]
  obtain ⟨K1, e1, q1⟩ := sfx_num1 q0 htk
  have x1 : (mtu1 l b) = (tk, K1, 0) := by
    simp only [mtu1, x0]
    exact e1
  have y1 : (mtw1 l b) = (tk, K1, 0) := by
    simp only [mtw1, z1, y0]
    exact e1
  have z2 : (mts2 l b) = (K1, false) := by simp only [mts2, z1, y1, mvS_ok]
  obtain ⟨K2, e2, q2⟩ := sfx_num4 q1 htm
  have x2 : (mtu2 l b) = (tm, K2, 0) := by
    simp only [mtu2, x1, x0]
    exact e2
  have y2 : (mtw2 l b) = (tm, K2, 0) := by
    simp only [mtw2, z2, y0, y1]
    exact e2
  have z3 : (mts3 l b) = (K2, false) := by simp only [mts3, z2, y2, mvS_ok]
  refine ⟨⟨_, x0⟩, by rw [y0, x0], ⟨_, x1⟩, by rw [y1, x1], ⟨_, x2⟩, by rw [y2, x2], ?_, ?_⟩
  · rw [z3, x2]
  · rw [x2]; exact q2
def mtRd (l : Bool) (b : List UInt8) : MuT := ((mtu0 l b).1, (mtu1 l b).1, (mtu2 l b).1)
def mtRw (l : Bool) (b : List UInt8) : MuT := ((mtw0 l b).1, (mtw1 l b).1, (mtw2 l b).1)
theorem mt_rd {l : Bool} {x : MuT} {b : List UInt8} (h : mtN l x = (b, 0)) : mtRd l b = x ∧ mtRw l b = x ∧ (mts3 l b).2 = false ∧ (getS false 1 b 0).1 = ordN l := by
  obtain ⟨ck, tk, tm⟩ := x
  obtain ⟨⟨h1, h2, h3⟩, h4⟩ := mtN_is h
  simp only at h1 h2 h3 h4
  obtain ⟨o1, o2, o3⟩ := oct0S_ok (b := b) (n := ordN l) (r := numS l 4 ck ++ (numS false 1 tk ++ (numS l 4 tm ++ (List.replicate (padN (mtB l ck tk tm).length) 0)))) (by rw [← h4, mtE, padS, mtB]; simp) (ordN_range l)
  obtain ⟨⟨_, x0⟩, y0, ⟨_, x1⟩, y1, ⟨_, x2⟩, y2, z, _⟩ := mt_read h1 (by omega) h3 o2 o1
  refine ⟨?_, ?_, by rw [z], o3⟩
  · rw [mtRd, x0, x1, x2]
  · rw [mtRw, y0, y1, y2]
def mtD (l : Bool) (b : List UInt8) : MuT × Int := decG (mtN l) (mtRd l) mt0 b
theorem mtD_yes {l : Bool} {b : List UInt8} (h1 : (mtN l (mtRd l b)).2 = 0) (h2 : (mtN l (mtRd l b)).1 = b) : mtD l b = (mtRd l b, 0) := decG_yes h1 h2
theorem mtD_no {l : Bool} {b : List UInt8} (h1 : ¬ (mtN l (mtRd l b)).2 = 0 ∨ ¬ (mtN l (mtRd l b)).1 = b) : mtD l b = (mt0, 100) := decG_no h1
theorem mtD_ref {l : Bool} {b : List UInt8} (h1 : (mtN l (mtRw l b)).2 = 0) (h2 : (mtN l (mtRw l b)).1 = b) : mtD l b = (mtRw l b, 0) := decG_ref (rd' := mtRw l) (fun e => (mt_rd e).1) h1 h2
theorem mtD_bad {l : Bool} {b : List UInt8} (h1 : (mts3 l b).2 = true ∨ ¬ (mtN l (mtRw l b)).2 = 0 ∨ ¬ (mtN l (mtRw l b)).1 = b) : mtD l b = (mt0, 100) :=
  decG_bad (rd' := mtRw l) (bad := fun b => (mts3 l b).2) (fun e => ⟨(mt_rd e).2.1, (mt_rd e).2.2.1⟩) h1
theorem mtD_trip {l : Bool} {x : MuT} {b : List UInt8} (h : mtN l x = (b, 0)) : mtD l b = (x, 0) := decG_trip (fun e => (mt_rd e).1) h
theorem mtD_other {l : Bool} {x : MuT} {b : List UInt8} (h : mtN l x = (b, 0)) : mtD (!l) b = (mt0, 100) := by
  refine decG_no ?_
  by_cases h1 : (mtN (!l) (mtRd (!l) b)).2 = 0
  · right
    intro h2
    have e1 := (mt_rd h).2.2.2
    have e2 := (mt_rd (pair_of h1 h2)).2.2.2
    rw [e1] at e2
    have := ordN_ne e2
    cases l <;> cases this
  · exact .inl h1

abbrev AnT := List UInt8 × Bool
def an0 : AnT := ([], false)
def anB (l : Bool) (d : List UInt8) : List UInt8 := putS 8 l ++ numS l 2 (d.length : Int) ++ d
theorem anB_len (l : Bool) (d : List UInt8) : (anB l d).length = 4 + d.length := by
  have h : (putS 8 l).length = 2 := by rw [putS_yes (by decide) (by decide)]; rfl
  simp [anB, h]; omega
def anN (x : AnT) : List UInt8 × Int := if x.1.length ≤ 1012 then (anB x.2 x.1, 0) else ([], 105)
theorem anN_ok {l : Bool} {d : List UInt8} (h : d.length ≤ 1012) : anN (d, l) = (anB l d, 0) := by rw [anN]; exact if_pos h
theorem anN_no {l : Bool} {d : List UInt8} (h : ¬ d.length ≤ 1012) : anN (d, l) = ([], 105) := by rw [anN]; exact if_neg h
theorem anN_is {x : AnT} {b : List UInt8} (h : anN x = (b, 0)) : x.1.length ≤ 1012 ∧ anB x.2 x.1 = b := by
  unfold anN at h
  split at h
  · rename_i h1; cases h; exact ⟨h1, rfl⟩
  · cases h
theorem anN_len (x : AnT) : (anN x).1.length ≤ 1016 := by
  unfold anN
  split
  · rw [anB_len]; omega
  · simp
def anu0 (l : Bool) (b : List UInt8) := getS l 2 b 2
def anu1 (l : Bool) (b : List UInt8) := bytesS b (anu0 l b).2.1 (anu0 l b).1
def anw0 (l : Bool) (b : List UInt8) := getS l 2 b 2
def ans1 (l : Bool) (b : List UInt8) : Int × Bool := mvS ((2, false) : Int × Bool) (anw0 l b).2
def anw1 (l : Bool) (b : List UInt8) := bytesS b (ans1 l b).1 (anw0 l b).1
def ans2 (l : Bool) (b : List UInt8) : Int × Bool := mvS (ans1 l b) (anw1 l b).2
theorem ans_bounds (l : Bool) (b : List UInt8) : (0 ≤ (ans1 l b).1 ∧ (ans1 l b).1 ≤ max (2 : Int) (b.length : Int)) ∧ (0 ≤ (ans2 l b).1 ∧ (ans2 l b).1 ≤ max (2 : Int) (b.length : Int)) := by
  have g0 : 0 ≤ ((2, false) : Int × Bool).1 ∧ ((2, false) : Int × Bool).1 ≤ max (2 : Int) (b.length : Int) := by simp only; omega
  have g1 : 0 ≤ (ans1 l b).1 ∧ (ans1 l b).1 ≤ max (2 : Int) (b.length : Int) := mvS_bounds g0 (get_next _ _ _ _)
  have g2 : 0 ≤ (ans2 l b).1 ∧ (ans2 l b).1 ≤ max (2 : Int) (b.length : Int) := mvS_bounds g1 (bytes_next _ _ _)
  exact ⟨g1, g2⟩
theorem an_read {l : Bool} {d : List UInt8} (hd : 0 ≤ (d.length : Int) ∧ (d.length : Int) ≤ 65535) {b r : List UInt8} (hs : Sfx b 2 (numS l 2 (d.length : Int) ++ (d ++ (r)))) : (∃ K, (anu0 l b) = ((d.length : Int), K, 0)) ∧ ((anw0 l b) = ((d.length : Int), (anu0 l b).2.1, 0)) ∧ (∃ K, (anu1 l b) = (d, K, 0)) ∧ ((anw1 l b) = (d, (anu1 l b).2.1, 0)) ∧ (ans2 l b) = ((anu1 l b).2.1, false) ∧ Sfx b (anu1 l b).2.1 r := by
  obtain ⟨K0, e0, q0⟩ := sfx_num2 hs hd
  have x0 : (anu0 l b) = ((d.length : Int), K0, 0) := by
    simp only [anu0]
    exact e0
  have y0 : (anw0 l b) = ((d.length : Int), K0, 0) := by
    simp only [anw0]
    exact e0
  have z1 : (ans1 l b) = (K0, false) := by simp only [ans1, y0, mvS_ok]
  obtain ⟨K1, e1, q1⟩ := sfx_bytes q0 rfl
  have x1 : (anu1 l b) = (d, K1, 0) := by
    simp only [anu1, x0]
    exact e1
  have y1 : (anw1 l b) = (d, K1, 0) := by
    simp only [anw1, z1, y0]
    exact e1
  have z2 : (ans2 l b) = (K1, false) := by simp only [ans2, z1, y1, mvS_ok]
  refine ⟨⟨_, x0⟩, by rw [y0, x0], ⟨_, x1⟩, by rw [y1, x1], ?_, ?_⟩
  · rw [z2, x1]
  · rw [x1]; exact q1
def anRd (b : List UInt8) : AnT := ((anu1 (isS b [8]).1 b).1, (isS b [8]).1)
def anRw (b : List UInt8) : AnT := ((anw1 (isS b [8]).1 b).1, (isS b [8]).1)
theorem an_rd {x : AnT} {b : List UInt8} (h : anN x = (b, 0)) : readS b = (8, x.2, 0) ∧ anRd b = x ∧ anRw b = x ∧ (ans2 (isS b [8]).1 b).2 = false := by
  obtain ⟨d, l⟩ := x
  obtain ⟨h1, h2⟩ := anN_is h
  simp only at h1 h2
  have e : b = putS 8 l ++ (numS l 2 (d.length : Int) ++ (d ++ ([]))) := by rw [← h2, anB]; simp
  obtain ⟨⟨_, x0⟩, y0, ⟨_, x1⟩, y1, z, _⟩ := an_read (l := l) (by omega) (sfx_head e (by decide) (by decide))
  have hr := readS_head e (by decide) (by decide)
  have hi := isS_ok hr (ks := [8]) (by decide)
  refine ⟨hr, ?_, ?_, by rw [hi]; simp only; rw [z]⟩
  · rw [anRd, hi, x1]
  · rw [anRw, hi, y1]
def anD (b : List UInt8) : AnT × Int := if (isS b [8]).2 = 0 then decG anN anRd an0 b else (an0, (isS b [8]).2)
theorem anD_head {b : List UInt8} (h : ¬ (isS b [8]).2 = 0) : anD b = (an0, (isS b [8]).2) := by rw [anD, if_neg h]
theorem anD_yes {b : List UInt8} (h : (isS b [8]).2 = 0) (h1 : (anN (anRd b)).2 = 0) (h2 : (anN (anRd b)).1 = b) : anD b = (anRd b, 0) := by rw [anD, if_pos h, decG_yes h1 h2]
theorem anD_no {b : List UInt8} (h : (isS b [8]).2 = 0) (h1 : ¬ (anN (anRd b)).2 = 0 ∨ ¬ (anN (anRd b)).1 = b) : anD b = (an0, 100) := by rw [anD, if_pos h, decG_no h1]
theorem anD_ref {b : List UInt8} (h : (isS b [8]).2 = 0) (h1 : (anN (anRw b)).2 = 0) (h2 : (anN (anRw b)).1 = b) : anD b = (anRw b, 0) := by
  rw [anD, if_pos h]
  exact decG_ref (rd' := anRw) (fun e => (an_rd e).2.1) h1 h2
theorem anD_bad {b : List UInt8} (h : (isS b [8]).2 = 0) (h1 : (ans2 (isS b [8]).1 b).2 = true ∨ ¬ (anN (anRw b)).2 = 0 ∨ ¬ (anN (anRw b)).1 = b) : anD b = (an0, 100) := by
  rw [anD, if_pos h]
  exact decG_bad (rd' := anRw) (bad := fun b => (ans2 (isS b [8]).1 b).2) (fun e => ⟨(an_rd e).2.2.1, (an_rd e).2.2.2⟩) h1
theorem anD_trip {x : AnT} {b : List UInt8} (h : anN x = (b, 0)) : anD b = (x, 0) := by
  obtain ⟨q, _⟩ := an_rd h
  rw [anD, if_pos (by rw [isS_ok q (by decide)]), decG_trip (fun e => (an_rd e).2.1) h]
end Go.Sx

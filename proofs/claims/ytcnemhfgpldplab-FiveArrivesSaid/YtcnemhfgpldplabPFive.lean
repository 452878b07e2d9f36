/-
  Records, parts and messages of version 5, as plain functions: for every input.
-/
import Derived.Test.YtcnemhfgpldplabPCod
import Derived.Test.YtcnemhfgpldplabPKey
import Derived.Test.YtcnemhfgpldplabPHeader
set_option linter.all false
set_option linter.all false
namespace Go.Sx
/-- the program's reader: where it stands, and whether it failed -/
def mvF (s : Int × Bool) (q : Int × Int) : Int × Bool := (if q.2 = 0 then q.1 else s.1, s.2 || decide (q.2 ≠ 0))
theorem mvF_ok (k n : Int) : mvF (k, false) (n, 0) = (n, false) := by simp [mvF]
theorem mvF_bounds {s : Int × Bool} {q : Int × Int} {c L : Int} (h1 : 0 ≤ s.1 ∧ s.1 ≤ max c L) (h2 : 0 ≤ q.1 ∧ q.1 ≤ L) : 0 ≤ (mvF s q).1 ∧ (mvF s q).1 ≤ max c L := by
  show 0 ≤ (if q.2 = 0 then q.1 else s.1) ∧ (if q.2 = 0 then q.1 else s.1) ≤ _
  split <;> omega
def kyF (s : Int × Bool) (ok : Bool) : Int × Bool := (s.1, s.2 || !ok)
theorem kyF_ok (k : Int) : kyF (k, false) true = (k, false) := rfl
def u32R (n : Int) : Prop := 0 ≤ n ∧ n ≤ 4294967295
instance (n : Int) : Decidable (u32R n) := by unfold u32R; infer_instance
structure FRec where
  (c1 c2 c3 s1 s2 s3 : List UInt8)
  (k st en ad : Int)
structure FPart where
  (k : Int)
  (s1 s2 s3 : List UInt8)
  (st en : Int)
  (rc : List UInt8)
structure FMsg where
  (op : Int)
  (n1 n2 n3 bx : List UInt8)
def fr0 : FRec := ⟨[], [], [], [], [], [], 0, 0, 0, 0⟩
def fp0 : FPart := ⟨0, [], [], [], 0, 0, []⟩
def fm0 : FMsg := ⟨0, [], [], [], []⟩
def frB (t : FRec) : List UInt8 := [] ++ t.c1 ++ [0] ++ t.c2 ++ [0] ++ t.c3 ++ [0] ++ t.s1 ++ [0] ++ t.s2 ++ [0] ++ t.s3 ++ [0] ++ keyB t.k ++ numS false 4 t.st ++ numS false 4 t.en ++ numS false 4 t.ad
def fpB (t : FPart) : List UInt8 := keyB t.k ++ t.s1 ++ [0] ++ t.s2 ++ [0] ++ t.s3 ++ [0] ++ numS false 4 t.st ++ numS false 4 t.en ++ numS false 2 (t.rc.length : Int) ++ t.rc
def fmB (t : FMsg) : List UInt8 := [4, 20] ++ numS false 1 t.op ++ t.n1 ++ [0] ++ t.n2 ++ [0] ++ t.n3 ++ [0] ++ numS false 2 (t.bx.length : Int) ++ t.bx
def frN (t : FRec) : List UInt8 × Int := if validS t.c1 t.c2 t.c3 = true ∧ validS t.s1 t.s2 t.s3 = true then (if classS t.k = 2 then (if (u32R t.st ∧ u32R t.en ∧ t.st ≤ t.en) ∧ u32R t.ad then (padS (frB t), 0) else ([], 104)) else ([], 10)) else ([], 103)
def fpN (t : FPart) : List UInt8 × Int := if keyOk t.k = true then (if validS t.s1 t.s2 t.s3 = true then (if u32R t.st ∧ u32R t.en ∧ t.st ≤ t.en then (if t.rc.length ≤ 300 then (padS (fpB t), 0) else ([], 105)) else ([], 104)) else ([], 103)) else ([], 10)
def fmN (t : FMsg) : List UInt8 × Int := if t.op = 1 ∨ t.op = 2 ∨ t.op = 3 then (if validS t.n1 t.n2 t.n3 = true then (if t.bx.length ≤ 1012 then (fmB t, 0) else ([], 105)) else ([], 103)) else ([], 40)
section
variable {t : FRec}
theorem frN_103 (h : ¬ (validS t.c1 t.c2 t.c3 = true ∧ validS t.s1 t.s2 t.s3 = true)) : frN t = ([], 103) := by
  rw [frN, if_neg h]
theorem frN_10 (h0 : validS t.c1 t.c2 t.c3 = true ∧ validS t.s1 t.s2 t.s3 = true) (h : ¬ (classS t.k = 2)) : frN t = ([], 10) := by
  rw [frN, if_pos h0, if_neg h]
theorem frN_104 (h0 : validS t.c1 t.c2 t.c3 = true ∧ validS t.s1 t.s2 t.s3 = true) (h1 : classS t.k = 2) (h : ¬ ((u32R t.st ∧ u32R t.en ∧ t.st ≤ t.en) ∧ u32R t.ad)) : frN t = ([], 104) := by
  rw [frN, if_pos h0, if_pos h1, if_neg h]
theorem frN_ok (h0 : validS t.c1 t.c2 t.c3 = true ∧ validS t.s1 t.s2 t.s3 = true) (h1 : classS t.k = 2) (h2 : (u32R t.st ∧ u32R t.en ∧ t.st ≤ t.en) ∧ u32R t.ad) : frN t = (padS (frB t), 0) := by
  rw [frN, if_pos h0, if_pos h1, if_pos h2]
theorem frN_is {b : List UInt8} (h : frN t = (b, 0)) : (validS t.c1 t.c2 t.c3 = true ∧ validS t.s1 t.s2 t.s3 = true) ∧ (classS t.k = 2) ∧ ((u32R t.st ∧ u32R t.en ∧ t.st ≤ t.en) ∧ u32R t.ad) ∧ padS (frB t) = b := by
  by_cases h0 : validS t.c1 t.c2 t.c3 = true ∧ validS t.s1 t.s2 t.s3 = true
  case neg => rw [frN_103 h0] at h; cases h
  by_cases h1 : classS t.k = 2
  case neg => rw [frN_10 h0 h1] at h; cases h
  by_cases h2 : (u32R t.st ∧ u32R t.en ∧ t.st ≤ t.en) ∧ u32R t.ad
  case neg => rw [frN_104 h0 h1 h2] at h; cases h
  rw [frN_ok h0 h1 h2] at h
  cases h
  exact ⟨h0, h1, h2, rfl⟩
end
section
variable {t : FPart}
theorem fpN_10 (h : ¬ (keyOk t.k = true)) : fpN t = ([], 10) := by
  rw [fpN, if_neg h]
theorem fpN_103 (h0 : keyOk t.k = true) (h : ¬ (validS t.s1 t.s2 t.s3 = true)) : fpN t = ([], 103) := by
  rw [fpN, if_pos h0, if_neg h]
theorem fpN_104 (h0 : keyOk t.k = true) (h1 : validS t.s1 t.s2 t.s3 = true) (h : ¬ (u32R t.st ∧ u32R t.en ∧ t.st ≤ t.en)) : fpN t = ([], 104) := by
  rw [fpN, if_pos h0, if_pos h1, if_neg h]
theorem fpN_105 (h0 : keyOk t.k = true) (h1 : validS t.s1 t.s2 t.s3 = true) (h2 : u32R t.st ∧ u32R t.en ∧ t.st ≤ t.en) (h : ¬ (t.rc.length ≤ 300)) : fpN t = ([], 105) := by
  rw [fpN, if_pos h0, if_pos h1, if_pos h2, if_neg h]
theorem fpN_ok (h0 : keyOk t.k = true) (h1 : validS t.s1 t.s2 t.s3 = true) (h2 : u32R t.st ∧ u32R t.en ∧ t.st ≤ t.en) (h3 : t.rc.length ≤ 300) : fpN t = (padS (fpB t), 0) := by
  rw [fpN, if_pos h0, if_pos h1, if_pos h2, if_pos h3]
theorem fpN_is {b : List UInt8} (h : fpN t = (b, 0)) : (keyOk t.k = true) ∧ (validS t.s1 t.s2 t.s3 = true) ∧ (u32R t.st ∧ u32R t.en ∧ t.st ≤ t.en) ∧ (t.rc.length ≤ 300) ∧ padS (fpB t) = b := by
  by_cases h0 : keyOk t.k = true
  case neg => rw [fpN_10 h0] at h; cases h
  by_cases h1 : validS t.s1 t.s2 t.s3 = true
  case neg => rw [fpN_103 h0 h1] at h; cases h
  by_cases h2 : u32R t.st ∧ u32R t.en ∧ t.st ≤ t.en
  case neg => rw [fpN_104 h0 h1 h2] at h; cases h
  by_cases h3 : t.rc.length ≤ 300
  case neg => rw [fpN_105 h0 h1 h2 h3] at h; cases h
  rw [fpN_ok h0 h1 h2 h3] at h
  cases h
  exact ⟨h0, h1, h2, h3, rfl⟩
end
section
variable {t : FMsg}
theorem fmN_40 (h : ¬ (t.op = 1 ∨ t.op = 2 ∨ t.op = 3)) : fmN t = ([], 40) := by
  rw [fmN, if_neg h]
theorem fmN_103 (h0 : t.op = 1 ∨ t.op = 2 ∨ t.op = 3) (h : ¬ (validS t.n1 t.n2 t.n3 = true)) : fmN t = ([], 103) := by
  rw [fmN, if_pos h0, if_neg h]
theorem fmN_105 (h0 : t.op = 1 ∨ t.op = 2 ∨ t.op = 3) (h1 : validS t.n1 t.n2 t.n3 = true) (h : ¬ (t.bx.length ≤ 1012)) : fmN t = ([], 105) := by
  rw [fmN, if_pos h0, if_pos h1, if_neg h]
theorem fmN_ok (h0 : t.op = 1 ∨ t.op = 2 ∨ t.op = 3) (h1 : validS t.n1 t.n2 t.n3 = true) (h2 : t.bx.length ≤ 1012) : fmN t = (fmB t, 0) := by
  rw [fmN, if_pos h0, if_pos h1, if_pos h2]
theorem fmN_is {b : List UInt8} (h : fmN t = (b, 0)) : (t.op = 1 ∨ t.op = 2 ∨ t.op = 3) ∧ (validS t.n1 t.n2 t.n3 = true) ∧ (t.bx.length ≤ 1012) ∧ fmB t = b := by
  by_cases h0 : t.op = 1 ∨ t.op = 2 ∨ t.op = 3
  case neg => rw [fmN_40 h0] at h; cases h
  by_cases h1 : validS t.n1 t.n2 t.n3 = true
  case neg => rw [fmN_103 h0 h1] at h; cases h
  by_cases h2 : t.bx.length ≤ 1012
  case neg => rw [fmN_105 h0 h1 h2] at h; cases h
  rw [fmN_ok h0 h1 h2] at h
  cases h
  exact ⟨h0, h1, h2, rfl⟩
end
def fru0 (b : List UInt8) := prinS b 0
def frp1 (b : List UInt8) : Int × Bool := mvF ((0, false) : Int × Bool) (fru0 b).2
def fru1 (b : List UInt8) := prinS b (frp1 b).1
def frp2 (b : List UInt8) : Int × Bool := mvF (frp1 b) (fru1 b).2
def fru2 (b : List UInt8) := bytesS b (frp2 b).1 8
def frp2k (b : List UInt8) : Int × Bool := mvF (frp2 b) (fru2 b).2
def frp3 (b : List UInt8) : Int × Bool := kyF (frp2k b) (readK (fru2 b).1).2
def fru3 (b : List UInt8) := getS false 4 b (frp3 b).1
def frp4 (b : List UInt8) : Int × Bool := mvF (frp3 b) (fru3 b).2
def fru4 (b : List UInt8) := getS false 4 b (frp4 b).1
def frp5 (b : List UInt8) : Int × Bool := mvF (frp4 b) (fru4 b).2
def fru5 (b : List UInt8) := getS false 4 b (frp5 b).1
def frp6 (b : List UInt8) : Int × Bool := mvF (frp5 b) (fru5 b).2
def frw0_0 (b : List UInt8) := textS b 0
def frs0_1 (b : List UInt8) : Int × Bool := mvS ((0, false) : Int × Bool) (frw0_0 b).2
def frw0_1 (b : List UInt8) := textS b (frs0_1 b).1
def frs0_2 (b : List UInt8) : Int × Bool := mvS (frs0_1 b) (frw0_1 b).2
def frw0_2 (b : List UInt8) := textS b (frs0_2 b).1
def frw0 (b : List UInt8) : (List UInt8 × List UInt8 × List UInt8) × Int × Int := (((frw0_0 b).1, (frw0_1 b).1, (frw0_2 b).1), (frw0_2 b).2)
def frs1 (b : List UInt8) : Int × Bool := mvS (frs0_2 b) (frw0_2 b).2
def frw1_0 (b : List UInt8) := textS b (frs1 b).1
def frs1_1 (b : List UInt8) : Int × Bool := mvS (frs1 b) (frw1_0 b).2
def frw1_1 (b : List UInt8) := textS b (frs1_1 b).1
def frs1_2 (b : List UInt8) : Int × Bool := mvS (frs1_1 b) (frw1_1 b).2
def frw1_2 (b : List UInt8) := textS b (frs1_2 b).1
def frw1 (b : List UInt8) : (List UInt8 × List UInt8 × List UInt8) × Int × Int := (((frw1_0 b).1, (frw1_1 b).1, (frw1_2 b).1), (frw1_2 b).2)
def frs2 (b : List UInt8) : Int × Bool := mvS (frs1_2 b) (frw1_2 b).2
def frw2 (b : List UInt8) := bytesS b (frs2 b).1 8
def frs3 (b : List UInt8) : Int × Bool := mvS (frs2 b) (frw2 b).2
def frw3 (b : List UInt8) := getS false 4 b (frs3 b).1
def frs4 (b : List UInt8) : Int × Bool := mvS (frs3 b) (frw3 b).2
def frw4 (b : List UInt8) := getS false 4 b (frs4 b).1
def frs5 (b : List UInt8) : Int × Bool := mvS (frs4 b) (frw4 b).2
def frw5 (b : List UInt8) := getS false 4 b (frs5 b).1
def frs6 (b : List UInt8) : Int × Bool := mvS (frs5 b) (frw5 b).2
theorem frp_bounds (b : List UInt8) : (0 ≤ (frp1 b).1 ∧ (frp1 b).1 ≤ max (0 : Int) (b.length : Int)) ∧ (0 ≤ (frp2 b).1 ∧ (frp2 b).1 ≤ max (0 : Int) (b.length : Int)) ∧ (0 ≤ (frp3 b).1 ∧ (frp3 b).1 ≤ max (0 : Int) (b.length : Int)) ∧ (0 ≤ (frp4 b).1 ∧ (frp4 b).1 ≤ max (0 : Int) (b.length : Int)) ∧ (0 ≤ (frp5 b).1 ∧ (frp5 b).1 ≤ max (0 : Int) (b.length : Int)) ∧ (0 ≤ (frp6 b).1 ∧ (frp6 b).1 ≤ max (0 : Int) (b.length : Int)) := by
  have g0 : (0 ≤ ((0, false) : Int × Bool).1 ∧ ((0, false) : Int × Bool).1 ≤ max (0 : Int) (b.length : Int)) := by simp only; omega
  have g1 : (0 ≤ (frp1 b).1 ∧ (frp1 b).1 ≤ max (0 : Int) (b.length : Int)) := mvF_bounds g0 (prin_next _ _)
  have g2 : (0 ≤ (frp2 b).1 ∧ (frp2 b).1 ≤ max (0 : Int) (b.length : Int)) := mvF_bounds g1 (prin_next _ _)
  have g3 : (0 ≤ (frp3 b).1 ∧ (frp3 b).1 ≤ max (0 : Int) (b.length : Int)) := mvF_bounds g2 (bytes_next _ _ _)
  have g4 : (0 ≤ (frp4 b).1 ∧ (frp4 b).1 ≤ max (0 : Int) (b.length : Int)) := mvF_bounds g3 (get_next _ _ _ _)
  have g5 : (0 ≤ (frp5 b).1 ∧ (frp5 b).1 ≤ max (0 : Int) (b.length : Int)) := mvF_bounds g4 (get_next _ _ _ _)
  have g6 : (0 ≤ (frp6 b).1 ∧ (frp6 b).1 ≤ max (0 : Int) (b.length : Int)) := mvF_bounds g5 (get_next _ _ _ _)
  exact ⟨g1, g2, g3, g4, g5, g6⟩
theorem frs_bounds (b : List UInt8) : (0 ≤ (frs1 b).1 ∧ (frs1 b).1 ≤ max (0 : Int) (b.length : Int)) ∧ (0 ≤ (frs2 b).1 ∧ (frs2 b).1 ≤ max (0 : Int) (b.length : Int)) ∧ (0 ≤ (frs3 b).1 ∧ (frs3 b).1 ≤ max (0 : Int) (b.length : Int)) ∧ (0 ≤ (frs4 b).1 ∧ (frs4 b).1 ≤ max (0 : Int) (b.length : Int)) ∧ (0 ≤ (frs5 b).1 ∧ (frs5 b).1 ≤ max (0 : Int) (b.length : Int)) ∧ (0 ≤ (frs6 b).1 ∧ (frs6 b).1 ≤ max (0 : Int) (b.length : Int)) := by
  have g0 : (0 ≤ ((0, false) : Int × Bool).1 ∧ ((0, false) : Int × Bool).1 ≤ max (0 : Int) (b.length : Int)) := by simp only; omega
  have g0_1 : (0 ≤ (frs0_1 b).1 ∧ (frs0_1 b).1 ≤ max (0 : Int) (b.length : Int)) := mvS_bounds g0 (text_next _ _)
  have g0_2 : (0 ≤ (frs0_2 b).1 ∧ (frs0_2 b).1 ≤ max (0 : Int) (b.length : Int)) := mvS_bounds g0_1 (text_next _ _)
  have g1 : (0 ≤ (frs1 b).1 ∧ (frs1 b).1 ≤ max (0 : Int) (b.length : Int)) := mvS_bounds g0_2 (text_next _ _)
  have g1_1 : (0 ≤ (frs1_1 b).1 ∧ (frs1_1 b).1 ≤ max (0 : Int) (b.length : Int)) := mvS_bounds g1 (text_next _ _)
  have g1_2 : (0 ≤ (frs1_2 b).1 ∧ (frs1_2 b).1 ≤ max (0 : Int) (b.length : Int)) := mvS_bounds g1_1 (text_next _ _)
  have g2 : (0 ≤ (frs2 b).1 ∧ (frs2 b).1 ≤ max (0 : Int) (b.length : Int)) := mvS_bounds g1_2 (text_next _ _)
  have g3 : (0 ≤ (frs3 b).1 ∧ (frs3 b).1 ≤ max (0 : Int) (b.length : Int)) := mvS_bounds g2 (bytes_next _ _ _)
  have g4 : (0 ≤ (frs4 b).1 ∧ (frs4 b).1 ≤ max (0 : Int) (b.length : Int)) := mvS_bounds g3 (get_next _ _ _ _)
  have g5 : (0 ≤ (frs5 b).1 ∧ (frs5 b).1 ≤ max (0 : Int) (b.length : Int)) := mvS_bounds g4 (get_next _ _ _ _)
  have g6 : (0 ≤ (frs6 b).1 ∧ (frs6 b).1 ≤ max (0 : Int) (b.length : Int)) := mvS_bounds g5 (get_next _ _ _ _)
  exact ⟨g1, g2, g3, g4, g5, g6⟩
def frRu (b : List UInt8) : FRec := ⟨(fru0 b).1.1, (fru0 b).1.2.1, (fru0 b).1.2.2, (fru1 b).1.1, (fru1 b).1.2.1, (fru1 b).1.2.2, (readK (fru2 b).1).1, (fru3 b).1, (fru4 b).1, (fru5 b).1⟩
def frRw (b : List UInt8) : FRec := ⟨(frw0 b).1.1, (frw0 b).1.2.1, (frw0 b).1.2.2, (frw1 b).1.1, (frw1 b).1.2.1, (frw1 b).1.2.2, (readK (frw2 b).1).1, (frw3 b).1, (frw4 b).1, (frw5 b).1⟩
def fpu0 (b : List UInt8) := bytesS b 0 8
def fpp0k (b : List UInt8) : Int × Bool := mvF ((0, false) : Int × Bool) (fpu0 b).2
def fpp1 (b : List UInt8) : Int × Bool := kyF (fpp0k b) (readK (fpu0 b).1).2
def fpu1 (b : List UInt8) := prinS b (fpp1 b).1
def fpp2 (b : List UInt8) : Int × Bool := mvF (fpp1 b) (fpu1 b).2
def fpu2 (b : List UInt8) := getS false 4 b (fpp2 b).1
def fpp3 (b : List UInt8) : Int × Bool := mvF (fpp2 b) (fpu2 b).2
def fpu3 (b : List UInt8) := getS false 4 b (fpp3 b).1
def fpp4 (b : List UInt8) : Int × Bool := mvF (fpp3 b) (fpu3 b).2
def fpu4 (b : List UInt8) := getS false 2 b (fpp4 b).1
def fpp5 (b : List UInt8) : Int × Bool := mvF (fpp4 b) (fpu4 b).2
def fpu5 (b : List UInt8) := bytesS b (fpp5 b).1 (fpu4 b).1
def fpp6 (b : List UInt8) : Int × Bool := mvF (fpp5 b) (fpu5 b).2
def fpw0 (b : List UInt8) := bytesS b 0 8
def fps1 (b : List UInt8) : Int × Bool := mvS ((0, false) : Int × Bool) (fpw0 b).2
def fpw1_0 (b : List UInt8) := textS b (fps1 b).1
def fps1_1 (b : List UInt8) : Int × Bool := mvS (fps1 b) (fpw1_0 b).2
def fpw1_1 (b : List UInt8) := textS b (fps1_1 b).1
def fps1_2 (b : List UInt8) : Int × Bool := mvS (fps1_1 b) (fpw1_1 b).2
def fpw1_2 (b : List UInt8) := textS b (fps1_2 b).1
def fpw1 (b : List UInt8) : (List UInt8 × List UInt8 × List UInt8) × Int × Int := (((fpw1_0 b).1, (fpw1_1 b).1, (fpw1_2 b).1), (fpw1_2 b).2)
def fps2 (b : List UInt8) : Int × Bool := mvS (fps1_2 b) (fpw1_2 b).2
def fpw2 (b : List UInt8) := getS false 4 b (fps2 b).1
def fps3 (b : List UInt8) : Int × Bool := mvS (fps2 b) (fpw2 b).2
def fpw3 (b : List UInt8) := getS false 4 b (fps3 b).1
def fps4 (b : List UInt8) : Int × Bool := mvS (fps3 b) (fpw3 b).2
def fpw4 (b : List UInt8) := getS false 2 b (fps4 b).1
def fps5 (b : List UInt8) : Int × Bool := mvS (fps4 b) (fpw4 b).2
def fpw5 (b : List UInt8) := bytesS b (fps5 b).1 (fpw4 b).1
def fps6 (b : List UInt8) : Int × Bool := mvS (fps5 b) (fpw5 b).2
theorem fpp_bounds (b : List UInt8) : (0 ≤ (fpp1 b).1 ∧ (fpp1 b).1 ≤ max (0 : Int) (b.length : Int)) ∧ (0 ≤ (fpp2 b).1 ∧ (fpp2 b).1 ≤ max (0 : Int) (b.length : Int)) ∧ (0 ≤ (fpp3 b).1 ∧ (fpp3 b).1 ≤ max (0 : Int) (b.length : Int)) ∧ (0 ≤ (fpp4 b).1 ∧ (fpp4 b).1 ≤ max (0 : Int) (b.length : Int)) ∧ (0 ≤ (fpp5 b).1 ∧ (fpp5 b).1 ≤ max (0 : Int) (b.length : Int)) ∧ (0 ≤ (fpp6 b).1 ∧ (fpp6 b).1 ≤ max (0 : Int) (b.length : Int)) := by
  have g0 : (0 ≤ ((0, false) : Int × Bool).1 ∧ ((0, false) : Int × Bool).1 ≤ max (0 : Int) (b.length : Int)) := by simp only; omega
  have g1 : (0 ≤ (fpp1 b).1 ∧ (fpp1 b).1 ≤ max (0 : Int) (b.length : Int)) := mvF_bounds g0 (bytes_next _ _ _)
  have g2 : (0 ≤ (fpp2 b).1 ∧ (fpp2 b).1 ≤ max (0 : Int) (b.length : Int)) := mvF_bounds g1 (prin_next _ _)
  have g3 : (0 ≤ (fpp3 b).1 ∧ (fpp3 b).1 ≤ max (0 : Int) (b.length : Int)) := mvF_bounds g2 (get_next _ _ _ _)
  have g4 : (0 ≤ (fpp4 b).1 ∧ (fpp4 b).1 ≤ max (0 : Int) (b.length : Int)) := mvF_bounds g3 (get_next _ _ _ _)
  have g5 : (0 ≤ (fpp5 b).1 ∧ (fpp5 b).1 ≤ max (0 : Int) (b.length : Int)) := mvF_bounds g4 (get_next _ _ _ _)
  have g6 : (0 ≤ (fpp6 b).1 ∧ (fpp6 b).1 ≤ max (0 : Int) (b.length : Int)) := mvF_bounds g5 (bytes_next _ _ _)
  exact ⟨g1, g2, g3, g4, g5, g6⟩
theorem fps_bounds (b : List UInt8) : (0 ≤ (fps1 b).1 ∧ (fps1 b).1 ≤ max (0 : Int) (b.length : Int)) ∧ (0 ≤ (fps2 b).1 ∧ (fps2 b).1 ≤ max (0 : Int) (b.length : Int)) ∧ (0 ≤ (fps3 b).1 ∧ (fps3 b).1 ≤ max (0 : Int) (b.length : Int)) ∧ (0 ≤ (fps4 b).1 ∧ (fps4 b).1 ≤ max (0 : Int) (b.length : Int)) ∧ (0 ≤ (fps5 b).1 ∧ (fps5 b).1 ≤ max (0 : Int) (b.length : Int)) ∧ (0 ≤ (fps6 b).1 ∧ (fps6 b).1 ≤ max (0 : Int) (b.length : Int)) := by
  have g0 : (0 ≤ ((0, false) : Int × Bool).1 ∧ ((0, false) : Int × Bool).1 ≤ max (0 : Int) (b.length : Int)) := by simp only; omega
  have g1 : (0 ≤ (fps1 b).1 ∧ (fps1 b).1 ≤ max (0 : Int) (b.length : Int)) := mvS_bounds g0 (bytes_next _ _ _)
  have g1_1 : (0 ≤ (fps1_1 b).1 ∧ (fps1_1 b).1 ≤ max (0 : Int) (b.length : Int)) := mvS_bounds g1 (text_next _ _)
  have g1_2 : (0 ≤ (fps1_2 b).1 ∧ (fps1_2 b).1 ≤ max (0 : Int) (b.length : Int)) := mvS_bounds g1_1 (text_next _ _)
  have g2 : (0 ≤ (fps2 b).1 ∧ (fps2 b).1 ≤ max (0 : Int) (b.length : Int)) := mvS_bounds g1_2 (text_next _ _)
  have g3 : (0 ≤ (fps3 b).1 ∧ (fps3 b).1 ≤ max (0 : Int) (b.length : Int)) := mvS_bounds g2 (get_next _ _ _ _)
  have g4 : (0 ≤ (fps4 b).1 ∧ (fps4 b).1 ≤ max (0 : Int) (b.length : Int)) := mvS_bounds g3 (get_next _ _ _ _)
  have g5 : (0 ≤ (fps5 b).1 ∧ (fps5 b).1 ≤ max (0 : Int) (b.length : Int)) := mvS_bounds g4 (get_next _ _ _ _)
  have g6 : (0 ≤ (fps6 b).1 ∧ (fps6 b).1 ≤ max (0 : Int) (b.length : Int)) := mvS_bounds g5 (bytes_next _ _ _)
  exact ⟨g1, g2, g3, g4, g5, g6⟩
def fpRu (b : List UInt8) : FPart := ⟨(readK (fpu0 b).1).1, (fpu1 b).1.1, (fpu1 b).1.2.1, (fpu1 b).1.2.2, (fpu2 b).1, (fpu3 b).1, (fpu5 b).1⟩
def fpRw (b : List UInt8) : FPart := ⟨(readK (fpw0 b).1).1, (fpw1 b).1.1, (fpw1 b).1.2.1, (fpw1 b).1.2.2, (fpw2 b).1, (fpw3 b).1, (fpw5 b).1⟩
def fmu0 (b : List UInt8) := getS false 1 b 2
def fmp1 (b : List UInt8) : Int × Bool := mvF ((2, false) : Int × Bool) (fmu0 b).2
def fmu1 (b : List UInt8) := prinS b (fmp1 b).1
def fmp2 (b : List UInt8) : Int × Bool := mvF (fmp1 b) (fmu1 b).2
def fmu2 (b : List UInt8) := getS false 2 b (fmp2 b).1
def fmp3 (b : List UInt8) : Int × Bool := mvF (fmp2 b) (fmu2 b).2
def fmu3 (b : List UInt8) := bytesS b (fmp3 b).1 (fmu2 b).1
def fmp4 (b : List UInt8) : Int × Bool := mvF (fmp3 b) (fmu3 b).2
def fmw0 (b : List UInt8) := getS false 1 b 2
def fms1 (b : List UInt8) : Int × Bool := mvS ((2, false) : Int × Bool) (fmw0 b).2
def fmw1_0 (b : List UInt8) := textS b (fms1 b).1
def fms1_1 (b : List UInt8) : Int × Bool := mvS (fms1 b) (fmw1_0 b).2
def fmw1_1 (b : List UInt8) := textS b (fms1_1 b).1
def fms1_2 (b : List UInt8) : Int × Bool := mvS (fms1_1 b) (fmw1_1 b).2
def fmw1_2 (b : List UInt8) := textS b (fms1_2 b).1
def fmw1 (b : List UInt8) : (List UInt8 × List UInt8 × List UInt8) × Int × Int := (((fmw1_0 b).1, (fmw1_1 b).1, (fmw1_2 b).1), (fmw1_2 b).2)
def fms2 (b : List UInt8) : Int × Bool := mvS (fms1_2 b) (fmw1_2 b).2
def fmw2 (b : List UInt8) := getS false 2 b (fms2 b).1
def fms3 (b : List UInt8) : Int × Bool := mvS (fms2 b) (fmw2 b).2
def fmw3 (b : List UInt8) := bytesS b (fms3 b).1 (fmw2 b).1
def fms4 (b : List UInt8) : Int × Bool := mvS (fms3 b) (fmw3 b).2
theorem fmp_bounds (b : List UInt8) : (0 ≤ (fmp1 b).1 ∧ (fmp1 b).1 ≤ max (2 : Int) (b.length : Int)) ∧ (0 ≤ (fmp2 b).1 ∧ (fmp2 b).1 ≤ max (2 : Int) (b.length : Int)) ∧ (0 ≤ (fmp3 b).1 ∧ (fmp3 b).1 ≤ max (2 : Int) (b.length : Int)) ∧ (0 ≤ (fmp4 b).1 ∧ (fmp4 b).1 ≤ max (2 : Int) (b.length : Int)) := by
  have g0 : (0 ≤ ((2, false) : Int × Bool).1 ∧ ((2, false) : Int × Bool).1 ≤ max (2 : Int) (b.length : Int)) := by simp only; omega
  have g1 : (0 ≤ (fmp1 b).1 ∧ (fmp1 b).1 ≤ max (2 : Int) (b.length : Int)) := mvF_bounds g0 (get_next _ _ _ _)
  have g2 : (0 ≤ (fmp2 b).1 ∧ (fmp2 b).1 ≤ max (2 : Int) (b.length : Int)) := mvF_bounds g1 (prin_next _ _)
  have g3 : (0 ≤ (fmp3 b).1 ∧ (fmp3 b).1 ≤ max (2 : Int) (b.length : Int)) := mvF_bounds g2 (get_next _ _ _ _)
  have g4 : (0 ≤ (fmp4 b).1 ∧ (fmp4 b).1 ≤ max (2 : Int) (b.length : Int)) := mvF_bounds g3 (bytes_next _ _ _)
  exact ⟨g1, g2, g3, g4⟩
theorem fms_bounds (b : List UInt8) : (0 ≤ (fms1 b).1 ∧ (fms1 b).1 ≤ max (2 : Int) (b.length : Int)) ∧ (0 ≤ (fms2 b).1 ∧ (fms2 b).1 ≤ max (2 : Int) (b.length : Int)) ∧ (0 ≤ (fms3 b).1 ∧ (fms3 b).1 ≤ max (2 : Int) (b.length : Int)) ∧ (0 ≤ (fms4 b).1 ∧ (fms4 b).1 ≤ max (2 : Int) (b.length : Int)) := by
  have g0 : (0 ≤ ((2, false) : Int × Bool).1 ∧ ((2, false) : Int × Bool).1 ≤ max (2 : Int) (b.length : Int)) := by simp only; omega
  have g1 : (0 ≤ (fms1 b).1 ∧ (fms1 b).1 ≤ max (2 : Int) (b.length : Int)) := mvS_bounds g0 (get_next _ _ _ _)
  have g1_1 : (0 ≤ (fms1_1 b).1 ∧ (fms1_1 b).1 ≤ max (2 : Int) (b.length : Int)) := mvS_bounds g1 (text_next _ _)
  have g1_2 : (0 ≤ (fms1_2 b).1 ∧ (fms1_2 b).1 ≤ max (2 : Int) (b.length : Int)) := mvS_bounds g1_1 (text_next _ _)
  have g2 : (0 ≤ (fms2 b).1 ∧ (fms2 b).1 ≤ max (2 : Int) (b.length : Int)) := mvS_bounds g1_2 (text_next _ _)
  have g3 : (0 ≤ (fms3 b).1 ∧ (fms3 b).1 ≤ max (2 : Int) (b.length : Int)) := mvS_bounds g2 (get_next _ _ _ _)
  have g4 : (0 ≤ (fms4 b).1 ∧ (fms4 b).1 ≤ max (2 : Int) (b.length : Int)) := mvS_bounds g3 (bytes_next _ _ _)
  exact ⟨g1, g2, g3, g4⟩
def fmRu (b : List UInt8) : FMsg := ⟨(fmu0 b).1, (fmu1 b).1.1, (fmu1 b).1.2.1, (fmu1 b).1.2.2, (fmu3 b).1⟩
def fmRw (b : List UInt8) : FMsg := ⟨(fmw0 b).1, (fmw1 b).1.1, (fmw1 b).1.2.1, (fmw1 b).1.2.2, (fmw3 b).1⟩
theorem fr_read {c1 c2 c3 s1 s2 s3 : List UInt8} {k st en ad : Int} (hc : validS c1 c2 c3 = true) (hs1 : validS s1 s2 s3 = true) (hk : 0 ≤ k ∧ k ≤ 18446744073709551615) (hk2 : keyOk k = true) (h1 : 0 ≤ st ∧ st ≤ 4294967295) (h2 : 0 ≤ en ∧ en ≤ 4294967295) (h3 : 0 ≤ ad ∧ ad ≤ 4294967295) {b r : List UInt8} (hs : Sfx b 0 (c1 ++ ([0] ++ (c2 ++ ([0] ++ (c3 ++ ([0] ++ (s1 ++ ([0] ++ (s2 ++ ([0] ++ (s3 ++ ([0] ++ (keyB k ++ (numS false 4 st ++ (numS false 4 en ++ (numS false 4 ad ++ (r)))))))))))))))))) : frRu b = (⟨c1, c2, c3, s1, s2, s3, k, st, en, ad⟩ : FRec) ∧ frRw b = (⟨c1, c2, c3, s1, s2, s3, k, st, en, ad⟩ : FRec) ∧ (frp6 b).2 = false ∧ (frs6 b).2 = false := by
  obtain ⟨K0_1, K0_2, K0, e0_1, e0_2, e0_3, e0, q0⟩ := sfx_texts hs hc
  have x0 : (fru0 b) = ((c1, c2, c3), K0, 0) := by
    simp only [fru0]
    exact e0
  have p1 : (frp1 b) = (K0, false) := by simp only [frp1, x0, mvF_ok]
  have y0_0 : frw0_0 b = (c1, K0_1, 0) := by
    simp only [frw0_0]
    exact e0_1
  have z0_1 : frs0_1 b = (K0_1, false) := by simp only [frs0_1, y0_0, mvS_ok]
  have y0_1 : frw0_1 b = (c2, K0_2, 0) := by
    simp only [frw0_1, z0_1]
    exact e0_2
  have z0_2 : frs0_2 b = (K0_2, false) := by simp only [frs0_2, z0_1, y0_1, mvS_ok]
  have y0_2 : frw0_2 b = (c3, K0, 0) := by
    simp only [frw0_2, z0_2]
    exact e0_3
  have y0 : (frw0 b) = ((c1, c2, c3), K0, 0) := by simp only [frw0, y0_0, y0_1, y0_2]
  have z1 : (frs1 b) = (K0, false) := by simp only [frs1, z0_2, y0_2, mvS_ok]
  obtain ⟨K1_1, K1_2, K1, e1_1, e1_2, e1_3, e1, q1⟩ := sfx_texts q0 hs1
  have x1 : (fru1 b) = ((s1, s2, s3), K1, 0) := by
    simp only [fru1, p1]
    exact e1
  have p2 : (frp2 b) = (K1, false) := by simp only [frp2, p1, x1, mvF_ok]
  have y1_0 : frw1_0 b = (s1, K1_1, 0) := by
    simp only [frw1_0, z1]
    exact e1_1
  have z1_1 : frs1_1 b = (K1_1, false) := by simp only [frs1_1, z1, y1_0, mvS_ok]
  have y1_1 : frw1_1 b = (s2, K1_2, 0) := by
    simp only [frw1_1, z1_1]
    exact e1_2
  have z1_2 : frs1_2 b = (K1_2, false) := by simp only [frs1_2, z1_1, y1_1, mvS_ok]
  have y1_2 : frw1_2 b = (s3, K1, 0) := by
    simp only [frw1_2, z1_2]
    exact e1_3
  have y1 : (frw1 b) = ((s1, s2, s3), K1, 0) := by simp only [frw1, y1_0, y1_1, y1_2]
  have z2 : (frs2 b) = (K1, false) := by simp only [frs2, z1_2, y1_2, mvS_ok]
  obtain ⟨K2, e2, q2⟩ := sfx_bytes q1 rfl
  have x2 : (fru2 b) = (keyB k, K2, 0) := by
    simp only [fru2, p2]
    exact e2
  have p2k : frp2k b = (K2, false) := by simp only [frp2k, p2, x2, mvF_ok]
  have p3 : (frp3 b) = (K2, false) := by simp only [frp3, p2k, x2, readK_key hk hk2, kyF_ok]
  have y2 : (frw2 b) = (keyB k, K2, 0) := by
    simp only [frw2, z2]
    exact e2
  have z3 : (frs3 b) = (K2, false) := by simp only [frs3, z2, y2, mvS_ok]
  obtain ⟨K3, e3, q3⟩ := sfx_num4 q2 h1
  have x3 : (fru3 b) = (st, K3, 0) := by
    simp only [fru3, p3]
    exact e3
  have p4 : (frp4 b) = (K3, false) := by simp only [frp4, p3, x3, mvF_ok]
  have y3 : (frw3 b) = (st, K3, 0) := by
    simp only [frw3, z3]
    exact e3
  have z4 : (frs4 b) = (K3, false) := by simp only [frs4, z3, y3, mvS_ok]
  obtain ⟨K4, e4, q4⟩ := sfx_num4 q3 h2
  have x4 : (fru4 b) = (en, K4, 0) := by
    simp only [fru4, p4]
    exact e4
  have p5 : (frp5 b) = (K4, false) := by simp only [frp5, p4, x4, mvF_ok]
  have y4 : (frw4 b) = (en, K4, 0) := by
    simp only [frw4, z4]
    exact e4
  have z5 : (frs5 b) = (K4, false) := by simp only [frs5, z4, y4, mvS_ok]
  obtain ⟨K5, e5, q5⟩ := sfx_num4 q4 h3
  have x5 : (fru5 b) = (ad, K5, 0) := by
    simp only [fru5, p5]
    exact e5
  have p6 : (frp6 b) = (K5, false) := by simp only [frp6, p5, x5, mvF_ok]
  have y5 : (frw5 b) = (ad, K5, 0) := by
    simp only [frw5, z5]
    exact e5
  have z6 : (frs6 b) = (K5, false) := by simp only [frs6, z5, y5, mvS_ok]
  refine ⟨?_, ?_, by rw [p6], by rw [z6]⟩
  · simp only [frRu, x0, x1, x2, x3, x4, x5, readK_key hk hk2]
  · simp only [frRw, y0, y1, y2, y3, y4, y5, readK_key hk hk2]
theorem fp_read {s1 s2 s3 rc : List UInt8} {k st en : Int} (hs1 : validS s1 s2 s3 = true) (hk : 0 ≤ k ∧ k ≤ 18446744073709551615) (hk2 : keyOk k = true) (h1 : 0 ≤ st ∧ st ≤ 4294967295) (h2 : 0 ≤ en ∧ en ≤ 4294967295) (h3 : 0 ≤ (rc.length : Int) ∧ (rc.length : Int) ≤ 65535) {b r : List UInt8} (hs : Sfx b 0 (keyB k ++ (s1 ++ ([0] ++ (s2 ++ ([0] ++ (s3 ++ ([0] ++ (numS false 4 st ++ (numS false 4 en ++ (numS false 2 (rc.length : Int) ++ (rc ++ (r))))))))))))) : fpRu b = (⟨k, s1, s2, s3, st, en, rc⟩ : FPart) ∧ fpRw b = (⟨k, s1, s2, s3, st, en, rc⟩ : FPart) ∧ (fpp6 b).2 = false ∧ (fps6 b).2 = false := by
  obtain ⟨K0, e0, q0⟩ := sfx_bytes hs rfl
  have x0 : (fpu0 b) = (keyB k, K0, 0) := by
    simp only [fpu0]
    exact e0
  have p0k : fpp0k b = (K0, false) := by simp only [fpp0k, x0, mvF_ok]
  have p1 : (fpp1 b) = (K0, false) := by simp only [fpp1, p0k, x0, readK_key hk hk2, kyF_ok]
  have y0 : (fpw0 b) = (keyB k, K0, 0) := by
    simp only [fpw0]
    exact e0
  have z1 : (fps1 b) = (K0, false) := by simp only [fps1, y0, mvS_ok]
  obtain ⟨K1_1, K1_2, K1, e1_1, e1_2, e1_3, e1, q1⟩ := sfx_texts q0 hs1
  have x1 : (fpu1 b) = ((s1, s2, s3), K1, 0) := by
    simp only [fpu1, p1]
    exact e1
  have p2 : (fpp2 b) = (K1, false) := by simp only [fpp2, p1, x1, mvF_ok]
  have y1_0 : fpw1_0 b = (s1, K1_1, 0) := by
    simp only [fpw1_0, z1]
    exact e1_1
  have z1_1 : fps1_1 b = (K1_1, false) := by simp only [fps1_1, z1, y1_0, mvS_ok]
  have y1_1 : fpw1_1 b = (s2, K1_2, 0) := by
    simp only [fpw1_1, z1_1]
    exact e1_2
  have z1_2 : fps1_2 b = (K1_2, false) := by simp only [fps1_2, z1_1, y1_1, mvS_ok]
  have y1_2 : fpw1_2 b = (s3, K1, 0) := by
    simp only [fpw1_2, z1_2]
    exact e1_3
  have y1 : (fpw1 b) = ((s1, s2, s3), K1, 0) := by simp only [fpw1, y1_0, y1_1, y1_2]
  have z2 : (fps2 b) = (K1, false) := by simp only [fps2, z1_2, y1_2, mvS_ok]
  obtain ⟨K2, e2, q2⟩ := sfx_num4 q1 h1
  have x2 : (fpu2 b) = (st, K2, 0) := by
    simp only [fpu2, p2]
    exact e2
  have p3 : (fpp3 b) = (K2, false) := by simp only [fpp3, p2, x2, mvF_ok]
  have y2 : (fpw2 b) = (st, K2, 0) := by
    simp only [fpw2, z2]
    exact e2
  have z3 : (fps3 b) = (K2, false) := by simp only [fps3, z2, y2, mvS_ok]
  obtain ⟨K3, e3, q3⟩ := sfx_num4 q2 h2
  have x3 : (fpu3 b) = (en, K3, 0) := by
    simp only [fpu3, p3]
    exact e3
  have p4 : (fpp4 b) = (K3, false) := by simp only [fpp4, p3, x3, mvF_ok]
  have y3 : (fpw3 b) = (en, K3, 0) := by
    simp only [fpw3, z3]
    exact e3
  have z4 : (fps4 b) = (K3, false) := by simp only [fps4, z3, y3, mvS_ok]
  obtain ⟨K4, e4, q4⟩ := sfx_num2 q3 h3
  have x4 : (fpu4 b) = ((rc.length : Int), K4, 0) := by
    simp only [fpu4, p4]
    exact e4
  have p5 : (fpp5 b) = (K4, false) := by simp only [fpp5, p4, x4, mvF_ok]
  have y4 : (fpw4 b) = ((rc.length : Int), K4, 0) := by
    simp only [fpw4, z4]
    exact e4
  have z5 : (fps5 b) = (K4, false) := by simp only [fps5, z4, y4, mvS_ok]
  obtain ⟨K5, e5, q5⟩ := sfx_bytes q4 rfl
  have x5 : (fpu5 b) = (rc, K5, 0) := by
    simp only [fpu5, p5, x0, x1, x2, x3, x4]
    exact e5
  have p6 : (fpp6 b) = (K5, false) := by simp only [fpp6, p5, x5, mvF_ok]
  have y5 : (fpw5 b) = (rc, K5, 0) := by
    simp only [fpw5, z5, y0, y1, y2, y3, y4]
    exact e5
  have z6 : (fps6 b) = (K5, false) := by simp only [fps6, z5, y5, mvS_ok]
  refine ⟨?_, ?_, by rw [p6], by rw [z6]⟩
  · simp only [fpRu, x0, x1, x2, x3, x4, x5, readK_key hk hk2]
  · simp only [fpRw, y0, y1, y2, y3, y4, y5, readK_key hk hk2]
theorem fm_read {n1 n2 n3 bx : List UInt8} {op : Int} (hn : validS n1 n2 n3 = true) (h1 : 0 ≤ op ∧ op ≤ 255) (h3 : 0 ≤ (bx.length : Int) ∧ (bx.length : Int) ≤ 65535) {b r : List UInt8} (hs : Sfx b 2 (numS false 1 op ++ (n1 ++ ([0] ++ (n2 ++ ([0] ++ (n3 ++ ([0] ++ (numS false 2 (bx.length : Int) ++ (bx ++ (r))))))))))) : fmRu b = (⟨op, n1, n2, n3, bx⟩ : FMsg) ∧ fmRw b = (⟨op, n1, n2, n3, bx⟩ : FMsg) ∧ (fmp4 b).2 = false ∧ (fms4 b).2 = false := by
  obtain ⟨K0, e0, q0⟩ := sfx_num1 hs h1
  have x0 : (fmu0 b) = (op, K0, 0) := by
    simp only [fmu0]
    exact e0
  have p1 : (fmp1 b) = (K0, false) := by simp only [fmp1, x0, mvF_ok]
  have y0 : (fmw0 b) = (op, K0, 0) := by
    simp only [fmw0]
    exact e0
  have z1 : (fms1 b) = (K0, false) := by simp only [fms1, y0, mvS_ok]
  obtain ⟨K1_1, K1_2, K1, e1_1, e1_2, e1_3, e1, q1⟩ := sfx_texts q0 hn
  have x1 : (fmu1 b) = ((n1, n2, n3), K1, 0) := by
    simp only [fmu1, p1]
    exact e1
  have p2 : (fmp2 b) = (K1, false) := by simp only [fmp2, p1, x1, mvF_ok]
  have y1_0 : fmw1_0 b = (n1, K1_1, 0) := by
    simp only [fmw1_0, z1]
    exact e1_1
  have z1_1 : fms1_1 b = (K1_1, false) := by simp only [fms1_1, z1, y1_0, mvS_ok]
  have y1_1 : fmw1_1 b = (n2, K1_2, 0) := by
    simp only [fmw1_1, z1_1]
    exact e1_2
  have z1_2 : fms1_2 b = (K1_2, false) := by simp only [fms1_2, z1_1, y1_1, mvS_ok]
  have y1_2 : fmw1_2 b = (n3, K1, 0) := by
    simp only [fmw1_2, z1_2]
    exact e1_3
  have y1 : (fmw1 b) = ((n1, n2, n3), K1, 0) := by simp only [fmw1, y1_0, y1_1, y1_2]
  have z2 : (fms2 b) = (K1, false) := by simp only [fms2, z1_2, y1_2, mvS_ok]
  obtain ⟨K2, e2, q2⟩ := sfx_num2 q1 h3
  have x2 : (fmu2 b) = ((bx.length : Int), K2, 0) := by
    simp only [fmu2, p2]
    exact e2
  have p3 : (fmp3 b) = (K2, false) := by simp only [fmp3, p2, x2, mvF_ok]
  have y2 : (fmw2 b) = ((bx.length : Int), K2, 0) := by
    simp only [fmw2, z2]
    exact e2
  have z3 : (fms3 b) = (K2, false) := by simp only [fms3, z2, y2, mvS_ok]
  obtain ⟨K3, e3, q3⟩ := sfx_bytes q2 rfl
  have x3 : (fmu3 b) = (bx, K3, 0) := by
    simp only [fmu3, p3, x0, x1, x2]
    exact e3
  have p4 : (fmp4 b) = (K3, false) := by simp only [fmp4, p3, x3, mvF_ok]
  have y3 : (fmw3 b) = (bx, K3, 0) := by
    simp only [fmw3, z3, y0, y1, y2]
    exact e3
  have z4 : (fms4 b) = (K3, false) := by simp only [fms4, z3, y3, mvS_ok]
  refine ⟨?_, ?_, by rw [p4], by rw [z4]⟩
  · simp only [fmRu, x0, x1, x2, x3]
  · simp only [fmRw, y0, y1, y2, y3]
theorem class2_ok {k : Int} (h : classS k = 2) : keyOk k = true := by
  unfold classS at h
  split at h
  · assumption
  · cases h
theorem keyOk_range {k : Int} (h : keyOk k = true) : 0 ≤ k ∧ k ≤ 18446744073709551615 := by
  have := of_decide_eq_true h
  unfold keyTop keyLow at this
  omega
theorem fr_rd {t : FRec} {b : List UInt8} (h : frN t = (b, 0)) : frRu b = t ∧ frRw b = t ∧ (frp6 b).2 = false ∧ (frs6 b).2 = false := by
  obtain ⟨⟨hc, hs⟩, hk, ⟨⟨h1, h2, _⟩, h3⟩, hb⟩ := frN_is h
  have hk2 := class2_ok hk
  exact fr_read (r := List.replicate (padN (frB t).length) 0) hc hs (keyOk_range hk2) hk2 h1 h2 h3 (by
    have e : b = t.c1 ++ ([0] ++ (t.c2 ++ ([0] ++ (t.c3 ++ ([0] ++ (t.s1 ++ ([0] ++ (t.s2 ++ ([0] ++ (t.s3 ++ ([0] ++ (keyB t.k ++ (numS false 4 t.st ++ (numS false 4 t.en ++ (numS false 4 t.ad ++ List.replicate (padN (frB t).length) 0))))))))))))))) := by
      rw [← hb, padS]
      generalize List.replicate (padN (frB t).length) (0 : UInt8) = Z
      rw [frB]
      simp only [List.append_assoc, List.nil_append]
    exact e ▸ sfx_0 _)
theorem fp_rd {t : FPart} {b : List UInt8} (h : fpN t = (b, 0)) : fpRu b = t ∧ fpRw b = t ∧ (fpp6 b).2 = false ∧ (fps6 b).2 = false := by
  obtain ⟨hk2, hs, ⟨h1, h2, _⟩, h3, hb⟩ := fpN_is h
  exact fp_read (r := List.replicate (padN (fpB t).length) 0) hs (keyOk_range hk2) hk2 h1 h2 (by omega) (by
    have e : b = keyB t.k ++ (t.s1 ++ ([0] ++ (t.s2 ++ ([0] ++ (t.s3 ++ ([0] ++ (numS false 4 t.st ++ (numS false 4 t.en ++ (numS false 2 (t.rc.length : Int) ++ (t.rc ++ List.replicate (padN (fpB t).length) 0)))))))))) := by
      rw [← hb, padS]
      generalize List.replicate (padN (fpB t).length) (0 : UInt8) = Z
      rw [fpB]
      simp only [List.append_assoc, List.nil_append]
    exact e ▸ sfx_0 _)
theorem fm_rd {t : FMsg} {b : List UInt8} (h : fmN t = (b, 0)) : fmRu b = t ∧ fmRw b = t ∧ (fmp4 b).2 = false ∧ (fms4 b).2 = false := by
  obtain ⟨h1, hn, h3, hb⟩ := fmN_is h
  exact fm_read (r := []) hn (by omega) (by omega) (by
    have e : b = [4, 20] ++ (numS false 1 t.op ++ (t.n1 ++ ([0] ++ (t.n2 ++ ([0] ++ (t.n3 ++ ([0] ++ (numS false 2 (t.bx.length : Int) ++ (t.bx ++ []))))))))) := by
      rw [← hb, fmB]
      simp only [List.append_assoc, List.append_nil]
    exact sfx_of e rfl)
def frD (b : List UInt8) : FRec × Int := decG frN frRu fr0 b
section
variable {b : List UInt8}
theorem frD_u1 (h1 : (frN (frRu b)).2 = 0) (h2 : (frN (frRu b)).1 = b) : frD b = (frRu b, 0) := decG_yes h1 h2
theorem frD_u0 (h : (frp6 b).2 = true ∨ ¬ (frN (frRu b)).2 = 0 ∨ ¬ (frN (frRu b)).1 = b) : frD b = (fr0, 100) := decG_bad (rd' := frRu) (bad := fun b => (frp6 b).2) (fun e => ⟨rfl, (fr_rd e).2.2.1⟩) h
theorem frD_w1 (h1 : (frN (frRw b)).2 = 0) (h2 : (frN (frRw b)).1 = b) : frD b = (frRw b, 0) := decG_ref (rd' := frRw) (fun e => (fr_rd e).1) h1 h2
theorem frD_w0 (h : (frs6 b).2 = true ∨ ¬ (frN (frRw b)).2 = 0 ∨ ¬ (frN (frRw b)).1 = b) : frD b = (fr0, 100) := decG_bad (rd' := frRw) (bad := fun b => (frs6 b).2) (fun e => ⟨(fr_rd e).2.1, (fr_rd e).2.2.2⟩) h
theorem frD_trip {t : FRec} (h : frN t = (b, 0)) : frD b = (t, 0) := decG_trip (fun e => (fr_rd e).1) h
end
def fpD (b : List UInt8) : FPart × Int := decG fpN fpRu fp0 b
section
variable {b : List UInt8}
theorem fpD_u1 (h1 : (fpN (fpRu b)).2 = 0) (h2 : (fpN (fpRu b)).1 = b) : fpD b = (fpRu b, 0) := decG_yes h1 h2
theorem fpD_u0 (h : (fpp6 b).2 = true ∨ ¬ (fpN (fpRu b)).2 = 0 ∨ ¬ (fpN (fpRu b)).1 = b) : fpD b = (fp0, 100) := decG_bad (rd' := fpRu) (bad := fun b => (fpp6 b).2) (fun e => ⟨rfl, (fp_rd e).2.2.1⟩) h
theorem fpD_w1 (h1 : (fpN (fpRw b)).2 = 0) (h2 : (fpN (fpRw b)).1 = b) : fpD b = (fpRw b, 0) := decG_ref (rd' := fpRw) (fun e => (fp_rd e).1) h1 h2
theorem fpD_w0 (h : (fps6 b).2 = true ∨ ¬ (fpN (fpRw b)).2 = 0 ∨ ¬ (fpN (fpRw b)).1 = b) : fpD b = (fp0, 100) := decG_bad (rd' := fpRw) (bad := fun b => (fps6 b).2) (fun e => ⟨(fp_rd e).2.1, (fp_rd e).2.2.2⟩) h
theorem fpD_trip {t : FPart} (h : fpN t = (b, 0)) : fpD b = (t, 0) := decG_trip (fun e => (fp_rd e).1) h
end
def fmD (b : List UInt8) : FMsg × Int := if (isS b [10]).2 = 0 then decG fmN fmRu fm0 b else (fm0, (isS b [10]).2)
theorem fmD_head {b : List UInt8} (h : ¬ (isS b [10]).2 = 0) : fmD b = (fm0, (isS b [10]).2) := by rw [fmD, if_neg h]
section
variable {b : List UInt8}
theorem fmD_u1 (h0 : (isS b [10]).2 = 0) (h1 : (fmN (fmRu b)).2 = 0) (h2 : (fmN (fmRu b)).1 = b) : fmD b = (fmRu b, 0) := by rw [fmD, if_pos h0]; exact decG_yes h1 h2
theorem fmD_u0 (h0 : (isS b [10]).2 = 0) (h : (fmp4 b).2 = true ∨ ¬ (fmN (fmRu b)).2 = 0 ∨ ¬ (fmN (fmRu b)).1 = b) : fmD b = (fm0, 100) := by rw [fmD, if_pos h0]; exact decG_bad (rd' := fmRu) (bad := fun b => (fmp4 b).2) (fun e => ⟨rfl, (fm_rd e).2.2.1⟩) h
theorem fmD_w1 (h0 : (isS b [10]).2 = 0) (h1 : (fmN (fmRw b)).2 = 0) (h2 : (fmN (fmRw b)).1 = b) : fmD b = (fmRw b, 0) := by rw [fmD, if_pos h0]; exact decG_ref (rd' := fmRw) (fun e => (fm_rd e).1) h1 h2
theorem fmD_w0 (h0 : (isS b [10]).2 = 0) (h : (fms4 b).2 = true ∨ ¬ (fmN (fmRw b)).2 = 0 ∨ ¬ (fmN (fmRw b)).1 = b) : fmD b = (fm0, 100) := by rw [fmD, if_pos h0]; exact decG_bad (rd' := fmRw) (bad := fun b => (fms4 b).2) (fun e => ⟨(fm_rd e).2.1, (fm_rd e).2.2.2⟩) h
end
theorem fm_head {t : FMsg} {b : List UInt8} (h : fmN t = (b, 0)) : isS b [10] = (false, 0) := by
  obtain ⟨_, _, _, hb⟩ := fmN_is h
  have e : b = 4 :: 20 :: (numS false 1 t.op ++ t.n1 ++ [0] ++ t.n2 ++ [0] ++ t.n3 ++ [0] ++ numS false 2 (t.bx.length : Int) ++ t.bx) := by
    rw [← hb, fmB]; simp only [List.append_assoc]; rfl
  generalize numS false 1 t.op ++ t.n1 ++ [0] ++ t.n2 ++ [0] ++ t.n3 ++ [0] ++ numS false 2 (t.bx.length : Int) ++ t.bx = r at e
  subst e
  have hr : readS (4 :: 20 :: r) = (10, false, 0) := by
    unfold readS
    have g0 : ((4 :: 20 :: r : List UInt8).getD 0 0).toNat = 4 := rfl
    have g1 : ((4 :: 20 :: r : List UInt8).getD 1 0).toNat = 20 := rfl
    rw [if_neg (by simp), g0, g1, if_neg (by decide), if_pos (by decide)]
    rfl
  rw [isS, hr]
  rfl
theorem fmD_trip {t : FMsg} {b : List UInt8} (h : fmN t = (b, 0)) : fmD b = (t, 0) := by
  have e := fm_head h
  rw [fmD, if_pos (by rw [e]), decG_trip (fun e => (fm_rd e).1) h]
end Go.Sx

/-
  Plain functions and laws of them: for every input.
-/
import Derived.Test.YtmacgikbcednmaaGreatPX1
set_option linter.all false
/-
  Issues of version 5, and what a client accepts, as plain functions: for every input.
-/
set_option linter.all false
namespace Go.Sx
theorem dbK_at {x y : List UInt8} {l : List DE} : ∀ {n : Nat}, (dbK x y l n).2 ≠ 0 → ∃ i : Nat, i < n ∧ (dbK x y l n).1 = (i : Int) ∧ deIs x y (l.getD i de0) = true
  | 0, h => absurd rfl h
  | n + 1, h => by
    cases e : deIs x y (l.getD n de0) with
    | true => exact ⟨n, by omega, by rw [dbK_yes e], e⟩
    | false =>
      rw [dbK_no e] at h ⊢
      obtain ⟨i, h1, h2, h3⟩ := dbK_at h
      exact ⟨i, by omega, h2, h3⟩
theorem dbF_at {x y : List UInt8} {l : List DE} (h : (dbF x y l).2 = 0) : ∃ i : Nat, i < l.length ∧ (dbF x y l).1 = (i : Int) ∧ (l.getD i de0).x = x ∧ (l.getD i de0).y = y := by
  unfold dbF at h ⊢
  split at h
  · cases h
  · rename_i h1
    rw [if_neg h1]
    split at h
    · cases h
    · rename_i h2
      rw [if_neg h2]
      obtain ⟨i, h3, h4, h5⟩ := dbK_at (x := x) (y := y) (l := l) (n := l.length) h1
      simp only [deIs, Bool.and_eq_true, beq_iff_eq] at h5
      exact ⟨i, h3, h4, h5.1, h5.2⟩
theorem dbU_at {x y : List UInt8} {l : List DE} {now : Int} {f : Int → Bool} {e1 e2 : Int} (n1 : e1 ≠ 0) (n2 : e2 ≠ 0) (h : (dbU x y l now f e1 e2).2 = 0) : ∃ i : Nat, i < l.length ∧ (dbU x y l now f e1 e2).1 = (i : Int) ∧ (l.getD i de0).x = x ∧ (l.getD i de0).y = y ∧ keyOk (l.getD i de0).k = true := by
  unfold dbU at h ⊢
  split at h
  · rename_i h1; exact absurd h h1
  · rename_i h1
    rw [if_neg h1]
    obtain ⟨i, q1, q2, q3, q4⟩ := dbF_at (Decidable.not_not.mp h1)
    rw [q2, Int.toNat_natCast] at h ⊢
    split at h
    · cases h
    · rename_i h2
      rw [if_neg h2]
      split at h
      · exact absurd h n1
      · rename_i h3
        rw [if_neg h3]
        split at h
        · exact absurd h n2
        · rename_i h4
          rw [if_neg h4]
          refine ⟨i, q1, rfl, q3, q4, ?_⟩
          cases hk : keyOk (l.getD i de0).k with
          | true => rfl
          | false => exact absurd hk h2
structure FArg where
  (r : List UInt8)
  (l : List DE)
  (c1 c2 c3 s1 s2 s3 : List UInt8)
  (now sec ad k : Int)
structure FIss where
  (kd : Int)
  (v1 v2 v3 c1 c2 c3 s1 s2 s3 : List UInt8)
  (k se : Int)
  (bx : List UInt8)
  (is en : Int)
section
variable {a : FArg}
theorem frB_len (t : FRec) : (frB t).length = t.c1.length + t.c2.length + t.c3.length + t.s1.length + t.s2.length + t.s3.length + 26 := by
  simp only [frB, List.length_append, List.length_singleton, List.length_nil, List.length_cons, numS_len, keyB_len]
  omega
theorem fmB_len (t : FMsg) : (fmB t).length = t.n1.length + t.n2.length + t.n3.length + t.bx.length + 8 := by
  simp only [fmB, List.length_append, List.length_singleton, List.length_nil, List.length_cons, numS_len, keyB_len]
  omega
end
section
variable {m1 m2 m3 : List UInt8} {k : Int} {b : List UInt8}
end
theorem fmD_len (b : List UInt8) : (fmD b).1.bx.length ≤ b.length := by
  unfold fmD
  split
  · unfold decG
    split
    · show (fmRu b).bx.length ≤ _
      exact bytesS_le b _ _
    · exact Nat.zero_le _
  · exact Nat.zero_le _
end Go.Sx

/-
  What is issued is accepted with the client's key, and with no other one.
-/
set_option linter.all false
namespace Go.Sx
section
variable {a : FArg}
end
end Go.Sx

/-
  The secret part of a reply of a key distribution center, as plain functions: for every input.
-/
set_option linter.all false
namespace Go.Sx
structure KPart where
  (k : Int)
  (s1 s2 s3 : List UInt8)
  (lf kv : Int)
  (tk : List UInt8)
  (tm : Int)
def kp0 : KPart := ⟨0, [], [], [], 0, 0, [], 0⟩
def kpB (l : Bool) (t : KPart) : List UInt8 := [] ++ numS false 1 (ordN l) ++ keyB t.k ++ t.s1 ++ [0] ++ t.s2 ++ [0] ++ t.s3 ++ [0] ++ numS false 1 t.lf ++ numS false 1 t.kv ++ numS false 1 (t.tk.length : Int) ++ t.tk ++ numS l 4 t.tm
def kpR (t : KPart) : Prop := (0 ≤ t.lf ∧ t.lf ≤ 255) ∧ (0 ≤ t.kv ∧ t.kv ≤ 255) ∧ (0 ≤ t.tm ∧ t.tm ≤ 4294967295)
instance (t : KPart) : Decidable (kpR t) := by unfold kpR; infer_instance
def kpN (l : Bool) (t : KPart) : List UInt8 × Int := if keyOk t.k = true then (if validS t.s1 t.s2 t.s3 = true then (if kpR t then (if t.tk.length ≤ 255 then (padS (kpB l t), 0) else ([], 105)) else ([], 104)) else ([], 103)) else ([], 10)
theorem kpB_len (l : Bool) (t : KPart) : (kpB l t).length = t.s1.length + t.s2.length + t.s3.length + t.tk.length + 19 := by
  simp only [kpB, List.length_append, List.length_singleton, List.length_nil, List.length_cons, numS_len, keyB_len]
  omega
section
variable {l : Bool} {t : KPart}
theorem kpN_10 (h : ¬ (keyOk t.k = true)) : kpN l t = ([], 10) := by
  rw [kpN, if_neg h]
theorem kpN_103 (h0 : keyOk t.k = true) (h : ¬ (validS t.s1 t.s2 t.s3 = true)) : kpN l t = ([], 103) := by
  rw [kpN, if_pos h0, if_neg h]
theorem kpN_104 (h0 : keyOk t.k = true) (h1 : validS t.s1 t.s2 t.s3 = true) (h : ¬ (kpR t)) : kpN l t = ([], 104) := by
  rw [kpN, if_pos h0, if_pos h1, if_neg h]
theorem kpN_105 (h0 : keyOk t.k = true) (h1 : validS t.s1 t.s2 t.s3 = true) (h2 : kpR t) (h : ¬ (t.tk.length ≤ 255)) : kpN l t = ([], 105) := by
  rw [kpN, if_pos h0, if_pos h1, if_pos h2, if_neg h]
theorem kpN_ok (h0 : keyOk t.k = true) (h1 : validS t.s1 t.s2 t.s3 = true) (h2 : kpR t) (h3 : t.tk.length ≤ 255) : kpN l t = (padS (kpB l t), 0) := by
  rw [kpN, if_pos h0, if_pos h1, if_pos h2, if_pos h3]
theorem kpN_is {b : List UInt8} (h : kpN l t = (b, 0)) : (keyOk t.k = true) ∧ (validS t.s1 t.s2 t.s3 = true) ∧ (kpR t) ∧ (t.tk.length ≤ 255) ∧ padS (kpB l t) = b := by
  by_cases h0 : keyOk t.k = true
  case neg => rw [kpN_10 h0] at h; cases h
  by_cases h1 : validS t.s1 t.s2 t.s3 = true
  case neg => rw [kpN_103 h0 h1] at h; cases h
  by_cases h2 : kpR t
  case neg => rw [kpN_104 h0 h1 h2] at h; cases h
  by_cases h3 : t.tk.length ≤ 255
  case neg => rw [kpN_105 h0 h1 h2 h3] at h; cases h
  rw [kpN_ok h0 h1 h2 h3] at h
  cases h
  exact ⟨h0, h1, h2, h3, rfl⟩
end
theorem kpN_len (l : Bool) (t : KPart) : (kpN l t).1.length ≤ 440 := by
  by_cases h0 : keyOk t.k = true
  case neg => rw [kpN_10 h0]; exact Nat.zero_le _
  by_cases h1 : validS t.s1 t.s2 t.s3 = true
  case neg => rw [kpN_103 h0 h1]; exact Nat.zero_le _
  by_cases h2 : kpR t
  case neg => rw [kpN_104 h0 h1 h2]; exact Nat.zero_le _
  by_cases h3 : t.tk.length ≤ 255
  case neg => rw [kpN_105 h0 h1 h2 h3]; exact Nat.zero_le _
  rw [kpN_ok h0 h1 h2 h3, padS_len]
  obtain ⟨a1, a2, a3⟩ := valid_len h1
  have := padN_lt (kpB l t).length
  have := kpB_len l t
  omega
def kpu0 (l : Bool) (b : List UInt8) := bytesS b 1 8
def kpu1 (l : Bool) (b : List UInt8) := prinS b (kpu0 l b).2.1
def kpu2 (l : Bool) (b : List UInt8) := getS false 1 b (kpu1 l b).2.1
def kpu3 (l : Bool) (b : List UInt8) := getS false 1 b (kpu2 l b).2.1
def kpu4 (l : Bool) (b : List UInt8) := getS false 1 b (kpu3 l b).2.1
def kpu5 (l : Bool) (b : List UInt8) := bytesS b (kpu4 l b).2.1 (kpu4 l b).1
def kpu6 (l : Bool) (b : List UInt8) := getS l 4 b (kpu5 l b).2.1
def kpw0 (l : Bool) (b : List UInt8) := bytesS b (oct0S b).1 8
def kps1 (l : Bool) (b : List UInt8) : Int × Bool := mvS (oct0S b) (kpw0 l b).2
def kpw1_0 (l : Bool) (b : List UInt8) := textS b (kps1 l b).1
def kps1_1 (l : Bool) (b : List UInt8) : Int × Bool := mvS (kps1 l b) (kpw1_0 l b).2
def kpw1_1 (l : Bool) (b : List UInt8) := textS b (kps1_1 l b).1
def kps1_2 (l : Bool) (b : List UInt8) : Int × Bool := mvS (kps1_1 l b) (kpw1_1 l b).2
def kpw1_2 (l : Bool) (b : List UInt8) := textS b (kps1_2 l b).1
def kpw1 (l : Bool) (b : List UInt8) : (List UInt8 × List UInt8 × List UInt8) × Int × Int := (((kpw1_0 l b).1, (kpw1_1 l b).1, (kpw1_2 l b).1), (kpw1_2 l b).2)
def kps2 (l : Bool) (b : List UInt8) : Int × Bool := mvS (kps1_2 l b) (kpw1_2 l b).2
def kpw2 (l : Bool) (b : List UInt8) := getS false 1 b (kps2 l b).1
def kps3 (l : Bool) (b : List UInt8) : Int × Bool := mvS (kps2 l b) (kpw2 l b).2
def kpw3 (l : Bool) (b : List UInt8) := getS false 1 b (kps3 l b).1
def kps4 (l : Bool) (b : List UInt8) : Int × Bool := mvS (kps3 l b) (kpw3 l b).2
def kpw4 (l : Bool) (b : List UInt8) := getS false 1 b (kps4 l b).1
def kps5 (l : Bool) (b : List UInt8) : Int × Bool := mvS (kps4 l b) (kpw4 l b).2
def kpw5 (l : Bool) (b : List UInt8) := bytesS b (kps5 l b).1 (kpw4 l b).1
def kps6 (l : Bool) (b : List UInt8) : Int × Bool := mvS (kps5 l b) (kpw5 l b).2
def kpw6 (l : Bool) (b : List UInt8) := getS l 4 b (kps6 l b).1
def kps7 (l : Bool) (b : List UInt8) : Int × Bool := mvS (kps6 l b) (kpw6 l b).2
theorem kps_bounds (l : Bool) (b : List UInt8) (g0 : 0 ≤ (oct0S b).1 ∧ (oct0S b).1 ≤ max (0 : Int) (b.length : Int)) : (0 ≤ (kps1 l b).1 ∧ (kps1 l b).1 ≤ max (0 : Int) (b.length : Int)) ∧ (0 ≤ (kps2 l b).1 ∧ (kps2 l b).1 ≤ max (0 : Int) (b.length : Int)) ∧ (0 ≤ (kps3 l b).1 ∧ (kps3 l b).1 ≤ max (0 : Int) (b.length : Int)) ∧ (0 ≤ (kps4 l b).1 ∧ (kps4 l b).1 ≤ max (0 : Int) (b.length : Int)) ∧ (0 ≤ (kps5 l b).1 ∧ (kps5 l b).1 ≤ max (0 : Int) (b.length : Int)) ∧ (0 ≤ (kps6 l b).1 ∧ (kps6 l b).1 ≤ max (0 : Int) (b.length : Int)) ∧ (0 ≤ (kps7 l b).1 ∧ (kps7 l b).1 ≤ max (0 : Int) (b.length : Int)) := by
  have g1 : 0 ≤ (kps1 l b).1 ∧ (kps1 l b).1 ≤ max (0 : Int) (b.length : Int) := mvS_bounds g0 (bytes_next _ _ _)
  have g1_1 : 0 ≤ (kps1_1 l b).1 ∧ (kps1_1 l b).1 ≤ max (0 : Int) (b.length : Int) := mvS_bounds g1 (text_next _ _)
  have g1_2 : 0 ≤ (kps1_2 l b).1 ∧ (kps1_2 l b).1 ≤ max (0 : Int) (b.length : Int) := mvS_bounds g1_1 (text_next _ _)
  have g2 : 0 ≤ (kps2 l b).1 ∧ (kps2 l b).1 ≤ max (0 : Int) (b.length : Int) := mvS_bounds g1_2 (text_next _ _)
  have g3 : 0 ≤ (kps3 l b).1 ∧ (kps3 l b).1 ≤ max (0 : Int) (b.length : Int) := mvS_bounds g2 (get_next _ _ _ _)
  have g4 : 0 ≤ (kps4 l b).1 ∧ (kps4 l b).1 ≤ max (0 : Int) (b.length : Int) := mvS_bounds g3 (get_next _ _ _ _)
  have g5 : 0 ≤ (kps5 l b).1 ∧ (kps5 l b).1 ≤ max (0 : Int) (b.length : Int) := mvS_bounds g4 (get_next _ _ _ _)
  have g6 : 0 ≤ (kps6 l b).1 ∧ (kps6 l b).1 ≤ max (0 : Int) (b.length : Int) := mvS_bounds g5 (bytes_next _ _ _)
  have g7 : 0 ≤ (kps7 l b).1 ∧ (kps7 l b).1 ≤ max (0 : Int) (b.length : Int) := mvS_bounds g6 (get_next _ _ _ _)
  exact ⟨g1, g2, g3, g4, g5, g6, g7⟩
theorem kp_read {l : Bool} {k : Int} {s1 s2 s3 tk : List UInt8} {lf kv tm : Int} (hs1 : validS s1 s2 s3 = true) (h1 : 0 ≤ lf ∧ lf ≤ 255) (h2 : 0 ≤ kv ∧ kv ≤ 255) (h3 : 0 ≤ (tk.length : Int) ∧ (tk.length : Int) ≤ 255) (h4 : 0 ≤ tm ∧ tm ≤ 4294967295) {b r : List UInt8} (hs : Sfx b 1 (keyB k ++ (s1 ++ ([0] ++ (s2 ++ ([0] ++ (s3 ++ ([0] ++ (numS false 1 lf ++ (numS false 1 kv ++ (numS false 1 (tk.length : Int) ++ (tk ++ (numS l 4 tm ++ (r)))))))))))))) (z0 : (oct0S b) = (1, false)) : (∃ K, (kpu0 l b) = (keyB k, K, 0)) ∧ ((kpw0 l b) = (keyB k, (kpu0 l b).2.1, 0)) ∧ (∃ K, (kpu1 l b) = ((s1, s2, s3), K, 0)) ∧ ((kpw1 l b) = ((s1, s2, s3), (kpu1 l b).2.1, 0)) ∧ (∃ K, (kpu2 l b) = (lf, K, 0)) ∧ ((kpw2 l b) = (lf, (kpu2 l b).2.1, 0)) ∧ (∃ K, (kpu3 l b) = (kv, K, 0)) ∧ ((kpw3 l b) = (kv, (kpu3 l b).2.1, 0)) ∧ (∃ K, (kpu4 l b) = ((tk.length : Int), K, 0)) ∧ ((kpw4 l b) = ((tk.length : Int), (kpu4 l b).2.1, 0)) ∧ (∃ K, (kpu5 l b) = (tk, K, 0)) ∧ ((kpw5 l b) = (tk, (kpu5 l b).2.1, 0)) ∧ (∃ K, (kpu6 l b) = (tm, K, 0)) ∧ ((kpw6 l b) = (tm, (kpu6 l b).2.1, 0)) ∧ (kps7 l b) = ((kpu6 l b).2.1, false) ∧ Sfx b (kpu6 l b).2.1 r := by
  obtain ⟨K0, e0, q0⟩ := sfx_bytes hs rfl
  have x0 : (kpu0 l b) = (keyB k, K0, 0) := by
    simp only [kpu0]
    exact e0
  have y0 : (kpw0 l b) = (keyB k, K0, 0) := by
    simp only [kpw0, z0]
    exact e0
  have z1 : (kps1 l b) = (K0, false) := by simp only [kps1, z0, y0, mvS_ok]
  obtain ⟨K1_1, K1_2, K1, e1_1, e1_2, e1_3, e1, q1⟩ := sfx_texts q0 hs1
  have x1 : (kpu1 l b) = ((s1, s2, s3), K1, 0) := by
    simp only [kpu1, x0]
    exact e1
  have y1_0 : kpw1_0 l b = (s1, K1_1, 0) := by
    simp only [kpw1_0, z1]
    exact e1_1
  have z1_1 : kps1_1 l b = (K1_1, false) := by simp only [kps1_1, z1, y1_0, mvS_ok]
  have y1_1 : kpw1_1 l b = (s2, K1_2, 0) := by
    simp only [kpw1_1, z1_1]
    exact e1_2
  have z1_2 : kps1_2 l b = (K1_2, false) := by simp only [kps1_2, z1_1, y1_1, mvS_ok]
  have y1_2 : kpw1_2 l b = (s3, K1, 0) := by
    simp only [kpw1_2, z1_2]
    exact e1_3
  have y1 : (kpw1 l b) = ((s1, s2, s3), K1, 0) := by simp only [kpw1, y1_0, y1_1, y1_2]
  have z2 : (kps2 l b) = (K1, false) := by simp only [kps2, z1_2, y1_2, mvS_ok]
  obtain ⟨K2, e2, q2⟩ := sfx_num1 q1 h1
  have x2 : (kpu2 l b) = (lf, K2, 0) := by
    simp only [kpu2, x1, x0]
    exact e2
  have y2 : (kpw2 l b) = (lf, K2, 0) := by
    simp only [kpw2, z2, y0, y1]
    exact e2
  have z3 : (kps3 l b) = (K2, false) := by simp only [kps3, z2, y2, mvS_ok]
  obtain ⟨K3, e3, q3⟩ := sfx_num1 q2 h2
  have x3 : (kpu3 l b) = (kv, K3, 0) := by
    simp only [kpu3, x2, x0, x1]
    exact e3
  have y3 : (kpw3 l b) = (kv, K3, 0) := by
    simp only [kpw3, z3, y0, y1, y2]
    exact e3
  have z4 : (kps4 l b) = (K3, false) := by simp only [kps4, z3, y3, mvS_ok]
  obtain ⟨K4, e4, q4⟩ := sfx_num1 q3 h3
  have x4 : (kpu4 l b) = ((tk.length : Int), K4, 0) := by
    simp only [kpu4, x3, x0, x1, x2]
    exact e4
  have y4 : (kpw4 l b) = ((tk.length : Int), K4, 0) := by
    simp only [kpw4, z4, y0, y1, y2, y3]
    exact e4
  have z5 : (kps5 l b) = (K4, false) := by simp only [kps5, z4, y4, mvS_ok]
  obtain ⟨K5, e5, q5⟩ := sfx_bytes q4 rfl
  have x5 : (kpu5 l b) = (tk, K5, 0) := by
    simp only [kpu5, x4, x0, x1, x2, x3]
    exact e5
  have y5 : (kpw5 l b) = (tk, K5, 0) := by
    simp only [kpw5, z5, y0, y1, y2, y3, y4]
    exact e5
  have z6 : (kps6 l b) = (K5, false) := by simp only [kps6, z5, y5, mvS_ok]
  obtain ⟨K6, e6, q6⟩ := sfx_num4 q5 h4
  have x6 : (kpu6 l b) = (tm, K6, 0) := by
    simp only [kpu6, x5, x0, x1, x2, x3, x4]
    exact e6
  have y6 : (kpw6 l b) = (tm, K6, 0) := by
    simp only [kpw6, z6, y0, y1, y2, y3, y4, y5]
    exact e6
  have z7 : (kps7 l b) = (K6, false) := by simp only [kps7, z6, y6, mvS_ok]
  refine ⟨⟨_, x0⟩, by rw [y0, x0], ⟨_, x1⟩, by rw [y1, x1], ⟨_, x2⟩, by rw [y2, x2], ⟨_, x3⟩, by rw [y3, x3], ⟨_, x4⟩, by rw [y4, x4], ⟨_, x5⟩, by rw [y5, x5], ⟨_, x6⟩, by rw [y6, x6], ?_, ?_⟩
  · rw [z7, x6]
  · rw [x6]; exact q6
def kpRd (l : Bool) (b : List UInt8) : KPart := ⟨(readK (kpu0 l b).1).1, (kpu1 l b).1.1, (kpu1 l b).1.2.1, (kpu1 l b).1.2.2, (kpu2 l b).1, (kpu3 l b).1, (kpu5 l b).1, (kpu6 l b).1⟩
def kpRw (l : Bool) (b : List UInt8) : KPart := ⟨(readK (kpw0 l b).1).1, (kpw1 l b).1.1, (kpw1 l b).1.2.1, (kpw1 l b).1.2.2, (kpw2 l b).1, (kpw3 l b).1, (kpw5 l b).1, (kpw6 l b).1⟩
theorem kp_rd {l : Bool} {t : KPart} {b : List UInt8} (h : kpN l t = (b, 0)) : kpRd l b = t ∧ kpRw l b = t ∧ (kps7 l b).2 = false := by
  obtain ⟨hk2, hs, ⟨h1, h2, h4⟩, h3, hb⟩ := kpN_is h
  have hk : 0 ≤ t.k ∧ t.k ≤ 18446744073709551615 := by
    have := keyOk_is hk2
    unfold keyTop keyLow at this
    omega
  obtain ⟨o1, o2, o3⟩ := oct0S_ok (b := b) (n := ordN l) (r := keyB t.k ++ (t.s1 ++ ([0] ++ (t.s2 ++ ([0] ++ (t.s3 ++ ([0] ++ (numS false 1 t.lf ++ (numS false 1 t.kv ++ (numS false 1 (t.tk.length : Int) ++ (t.tk ++ (numS l 4 t.tm ++ (List.replicate (padN (kpB l t).length) 0))))))))))))) (by
    rw [← hb, padS]
    generalize List.replicate (padN (kpB l t).length) (0 : UInt8) = Z
    rw [kpB]
    simp only [List.append_assoc, List.nil_append]) (ordN_range l)
  obtain ⟨⟨_, x0⟩, y0, ⟨_, x1⟩, y1, ⟨_, x2⟩, y2, ⟨_, x3⟩, y3, ⟨_, x4⟩, y4, ⟨_, x5⟩, y5, ⟨_, x6⟩, y6, z, _⟩ := kp_read hs h1 h2 ⟨by omega, by omega⟩ h4 o2 o1
  have rk := readK_key hk hk2
  refine ⟨?_, ?_, by rw [z]⟩
  · rw [kpRd, x0, x1, x2, x3, x5, x6, rk]
  · rw [kpRw, y0, y1, y2, y3, y5, y6, rk]
def kpD (l : Bool) (b : List UInt8) : KPart × Int := decG (kpN l) (kpRd l) kp0 b
section
variable {l : Bool} {b : List UInt8}
theorem kpD_yes (h1 : (kpN l (kpRd l b)).2 = 0) (h2 : (kpN l (kpRd l b)).1 = b) : kpD l b = (kpRd l b, 0) := decG_yes h1 h2
theorem kpD_no (h1 : ¬ (kpN l (kpRd l b)).2 = 0 ∨ ¬ (kpN l (kpRd l b)).1 = b) : kpD l b = (kp0, 100) := decG_no h1
theorem kpD_ref (h1 : (kpN l (kpRw l b)).2 = 0) (h2 : (kpN l (kpRw l b)).1 = b) : kpD l b = (kpRw l b, 0) := decG_ref (rd' := kpRw l) (fun e => (kp_rd e).1) h1 h2
theorem kpD_bad (h1 : (kps7 l b).2 = true ∨ ¬ (kpN l (kpRw l b)).2 = 0 ∨ ¬ (kpN l (kpRw l b)).1 = b) : kpD l b = (kp0, 100) :=
  decG_bad (rd' := kpRw l) (bad := fun b => (kps7 l b).2) (fun e => ⟨(kp_rd e).2.1, (kp_rd e).2.2⟩) h1
theorem kpD_is (h : (kpD l b).2 = 0) : kpN l (kpD l b).1 = (b, 0) := by
  obtain ⟨h1, h2⟩ := decG_is (N := kpN l) (rd := kpRd l) (z := kp0) h
  rw [kpD, h2]
  exact h1
theorem kpD_len (h : b.length ≤ 90000) : (kpD l b).1.tk.length ≤ 255 ∧ (kpD l b).1.s1.length ≤ 39 ∧ (kpD l b).1.s2.length ≤ 39 ∧ (kpD l b).1.s3.length ≤ 39 ∧ 0 ≤ (kpD l b).1.k ∧ (kpD l b).1.k ≤ 18446744073709551615 := by
  by_cases h1 : (kpD l b).2 = 0
  · have e := kpD_is h1
    generalize (kpD l b).1 = t at *
    obtain ⟨hk2, hs, _, h3, _⟩ := kpN_is e
    obtain ⟨a1, a2, a3⟩ := valid_len hs
    have := keyOk_is hk2
    unfold keyTop keyLow at this
    omega
  · have e : (kpD l b).1 = kp0 := by
      unfold kpD decG at h1 ⊢
      split
      · rename_i h2; rw [if_pos h2] at h1; exact absurd rfl h1
      · rfl
    rw [e]
    decide
end
end Go.Sx

/-
  What is sealed and opened, as plain functions: for every input.
-/
namespace Go.Sx
def sealS (kd k : Int) (N : List UInt8 × Int) : List UInt8 × Int := if N.2 = 0 then makeS kd k N.1 else ([], N.2)
theorem sealS_yes {kd k : Int} {N : List UInt8 × Int} (h : N.2 = 0) : sealS kd k N = makeS kd k N.1 := by rw [sealS, if_pos h]
theorem sealS_no {kd k : Int} {N : List UInt8 × Int} (h : ¬ N.2 = 0) : sealS kd k N = ([], N.2) := by rw [sealS, if_neg h]
theorem tickN_len (li : Bool) (x y z : List UInt8) (ad se lf is : Int) (sn si : List UInt8) : (tickN li x y z ad se lf is sn si).1.length ≤ 224 := by
  by_cases h : tickC x y z ad se lf is sn si = 0
  · rw [tickN_ok h]; exact (tickE_len h).2
  · rw [tickN_no h]; simp
end Go.Sx

/-
  What caches of credentials are, as plain functions: for every input.
-/
namespace Go.Sx
structure CR where
  x : List UInt8
  y : List UInt8
  z : List UInt8
  k : Int
  lf : Int
  kv : Int
  is : Int
  t : List UInt8
def cr0 : CR := ⟨[], [], [], 0, 0, 0, 0, []⟩
def crR (s : CR) : List L := [.s s.x, .s s.y, .s s.z, .i .u64 s.k, .i .i64 s.lf, .i .i64 s.kv, .i .i64 s.is, .sl (s.t.map u8) s.t.length]
theorem crR_len (s : CR) : (crR s).length = 8 := rfl
def i64R (n : Int) : Prop := -9223372036854775808 ≤ n ∧ n ≤ 9223372036854775807
/-- a credential that the machine may hold, with short texts -/
def crSm (B : Nat) (s : CR) : Prop := s.x.length ≤ B ∧ s.y.length ≤ B ∧ s.z.length ≤ B ∧ s.t.length ≤ B ∧ (0 ≤ s.k ∧ s.k ≤ 18446744073709551615) ∧ i64R s.lf ∧ i64R s.kv ∧ i64R s.is
def crIs (x y z : List UInt8) (s : CR) : Bool := s.x == x && (s.y == y && s.z == z)
theorem crIs_yes {x y z : List UInt8} {s : CR} (h1 : s.x = x) (h2 : s.y = y) (h3 : s.z = z) : crIs x y z s = true := by simp [crIs, h1, h2, h3]
theorem crIs_no {x y z : List UInt8} {s : CR} (h : ¬ (s.x = x ∧ s.y = y ∧ s.z = z)) : crIs x y z s = false := by
  rw [Bool.eq_false_iff]
  intro hh
  simp only [crIs, Bool.and_eq_true, beq_iff_eq] at hh
  exact h hh
def crAt (l : List CR) (x y z : List UInt8) : Nat := l.findIdx (crIs x y z)
def crG (l : List CR) (x y z : List UInt8) : CR × Bool := if crAt l x y z = l.length then (cr0, false) else (l.getD (crAt l x y z) cr0, true)
theorem crG_no {l : List CR} {x y z : List UInt8} (h : crAt l x y z = l.length) : crG l x y z = (cr0, false) := by rw [crG, if_pos h]
theorem crG_yes {l : List CR} {x y z : List UInt8} {j : Nat} (h : crAt l x y z = j) (hj : j < l.length) : crG l x y z = (l.getD j cr0, true) := by subst h; rw [crG, if_neg (by omega)]
/-- what a valid credential is -/
def crR0 (s : CR) : Prop := (0 ≤ s.lf ∧ s.lf ≤ 255) ∧ (0 ≤ s.kv ∧ s.kv ≤ 255) ∧ (0 ≤ s.is ∧ s.is ≤ 4294967295)
instance (s : CR) : Decidable (crR0 s) := by unfold crR0; infer_instance
def crE (l : List CR) (i : Nat) : Int :=
  if validS (l.getD i cr0).x (l.getD i cr0).y (l.getD i cr0).z = false then 103 else
  if keyOk (l.getD i cr0).k = false then 10 else
  if ¬ crR0 (l.getD i cr0) then 104 else
  if 255 < (l.getD i cr0).t.length then 105 else
  if crAt l (l.getD i cr0).x (l.getD i cr0).y (l.getD i cr0).z < i then 107 else 0
def ccC (o1 o2 o3 : List UInt8) (l : List CR) : Int := if validS o1 o2 o3 = false then 103 else if 20 < l.length then 106 else firstE (crE l) l.length
theorem crE_name {l : List CR} {i : Nat} {s : CR} (e : l.getD i cr0 = s) (h : validS s.x s.y s.z = false) : crE l i = 103 := by subst e; rw [crE, if_pos h]
theorem crE_key {l : List CR} {i : Nat} {s : CR} (e : l.getD i cr0 = s) (h : validS s.x s.y s.z = true) (h2 : keyOk s.k = false) : crE l i = 10 := by subst e; rw [crE, if_neg (by rw [h]; decide), if_pos h2]
theorem crE_range {l : List CR} {i : Nat} {s : CR} (e : l.getD i cr0 = s) (h : validS s.x s.y s.z = true) (h2 : keyOk s.k = true) (h3 : ¬ crR0 s) : crE l i = 104 := by subst e; rw [crE, if_neg (by rw [h]; decide), if_neg (by rw [h2]; decide), if_pos h3]
theorem crE_long {l : List CR} {i : Nat} {s : CR} (e : l.getD i cr0 = s) (h : validS s.x s.y s.z = true) (h2 : keyOk s.k = true) (h3 : crR0 s) (h4 : 255 < s.t.length) : crE l i = 105 := by subst e; rw [crE, if_neg (by rw [h]; decide), if_neg (by rw [h2]; decide), if_neg (fun hh => hh h3), if_pos h4]
theorem crE_dup {l : List CR} {i : Nat} {s : CR} (e : l.getD i cr0 = s) (h : validS s.x s.y s.z = true) (h2 : keyOk s.k = true) (h3 : crR0 s) (h4 : ¬ 255 < s.t.length) (h5 : crAt l s.x s.y s.z < i) : crE l i = 107 := by subst e; rw [crE, if_neg (by rw [h]; decide), if_neg (by rw [h2]; decide), if_neg (fun hh => hh h3), if_neg h4, if_pos h5]
theorem crE_ok {l : List CR} {i : Nat} {s : CR} (e : l.getD i cr0 = s) (h : validS s.x s.y s.z = true) (h2 : keyOk s.k = true) (h3 : crR0 s) (h4 : ¬ 255 < s.t.length) (h5 : ¬ crAt l s.x s.y s.z < i) : crE l i = 0 := by subst e; rw [crE, if_neg (by rw [h]; decide), if_neg (by rw [h2]; decide), if_neg (fun hh => hh h3), if_neg h4, if_neg h5]
/-- a credential without an error -/
def crV (s : CR) : Prop := validS s.x s.y s.z = true ∧ keyOk s.k = true ∧ crR0 s ∧ s.t.length ≤ 255
theorem crE_is {l : List CR} {i : Nat} (h : crE l i = 0) : crV (l.getD i cr0) ∧ i ≤ crAt l (l.getD i cr0).x (l.getD i cr0).y (l.getD i cr0).z := by
  unfold crE at h
  split at h
  · cases h
  · rename_i h1
    split at h
    · cases h
    · rename_i h2
      split at h
      · cases h
      · rename_i h3
        split at h
        · cases h
        · rename_i h4
          split at h
          · cases h
          · refine ⟨⟨?_, ?_, Decidable.not_not.mp h3, by omega⟩, by omega⟩
            · cases hv : validS (l.getD i cr0).x (l.getD i cr0).y (l.getD i cr0).z with
              | true => rfl
              | false => exact absurd hv h1
            · cases hv : keyOk (l.getD i cr0).k with
              | true => rfl
              | false => exact absurd hv h2
theorem ccC_name {o1 o2 o3 : List UInt8} {l : List CR} (h : validS o1 o2 o3 = false) : ccC o1 o2 o3 l = 103 := by rw [ccC, if_pos h]
theorem ccC_many {o1 o2 o3 : List UInt8} {l : List CR} (h : validS o1 o2 o3 = true) (h2 : 20 < l.length) : ccC o1 o2 o3 l = 106 := by rw [ccC, if_neg (by rw [h]; decide), if_pos h2]
theorem ccC_at {o1 o2 o3 : List UInt8} {l : List CR} {i : Nat} {e : Int} (h : validS o1 o2 o3 = true) (h2 : ¬ 20 < l.length) (hi : i < l.length) (h0 : ∀ j, j < i → crE l j = 0) (he : crE l i = e) (hn : e ≠ 0) : ccC o1 o2 o3 l = e := by
  rw [ccC, if_neg (by rw [h]; decide), if_neg h2, firstE_at hi h0 (by rw [he]; exact hn), he]
theorem ccC_ok {o1 o2 o3 : List UInt8} {l : List CR} (h : validS o1 o2 o3 = true) (h2 : ¬ 20 < l.length) (h0 : ∀ j, j < l.length → crE l j = 0) : ccC o1 o2 o3 l = 0 := by rw [ccC, if_neg (by rw [h]; decide), if_neg h2, firstE_ok h0]
theorem ccC_is {o1 o2 o3 : List UInt8} {l : List CR} (h : ccC o1 o2 o3 l = 0) : validS o1 o2 o3 = true ∧ l.length ≤ 20 ∧ ∀ j, j < l.length → crE l j = 0 := by
  unfold ccC at h
  split at h
  · cases h
  · rename_i h1
    split at h
    · cases h
    · refine ⟨?_, by omega, firstE_is h⟩
      cases hv : validS o1 o2 o3 with
      | true => rfl
      | false => exact absurd hv h1
theorem ccC_mem {o1 o2 o3 : List UInt8} {l : List CR} (h : ccC o1 o2 o3 l = 0) : ∀ s ∈ l, crV s := by
  intro s hs
  obtain ⟨j, hj, rfl⟩ := mem_getD cr0 hs
  exact (crE_is ((ccC_is h).2.2 j hj)).1
theorem crAt_take {l : List CR} {i : Nat} (hi : i ≤ l.length) (x y z : List UInt8) : crAt (l.take i) x y z = (l.take i).length ↔ ¬ crAt l x y z < i := by
  have hl : (l.take i).length = i := by simp; omega
  rw [hl]
  constructor
  · intro h hlt
    have h1 := find_hit (p := crIs x y z) (l := l) cr0 (by show crAt l x y z < _; omega)
    have h2 := find_miss (p := crIs x y z) (l := l.take i) (i := crAt l x y z) cr0 (by show _ < crAt (l.take i) x y z; omega)
    rw [take_getD hlt] at h2
    change crIs x y z (l.getD (crAt l x y z) cr0) = true at h1
    rw [h1] at h2
    cases h2
  · intro h
    have := find_no (p := crIs x y z) (l := l.take i) cr0 (fun j hj => by
      rw [hl] at hj
      rw [take_getD hj]
      exact find_miss cr0 (by show j < crAt l x y z; omega))
    rw [hl] at this
    exact this
theorem crG_dup {l : List CR} {i : Nat} {x y z : List UInt8} (hi : i ≤ l.length) (h : (crG (l.take i) x y z).2 = true) : crAt l x y z < i := by
  have e := crAt_take hi x y z
  unfold crG at h
  split at h
  · cases h
  · rename_i h1
    exact Decidable.not_not.mp fun h2 => h1 (e.mpr h2)
theorem crG_new {l : List CR} {i : Nat} {x y z : List UInt8} (hi : i ≤ l.length) (h : (crG (l.take i) x y z).2 = false) : ¬ crAt l x y z < i := by
  have e := crAt_take hi x y z
  unfold crG at h
  split at h
  · rename_i h1
    exact e.mp h1
  · cases h
/-- when a lifetime ends -/
def endS (is lf : Int) : Int := if (0 ≤ is ∧ is ≤ 4294967295) ∧ (0 ≤ lf ∧ lf ≤ 255) then is + 300 * (lf + 1) else 0
theorem endS_yes {is lf : Int} (h : (0 ≤ is ∧ is ≤ 4294967295) ∧ (0 ≤ lf ∧ lf ≤ 255)) : endS is lf = is + 300 * (lf + 1) := by rw [endS, if_pos h]
theorem endS_no {is lf : Int} (h : ¬ ((0 ≤ is ∧ is ≤ 4294967295) ∧ (0 ≤ lf ∧ lf ≤ 255))) : endS is lf = 0 := by rw [endS, if_neg h]
/-- some of a list -/
theorem filt_step {p : CR → Bool} {l : List CR} {j : Nat} {K : List CR} (hj : j < l.length) (hK : (l.take j).filter p = K) : (l.take (j + 1)).filter p = if p (l.getD j cr0) = true then K ++ [l.getD j cr0] else K := by
  rw [take_getD_succ cr0 hj, List.filter_append, hK]
  simp only [List.filter_cons, List.filter_nil]
  split
  · rfl
  · simp
theorem filt_yes {p : CR → Bool} {l : List CR} {j : Nat} {K : List CR} (hj : j < l.length) (hK : (l.take j).filter p = K) (h : p (l.getD j cr0) = true) : (l.take (j + 1)).filter p = K ++ [l.getD j cr0] := by rw [filt_step hj hK, if_pos h]
theorem filt_no {p : CR → Bool} {l : List CR} {j : Nat} {K : List CR} (hj : j < l.length) (hK : (l.take j).filter p = K) (h : p (l.getD j cr0) = false) : (l.take (j + 1)).filter p = K := by rw [filt_step hj hK, if_neg (by rw [h]; decide)]
theorem filt_le {p : CR → Bool} {l : List CR} {j : Nat} {K : List CR} (hK : (l.take j).filter p = K) : K.length ≤ l.length := by
  have h1 := List.length_filter_le p (l.take j)
  rw [hK, List.length_take] at h1
  omega
def keepS (x y z : List UInt8) (l : List CR) : List CR := l.filter fun s => !crIs x y z s
/-- what storing leads to: the owner, the credentials, the error -/
abbrev CcT := (List UInt8 × List UInt8 × List UInt8) × List CR
def cc0 : CcT := (([], [], []), [])
def ccS (o1 o2 o3 : List UInt8) (l : List CR) (s : CR) : CcT × Int :=
  if ccC o1 o2 o3 l ≠ 0 then (cc0, ccC o1 o2 o3 l) else
  if ccC o1 o2 o3 [s] ≠ 0 then (cc0, ccC o1 o2 o3 [s]) else
  if 20 ≤ (keepS s.x s.y s.z l).length then (cc0, 106) else (((o1, o2, o3), keepS s.x s.y s.z l ++ [s]), 0)
theorem ccS_1 {o1 o2 o3 : List UInt8} {l : List CR} {s : CR} (h : ¬ ccC o1 o2 o3 l = 0) : ccS o1 o2 o3 l s = (cc0, ccC o1 o2 o3 l) := by rw [ccS, if_pos h]
theorem ccS_2 {o1 o2 o3 : List UInt8} {l : List CR} {s : CR} (h : ccC o1 o2 o3 l = 0) (h2 : ¬ ccC o1 o2 o3 [s] = 0) : ccS o1 o2 o3 l s = (cc0, ccC o1 o2 o3 [s]) := by rw [ccS, if_neg (fun hh => hh h), if_pos h2]
theorem ccS_3 {o1 o2 o3 : List UInt8} {l : List CR} {s : CR} (h : ccC o1 o2 o3 l = 0) (h2 : ccC o1 o2 o3 [s] = 0) (h3 : 20 ≤ (keepS s.x s.y s.z l).length) : ccS o1 o2 o3 l s = (cc0, 106) := by rw [ccS, if_neg (fun hh => hh h), if_neg (fun hh => hh h2), if_pos h3]
theorem ccS_4 {o1 o2 o3 : List UInt8} {l : List CR} {s : CR} (h : ccC o1 o2 o3 l = 0) (h2 : ccC o1 o2 o3 [s] = 0) (h3 : ¬ 20 ≤ (keepS s.x s.y s.z l).length) : ccS o1 o2 o3 l s = (((o1, o2, o3), keepS s.x s.y s.z l ++ [s]), 0) := by rw [ccS, if_neg (fun hh => hh h), if_neg (fun hh => hh h2), if_neg h3]
theorem ccS_len (o1 o2 o3 : List UInt8) (l : List CR) (s : CR) : (ccS o1 o2 o3 l s).1.2.length ≤ l.length + 1 := by
  have := List.length_filter_le (fun t => !crIs s.x s.y s.z t) l
  unfold ccS keepS
  split
  · simp [cc0]
  · split
    · simp [cc0]
    · split
      · simp [cc0]
      · rw [List.length_append]; exact Nat.add_le_add_right this 1
def initS (x y z : List UInt8) : (List UInt8 × List UInt8 × List UInt8) × Int := if validS x y z = true then ((x, y, z), 0) else (([], [], []), 103)
theorem initS_yes {x y z : List UInt8} (h : validS x y z = true) : initS x y z = ((x, y, z), 0) := by rw [initS, if_pos h]
theorem initS_no {x y z : List UInt8} (h : validS x y z = false) : initS x y z = (([], [], []), 103) := by rw [initS, if_neg (by rw [h]; decide)]
end Go.Sx

/-
  The ticket that a record becomes, as a plain function: for every input.
-/
set_option linter.all false
namespace Go.Sx
def lifeV (n : Int) : Int := if n < 300 then 0 else (if 255 < n / 300 - 1 then 255 else n / 300 - 1)
def convS (x y z u v : List UInt8) (se st en ad : Int) : TickT × Bool :=
  if 0 ≤ st ∧ st ≤ en ∧ 300 ≤ en - st ∧ tickC x y z ad se (lifeV (en - st)) st u v = 0 then ((false, x, y, z, ad, se, lifeV (en - st), st, u, v), true) else (tick0, false)
theorem convS_yes {x y z u v : List UInt8} {se st en ad : Int} (h1 : 0 ≤ st ∧ st ≤ en ∧ 300 ≤ en - st) (h2 : tickC x y z ad se (lifeV (en - st)) st u v = 0) : convS x y z u v se st en ad = ((false, x, y, z, ad, se, lifeV (en - st), st, u, v), true) := by
  rw [convS, if_pos ⟨h1.1, h1.2.1, h1.2.2, h2⟩]
theorem convS_no {x y z u v : List UInt8} {se st en ad : Int} (h : ¬ (0 ≤ st ∧ st ≤ en ∧ 300 ≤ en - st)) : convS x y z u v se st en ad = (tick0, false) := by
  rw [convS, if_neg (fun hh => h ⟨hh.1, hh.2.1, hh.2.2.1⟩)]
theorem convS_bad {x y z u v : List UInt8} {se st en ad : Int} (h : ¬ tickC x y z ad se (lifeV (en - st)) st u v = 0) : convS x y z u v se st en ad = (tick0, false) := by
  rw [convS, if_neg (fun hh => h hh.2.2.2)]
theorem convS_late {x y z u v : List UInt8} {se st en ad : Int} (h : 4294967295 < st) : convS x y z u v se st en ad = (tick0, false) := by
  refine convS_bad fun hc => ?_
  have := (tickC_ok hc).2.2.2.2.2.2
  omega
end Go.Sx

/-
  What a converter answers, as plain functions: for every input.
-/
set_option linter.all false
namespace Go.Sx
structure VArg where
  (r : List UInt8)
  (l : List DE)
  (now : Int)
  (b : List UInt8)
structure VIss where
  (kd : Int)
  (v1 v2 v3 c1 c2 c3 s1 s2 s3 : List UInt8)
  (k : Int)
  (bx : List UInt8)
  (is en : Int)
def vi0 : VIss := ⟨0, [], [], [], [], [], [], [], [], [], 0, [], 0, 0⟩
def vSv (a : VArg) : Int × Int := dbU (fmD a.b).1.n1 (fmD a.b).1.n2 a.l a.now (bitOn 2) 2 6
def vEn (a : VArg) : DE := a.l.getD (vSv a).1.toNat de0
def vBo (a : VArg) : List UInt8 × Bool := boxO (fmD a.b).1.bx 9 (vEn a).k
def vRd (a : VArg) : FRec × Int := frD (vBo a).1
def vF (a : VArg) : (FRec × DE) × Bool :=
  if ¬ ((fmD a.b).2 = 0) then ((fr0, de0), false) else
  if ¬ ((fmD a.b).1.op = 2 ∧ (fmD a.b).1.n3 = a.r) then ((fr0, de0), false) else
  if ¬ ((vSv a).2 = 0) then ((fr0, de0), false) else
  if ¬ ((vBo a).2 = true) then ((fr0, de0), false) else
  if ¬ ((vRd a).2 = 0) then ((fr0, de0), false) else
  if ¬ (((vRd a).1.s1 = (fmD a.b).1.n1 ∧ (vRd a).1.s2 = (fmD a.b).1.n2 ∧ (vRd a).1.s3 = (fmD a.b).1.n3) ∧ a.now ≤ (vRd a).1.en) then ((fr0, de0), false) else
  (((vRd a).1, vEn a), true)
section
variable {a : VArg}
theorem vF_0 (h : ¬ ((fmD a.b).2 = 0)) : vF a = ((fr0, de0), false) := by
  rw [vF, if_pos h]
theorem vF_1 (h0 : (fmD a.b).2 = 0) (h : ¬ ((fmD a.b).1.op = 2 ∧ (fmD a.b).1.n3 = a.r)) : vF a = ((fr0, de0), false) := by
  rw [vF, if_neg (fun h => h h0), if_pos h]
theorem vF_2 (h0 : (fmD a.b).2 = 0) (h1 : (fmD a.b).1.op = 2 ∧ (fmD a.b).1.n3 = a.r) (h : ¬ ((vSv a).2 = 0)) : vF a = ((fr0, de0), false) := by
  rw [vF, if_neg (fun h => h h0), if_neg (fun h => h h1), if_pos h]
theorem vF_3 (h0 : (fmD a.b).2 = 0) (h1 : (fmD a.b).1.op = 2 ∧ (fmD a.b).1.n3 = a.r) (h2 : (vSv a).2 = 0) (h : ¬ ((vBo a).2 = true)) : vF a = ((fr0, de0), false) := by
  rw [vF, if_neg (fun h => h h0), if_neg (fun h => h h1), if_neg (fun h => h h2), if_pos h]
theorem vF_4 (h0 : (fmD a.b).2 = 0) (h1 : (fmD a.b).1.op = 2 ∧ (fmD a.b).1.n3 = a.r) (h2 : (vSv a).2 = 0) (h3 : (vBo a).2 = true) (h : ¬ ((vRd a).2 = 0)) : vF a = ((fr0, de0), false) := by
  rw [vF, if_neg (fun h => h h0), if_neg (fun h => h h1), if_neg (fun h => h h2), if_neg (fun h => h h3), if_pos h]
theorem vF_5 (h0 : (fmD a.b).2 = 0) (h1 : (fmD a.b).1.op = 2 ∧ (fmD a.b).1.n3 = a.r) (h2 : (vSv a).2 = 0) (h3 : (vBo a).2 = true) (h4 : (vRd a).2 = 0) (h : ¬ (((vRd a).1.s1 = (fmD a.b).1.n1 ∧ (vRd a).1.s2 = (fmD a.b).1.n2 ∧ (vRd a).1.s3 = (fmD a.b).1.n3) ∧ a.now ≤ (vRd a).1.en)) : vF a = ((fr0, de0), false) := by
  rw [vF, if_neg (fun h => h h0), if_neg (fun h => h h1), if_neg (fun h => h h2), if_neg (fun h => h h3), if_neg (fun h => h h4), if_pos h]
theorem vF_ok (h0 : (fmD a.b).2 = 0) (h1 : (fmD a.b).1.op = 2 ∧ (fmD a.b).1.n3 = a.r) (h2 : (vSv a).2 = 0) (h3 : (vBo a).2 = true) (h4 : (vRd a).2 = 0) (h5 : ((vRd a).1.s1 = (fmD a.b).1.n1 ∧ (vRd a).1.s2 = (fmD a.b).1.n2 ∧ (vRd a).1.s3 = (fmD a.b).1.n3) ∧ a.now ≤ (vRd a).1.en) : vF a = (((vRd a).1, vEn a), true) := by
  rw [vF, if_neg (fun h => h h0), if_neg (fun h => h h1), if_neg (fun h => h h2), if_neg (fun h => h h3), if_neg (fun h => h h4), if_neg (fun h => h h5)]
theorem vF_is (h : (vF a).2 = true) : vF a = (((vRd a).1, vEn a), true) ∧ ((fmD a.b).2 = 0) ∧ ((fmD a.b).1.op = 2 ∧ (fmD a.b).1.n3 = a.r) ∧ ((vSv a).2 = 0) ∧ ((vBo a).2 = true) ∧ ((vRd a).2 = 0) ∧ (((vRd a).1.s1 = (fmD a.b).1.n1 ∧ (vRd a).1.s2 = (fmD a.b).1.n2 ∧ (vRd a).1.s3 = (fmD a.b).1.n3) ∧ a.now ≤ (vRd a).1.en) := by
  by_cases h0 : (fmD a.b).2 = 0
  case neg => rw [vF_0 h0] at h; cases h
  by_cases h1 : (fmD a.b).1.op = 2 ∧ (fmD a.b).1.n3 = a.r
  case neg => rw [vF_1 h0 h1] at h; cases h
  by_cases h2 : (vSv a).2 = 0
  case neg => rw [vF_2 h0 h1 h2] at h; cases h
  by_cases h3 : (vBo a).2 = true
  case neg => rw [vF_3 h0 h1 h2 h3] at h; cases h
  by_cases h4 : (vRd a).2 = 0
  case neg => rw [vF_4 h0 h1 h2 h3 h4] at h; cases h
  by_cases h5 : ((vRd a).1.s1 = (fmD a.b).1.n1 ∧ (vRd a).1.s2 = (fmD a.b).1.n2 ∧ (vRd a).1.s3 = (fmD a.b).1.n3) ∧ a.now ≤ (vRd a).1.en
  case neg => rw [vF_5 h0 h1 h2 h3 h4 h5] at h; cases h
  exact ⟨vF_ok h0 h1 h2 h3 h4 h5, h0 , h1 , h2 , h3 , h4 , h5⟩
end
/-- a record and its service's entry, as they come out -/
def vGood (R : FRec) (E : DE) : Prop := (frN R).2 = 0 ∧ keyOk E.k = true ∧ (0 ≤ E.kv ∧ E.kv ≤ 255)
theorem vF_good {a : VArg} (h : (vF a).2 = true) (hkv : ∀ e ∈ a.l, 0 ≤ e.kv ∧ e.kv ≤ 255) : vGood (vF a).1.1 (vF a).1.2 := by
  obtain ⟨e, _, _, h2, _, h4, _⟩ := vF_is h
  rw [e]
  obtain ⟨i, i1, i2, _, _, i5⟩ := dbU_at (by decide) (by decide) h2
  have q : vEn a = a.l.getD i de0 := by rw [vEn, show (vSv a).1 = (i : Int) from i2, Int.toNat_natCast]
  obtain ⟨r1, r2⟩ := decG_is (N := frN) (rd := frRu) (z := fr0) h4
  refine ⟨?_, ?_, ?_⟩
  · show (frN (vRd a).1).2 = 0
    rw [vRd, frD, r2, r1]
  · show keyOk (vEn a).k = true
    rw [q]; exact i5
  · show 0 ≤ (vEn a).kv ∧ (vEn a).kv ≤ 255
    rw [q]; exact hkv _ (getD_mem (d := de0) i1)
def rLf (R : FRec) : Int := lifeV (R.en - R.st)
def rOk (R : FRec) : Prop := (0 ≤ R.st ∧ R.st ≤ R.en ∧ 300 ≤ R.en - R.st) ∧ tickC R.c1 R.c2 R.c3 R.ad R.k (rLf R) R.st R.s1 R.s2 = 0
instance (R : FRec) : Decidable (rOk R) := by unfold rOk; infer_instance
def rT (R : FRec) : List UInt8 := tickE false R.c1 R.c2 R.c3 R.ad R.k (rLf R) R.st R.s1 R.s2
def rSl (R : FRec) (E : DE) : List UInt8 := boxB 1 E.k (rT R)
def rPt (R : FRec) (E : DE) : KPart := ⟨R.k, R.s1, R.s2, R.s3, rLf R, E.kv, rSl R E, R.st⟩
def rBx (R : FRec) (E : DE) : List UInt8 := boxB 3 R.k (padS (kpB false (rPt R E)))
def rMs (R : FRec) (E : DE) : FMsg := ⟨3, R.s1, R.s2, R.s3, rBx R E⟩
def rMsg (R : FRec) (E : DE) : List UInt8 := fmB (rMs R E)
def rIs (r : List UInt8) (R : FRec) (E : DE) : VIss := ⟨6, [107, 114, 98, 116, 103, 116], r, r, R.c1, R.c2, R.c3, R.s1, R.s2, R.s3, R.k, rSl R E, R.st, endS R.st (rLf R)⟩
theorem conv_yes {R : FRec} (h : rOk R) : convS R.c1 R.c2 R.c3 R.s1 R.s2 R.k R.st R.en R.ad = ((false, R.c1, R.c2, R.c3, R.ad, R.k, rLf R, R.st, R.s1, R.s2), true) := convS_yes h.1 h.2
theorem conv_no {R : FRec} (h : ¬ rOk R) : convS R.c1 R.c2 R.c3 R.s1 R.s2 R.k R.st R.en R.ad = (tick0, false) := by
  by_cases h1 : 0 ≤ R.st ∧ R.st ≤ R.en ∧ 300 ≤ R.en - R.st
  · exact convS_bad (fun h2 => h ⟨h1, h2⟩)
  · exact convS_no h1
theorem lifeV_range (n : Int) (h : 300 ≤ n) : 0 ≤ lifeV n ∧ lifeV n ≤ 255 ∧ 300 * (lifeV n + 1) ≤ n := by
  unfold lifeV
  split
  · omega
  · split <;> omega
/-- what the steps of an answer come to -/
theorem r_steps {R : FRec} {E : DE} (hg : vGood R E) (h : rOk R) :
    tickN false R.c1 R.c2 R.c3 R.ad R.k (rLf R) R.st R.s1 R.s2 = (rT R, 0) ∧ makeS 1 E.k (rT R) = (rSl R E, 0) ∧ kpN false (rPt R E) = (padS (kpB false (rPt R E)), 0) ∧ makeS 3 R.k (padS (kpB false (rPt R E))) = (rBx R E, 0) ∧ fmN (rMs R E) = (rMsg R E, 0) ∧ (rT R).length ≤ 224 ∧ (rSl R E).length ≤ 236 ∧ (padS (kpB false (rPt R E))).length ≤ 440 ∧ (rBx R E).length ≤ 452 ∧ (rMsg R E).length ≤ 600 ∧ (0 ≤ R.k ∧ R.k ≤ 18446744073709551615) ∧ (0 ≤ E.k ∧ E.k ≤ 18446744073709551615) ∧ keyOk R.k = true := by
  obtain ⟨g1, g2, g3⟩ := hg
  obtain ⟨⟨v1, v2⟩, hk, hr, _⟩ := frN_is (t := R) (pair_of g1 rfl)
  have hk2 := class2_ok hk
  have lT : (rT R).length ≤ 224 := (tickE_len (li := false) h.2).2
  have lS : (rSl R E).length ≤ 236 := by rw [rSl, boxB_len]; omega
  have hl := lifeV_range (R.en - R.st) h.1.2.2
  have hp : kpN false (rPt R E) = (padS (kpB false (rPt R E)), 0) := kpN_ok hk2 v2 ⟨⟨hl.1, hl.2.1⟩, g3, hr.1.1⟩ (by show (rSl R E).length ≤ 255; omega)
  have lP : (padS (kpB false (rPt R E))).length ≤ 440 := by
    have := kpN_len false (rPt R E)
    rw [hp] at this
    exact this
  have lB : (rBx R E).length ≤ 452 := by rw [rBx, boxB_len]; omega
  obtain ⟨a1, a2, a3⟩ := valid_len v2
  have lM : (rMsg R E).length ≤ 600 := by
    have : (fmB (rMs R E)).length = R.s1.length + R.s2.length + R.s3.length + (rBx R E).length + 8 := fmB_len (rMs R E)
    rw [rMsg, this]
    omega
  exact ⟨tickN_ok h.2, makeS_ok (by omega) g2 (by omega), hp, makeS_ok (by omega) hk2 (by omega), fmN_ok (.inr (.inr rfl)) v2 (by show (rBx R E).length ≤ 1012; omega), lT, lS, lP, lB, lM, keyOk_range hk2, keyOk_range g2, hk2⟩
/-- what a converter answers -/
def vA (a : VArg) : (List UInt8 × VIss) × Bool := if (vF a).2 = true ∧ rOk (vF a).1.1 then ((rMsg (vF a).1.1 (vF a).1.2, rIs a.r (vF a).1.1 (vF a).1.2), true) else (([], vi0), false)
theorem vA_no {a : VArg} (h : (vF a).2 = false ∨ ¬ rOk (vF a).1.1) : vA a = (([], vi0), false) := by
  rw [vA, if_neg (fun hh => by rcases h with h | h; rw [h] at hh; exact absurd hh.1 (by decide); exact h hh.2)]
theorem vA_yes {a : VArg} (h : (vF a).2 = true) (h1 : rOk (vF a).1.1) : vA a = ((rMsg (vF a).1.1 (vF a).1.2, rIs a.r (vF a).1.1 (vF a).1.2), true) := by rw [vA, if_pos ⟨h, h1⟩]
theorem frR_len {R : FRec} {E : DE} (hg : vGood R E) : R.c1.length ≤ 39 ∧ R.c2.length ≤ 39 ∧ R.c3.length ≤ 39 ∧ R.s1.length ≤ 39 ∧ R.s2.length ≤ 39 ∧ R.s3.length ≤ 39 ∧ (0 ≤ R.k ∧ R.k ≤ 18446744073709551615) ∧ (0 ≤ R.st ∧ R.st ≤ 4294967295) ∧ (0 ≤ R.en ∧ R.en ≤ 4294967295) := by
  obtain ⟨g1, g2, g3⟩ := hg
  obtain ⟨⟨v1, v2⟩, hk, hr, _⟩ := frN_is (t := R) (pair_of g1 rfl)
  obtain ⟨a1, a2, a3⟩ := valid_len v1
  obtain ⟨b1, b2, b3⟩ := valid_len v2
  have := keyOk_range (class2_ok hk)
  have := hr.1.1
  have := hr.1.2.1
  unfold u32R at *
  omega
end Go.Sx

/-
  Clients, and what a client makes of an answer of the converter, as plain functions: for every input.
-/
set_option linter.all false
namespace Go.Sx
structure CL where
  (m1 m2 m3 : List UInt8)
  (ad sk : Int)
  (li : Bool)
  (o1 o2 o3 : List UInt8)
  (l : List CR)
  (wt : Int)
  (w1 w2 w3 : List UInt8)
  (se tm lf ck tk : Int)
def clR (c : CL) (n : Nat) : List L := [.s c.m1, .s c.m2, .s c.m3, .i .i64 c.ad, .i .i64 c.sk, .b c.li, .s c.o1, .s c.o2, .s c.o3, .sl (flat crR c.l) n, .i .i64 c.wt, .s c.w1, .s c.w2, .s c.w3, .i .u64 c.se, .i .i64 c.tm, .i .i64 c.lf, .i .i64 c.ck, .i .i64 c.tk]
def clC (c : CL) : Int :=
  if validS c.m1 c.m2 c.m3 = false then 103 else
  if ¬ ((0 ≤ c.ad ∧ c.ad ≤ 4294967295) ∧ (0 ≤ c.sk ∧ c.sk ≤ 4294967295)) then 104 else
  if ¬ (0 ≤ c.wt ∧ c.wt ≤ 3) then 104 else
  if ¬ (ccC c.o1 c.o2 c.o3 c.l = 0) then ccC c.o1 c.o2 c.o3 c.l else
  if ¬ (c.o1 = c.m1 ∧ c.o2 = c.m2 ∧ c.o3 = c.m3) then 103 else 0
section
variable {c : CL}
theorem clC_0 (h : validS c.m1 c.m2 c.m3 = false) : clC c = 103 := by rw [clC, if_pos h]
theorem clC_1 (h0 : validS c.m1 c.m2 c.m3 = true) (h : ¬ ((0 ≤ c.ad ∧ c.ad ≤ 4294967295) ∧ (0 ≤ c.sk ∧ c.sk ≤ 4294967295))) : clC c = 104 := by rw [clC, if_neg (by rw [h0]; decide), if_pos h]
theorem clC_2 (h0 : validS c.m1 c.m2 c.m3 = true) (h1 : (0 ≤ c.ad ∧ c.ad ≤ 4294967295) ∧ (0 ≤ c.sk ∧ c.sk ≤ 4294967295)) (h : ¬ (0 ≤ c.wt ∧ c.wt ≤ 3)) : clC c = 104 := by rw [clC, if_neg (by rw [h0]; decide), if_neg (fun h => h h1), if_pos h]
theorem clC_3 (h0 : validS c.m1 c.m2 c.m3 = true) (h1 : (0 ≤ c.ad ∧ c.ad ≤ 4294967295) ∧ (0 ≤ c.sk ∧ c.sk ≤ 4294967295)) (h2 : 0 ≤ c.wt ∧ c.wt ≤ 3) (h : ¬ (ccC c.o1 c.o2 c.o3 c.l = 0)) : clC c = ccC c.o1 c.o2 c.o3 c.l := by rw [clC, if_neg (by rw [h0]; decide), if_neg (fun h => h h1), if_neg (fun h => h h2), if_pos h]
theorem clC_4 (h0 : validS c.m1 c.m2 c.m3 = true) (h1 : (0 ≤ c.ad ∧ c.ad ≤ 4294967295) ∧ (0 ≤ c.sk ∧ c.sk ≤ 4294967295)) (h2 : 0 ≤ c.wt ∧ c.wt ≤ 3) (h3 : ccC c.o1 c.o2 c.o3 c.l = 0) (h : ¬ (c.o1 = c.m1 ∧ c.o2 = c.m2 ∧ c.o3 = c.m3)) : clC c = 103 := by rw [clC, if_neg (by rw [h0]; decide), if_neg (fun h => h h1), if_neg (fun h => h h2), if_neg (fun h => h h3), if_pos h]
theorem clC_5 (h0 : validS c.m1 c.m2 c.m3 = true) (h1 : (0 ≤ c.ad ∧ c.ad ≤ 4294967295) ∧ (0 ≤ c.sk ∧ c.sk ≤ 4294967295)) (h2 : 0 ≤ c.wt ∧ c.wt ≤ 3) (h3 : ccC c.o1 c.o2 c.o3 c.l = 0) (h4 : c.o1 = c.m1 ∧ c.o2 = c.m2 ∧ c.o3 = c.m3) : clC c = 0 := by rw [clC, if_neg (by rw [h0]; decide), if_neg (fun h => h h1), if_neg (fun h => h h2), if_neg (fun h => h h3), if_neg (fun h => h h4)]
end
def cl0 : CL := ⟨[], [], [], 0, 0, false, [], [], [], [], 0, [], [], [], 0, 0, 0, 0, 0⟩
def newS (x y z : List UInt8) (ad sk : Int) (li : Bool) : CL × Int :=
  if validS x y z = false then (cl0, 103) else
  if ¬ ((0 ≤ ad ∧ ad ≤ 4294967295) ∧ (0 ≤ sk ∧ sk ≤ 4294967295)) then (cl0, 104) else (⟨x, y, z, ad, sk, li, x, y, z, [], 0, [], [], [], 0, 0, 0, 0, 0⟩, 0)
theorem newS_0 {x y z : List UInt8} {ad sk : Int} {li : Bool} (h : validS x y z = false) : newS x y z ad sk li = (cl0, 103) := by rw [newS, if_pos h]
theorem newS_1 {x y z : List UInt8} {ad sk : Int} {li : Bool} (h0 : validS x y z = true) (h : ¬ ((0 ≤ ad ∧ ad ≤ 4294967295) ∧ (0 ≤ sk ∧ sk ≤ 4294967295))) : newS x y z ad sk li = (cl0, 104) := by rw [newS, if_neg (by rw [h0]; decide), if_pos h]
theorem newS_2 {x y z : List UInt8} {ad sk : Int} {li : Bool} (h0 : validS x y z = true) (h : (0 ≤ ad ∧ ad ≤ 4294967295) ∧ (0 ≤ sk ∧ sk ≤ 4294967295)) : newS x y z ad sk li = (⟨x, y, z, ad, sk, li, x, y, z, [], 0, [], [], [], 0, 0, 0, 0, 0⟩, 0) := by rw [newS, if_neg (by rw [h0]; decide), if_neg (fun hh => hh h)]
/-- a client that the machine may hold -/
def clSm (c : CL) : Prop := (c.m1.length ≤ 9223372036854775807 ∧ c.m2.length ≤ 9223372036854775807 ∧ c.m3.length ≤ 9223372036854775807) ∧ (c.o1.length ≤ 9223372036854775807 ∧ c.o2.length ≤ 9223372036854775807 ∧ c.o3.length ≤ 9223372036854775807) ∧ c.l.length ≤ 999999 ∧ ∀ s ∈ c.l, crSm 9223372036854775807 s
def yCr (p : KPart) : CR := ⟨p.s1, p.s2, p.s3, p.k, p.lf, p.kv, p.tm, p.tk⟩
def yB (b : List UInt8) (k : Int) : List UInt8 × Bool := boxO (fmD b).1.bx 3 k
def yP (b : List UInt8) (k : Int) : KPart × Int := kpD false (yB b k).1
def yS (c : CL) (b : List UInt8) (k : Int) : CcT × Int := ccS c.o1 c.o2 c.o3 c.l (yCr (yP b k).1)
theorem kpD_sm {b : List UInt8} (h : b.length ≤ 90000) : crSm 90000 (yCr (kpD false b).1) := by
  by_cases h1 : (kpD false b).2 = 0
  · have e := kpD_is h1
    generalize (kpD false b).1 = t at *
    obtain ⟨hk2, hs, ⟨r1, r2, r3⟩, h3, _⟩ := kpN_is e
    obtain ⟨a1, a2, a3⟩ := valid_len hs
    have := keyOk_is hk2
    unfold keyTop keyLow at this
    unfold yCr crSm i64R
    dsimp only
    omega
  · have e : (kpD false b).1 = kp0 := by
      unfold kpD decG at h1 ⊢
      split
      · rename_i h2; rw [if_pos h2] at h1; exact absurd rfl h1
      · rfl
    rw [e]
    unfold yCr crSm i64R kp0
    decide
theorem yP_sm (b : List UInt8) (k : Int) (h : b.length ≤ 90000) : crSm 90000 (yCr (yP b k).1) := kpD_sm (by have := boxO_len (fmD b).1.bx 3 k; rw [show boxO (fmD b).1.bx 3 k = yB b k from rfl] at this; omega)
def clW (c : CL) (d : CcT) : CL := ⟨c.m1, c.m2, c.m3, c.ad, c.sk, c.li, d.1.1, d.1.2.1, d.1.2.2, d.2, c.wt, c.w1, c.w2, c.w3, c.se, c.tm, c.lf, c.ck, c.tk⟩
structure YArg where
  (c : CL)
  (s1 s2 s3 : List UInt8)
  (k : Int)
  (b : List UInt8)
/-- what a client makes of an answer: the client, the credential, the error -/
def yA (a : YArg) : (CL × CR) × Int :=
  if ¬ (clC a.c = 0) then ((a.c, cr0), 108) else
  if ¬ ((fmD a.b).2 = 0) then ((a.c, cr0), (fmD a.b).2) else
  if ¬ ((fmD a.b).1.op = 3 ∧ (fmD a.b).1.n1 = a.s1 ∧ (fmD a.b).1.n2 = a.s2 ∧ (fmD a.b).1.n3 = a.s3) then ((a.c, cr0), 63) else
  if ¬ ((yB a.b a.k).2 = true) then ((a.c, cr0), 62) else
  if ¬ ((yP a.b a.k).2 = 0 ∧ ((yP a.b a.k).1.s1 = a.s1 ∧ (yP a.b a.k).1.s2 = a.s2 ∧ (yP a.b a.k).1.s3 = a.s3) ∧ (yP a.b a.k).1.k = a.k) then ((a.c, cr0), 63) else
  if ¬ ((yS a.c a.b a.k).2 = 0) then ((a.c, cr0), (yS a.c a.b a.k).2) else
  ((clW a.c (yS a.c a.b a.k).1, yCr (yP a.b a.k).1), 0)
section
variable {a : YArg}
theorem yA_0 (h : ¬ (clC a.c = 0)) : yA a = ((a.c, cr0), 108) := by
  rw [yA, if_pos h]
theorem yA_1 (h0 : clC a.c = 0) (h : ¬ ((fmD a.b).2 = 0)) : yA a = ((a.c, cr0), (fmD a.b).2) := by
  rw [yA, if_neg (fun h => h h0), if_pos h]
theorem yA_2 (h0 : clC a.c = 0) (h1 : (fmD a.b).2 = 0) (h : ¬ ((fmD a.b).1.op = 3 ∧ (fmD a.b).1.n1 = a.s1 ∧ (fmD a.b).1.n2 = a.s2 ∧ (fmD a.b).1.n3 = a.s3)) : yA a = ((a.c, cr0), 63) := by
  rw [yA, if_neg (fun h => h h0), if_neg (fun h => h h1), if_pos h]
theorem yA_3 (h0 : clC a.c = 0) (h1 : (fmD a.b).2 = 0) (h2 : (fmD a.b).1.op = 3 ∧ (fmD a.b).1.n1 = a.s1 ∧ (fmD a.b).1.n2 = a.s2 ∧ (fmD a.b).1.n3 = a.s3) (h : ¬ ((yB a.b a.k).2 = true)) : yA a = ((a.c, cr0), 62) := by
  rw [yA, if_neg (fun h => h h0), if_neg (fun h => h h1), if_neg (fun h => h h2), if_pos h]
theorem yA_4 (h0 : clC a.c = 0) (h1 : (fmD a.b).2 = 0) (h2 : (fmD a.b).1.op = 3 ∧ (fmD a.b).1.n1 = a.s1 ∧ (fmD a.b).1.n2 = a.s2 ∧ (fmD a.b).1.n3 = a.s3) (h3 : (yB a.b a.k).2 = true) (h : ¬ ((yP a.b a.k).2 = 0 ∧ ((yP a.b a.k).1.s1 = a.s1 ∧ (yP a.b a.k).1.s2 = a.s2 ∧ (yP a.b a.k).1.s3 = a.s3) ∧ (yP a.b a.k).1.k = a.k)) : yA a = ((a.c, cr0), 63) := by
  rw [yA, if_neg (fun h => h h0), if_neg (fun h => h h1), if_neg (fun h => h h2), if_neg (fun h => h h3), if_pos h]
theorem yA_5 (h0 : clC a.c = 0) (h1 : (fmD a.b).2 = 0) (h2 : (fmD a.b).1.op = 3 ∧ (fmD a.b).1.n1 = a.s1 ∧ (fmD a.b).1.n2 = a.s2 ∧ (fmD a.b).1.n3 = a.s3) (h3 : (yB a.b a.k).2 = true) (h4 : (yP a.b a.k).2 = 0 ∧ ((yP a.b a.k).1.s1 = a.s1 ∧ (yP a.b a.k).1.s2 = a.s2 ∧ (yP a.b a.k).1.s3 = a.s3) ∧ (yP a.b a.k).1.k = a.k) (h : ¬ ((yS a.c a.b a.k).2 = 0)) : yA a = ((a.c, cr0), (yS a.c a.b a.k).2) := by
  rw [yA, if_neg (fun h => h h0), if_neg (fun h => h h1), if_neg (fun h => h h2), if_neg (fun h => h h3), if_neg (fun h => h h4), if_pos h]
theorem yA_ok (h0 : clC a.c = 0) (h1 : (fmD a.b).2 = 0) (h2 : (fmD a.b).1.op = 3 ∧ (fmD a.b).1.n1 = a.s1 ∧ (fmD a.b).1.n2 = a.s2 ∧ (fmD a.b).1.n3 = a.s3) (h3 : (yB a.b a.k).2 = true) (h4 : (yP a.b a.k).2 = 0 ∧ ((yP a.b a.k).1.s1 = a.s1 ∧ (yP a.b a.k).1.s2 = a.s2 ∧ (yP a.b a.k).1.s3 = a.s3) ∧ (yP a.b a.k).1.k = a.k) (h5 : (yS a.c a.b a.k).2 = 0) : yA a = ((clW a.c (yS a.c a.b a.k).1, yCr (yP a.b a.k).1), 0) := by
  rw [yA, if_neg (fun h => h h0), if_neg (fun h => h h1), if_neg (fun h => h h2), if_neg (fun h => h h3), if_neg (fun h => h h4), if_neg (fun h => h h5)]
end
end Go.Sx

/-
  The cells of an entry of a database at any place: for every input.
-/
set_option linter.all false
namespace Go.Sx
theorem headI_deK {l : List DE} {j z : Nat} (hz : z = j * 9 + 2) {E : DE} (hE : l.getD j de0 = E) (h : j < l.length) {K : Int → List L → Prop} (hk : ∀ r, K E.k r) : headI .u64 ((flat deR l).drop z) K := by
  subst hz
  exact ⟨_, _, by rw [← List.drop_drop, flat_at deR_len de0 h, hE]; rfl, hk _⟩
theorem headI_deV {l : List DE} {j z : Nat} (hz : z = j * 9 + 3) {E : DE} (hE : l.getD j de0 = E) (h : j < l.length) {K : Int → List L → Prop} (hk : ∀ r, K E.kv r) : headI .i64 ((flat deR l).drop z) K := by
  subst hz
  exact ⟨_, _, by rw [← List.drop_drop, flat_at deR_len de0 h, hE]; rfl, hk _⟩
theorem headI_deKK {l : List DE} {j z f : Nat} (hz : z = j * 9) (hf : f = 2) {E : DE} (hE : l.getD j de0 = E) (h : j < l.length) {K : Int → List L → Prop} (hk : ∀ r, K E.k r) : headI .u64 (((flat deR l).drop z).drop f) K := by
  subst hz
  subst hf
  exact ⟨_, _, by rw [flat_at deR_len de0 h, hE]; rfl, hk _⟩
theorem headI_deVV {l : List DE} {j z f : Nat} (hz : z = j * 9) (hf : f = 3) {E : DE} (hE : l.getD j de0 = E) (h : j < l.length) {K : Int → List L → Prop} (hk : ∀ r, K E.kv r) : headI .i64 (((flat deR l).drop z).drop f) K := by
  subst hz
  subst hf
  exact ⟨_, _, by rw [flat_at deR_len de0 h, hE]; rfl, hk _⟩
end Go.Sx

/-
  What is converted, and who can read it, as plain laws: for every input.
-/
set_option linter.all false
namespace Go.Sx
theorem vA_is {a : VArg} (h : (vA a).2 = true) : (vF a).2 = true ∧ rOk (vF a).1.1 := by
  unfold vA at h
  split at h
  · assumption
  · cases h
end Go.Sx

/-
  The caches that the laws make, as plain functions: for every input.
-/
namespace Go.Sx
theorem range_getD {n i : Nat} (h : i < n) : (List.range n).getD i 0 = i := by
  rw [List.getD_eq_getElem?_getD, List.getElem?_range h]; rfl
/-- how many bytes a ticket has that is made from the k-th number on -/
def credJ (l : List UInt8) (k : Nat) : Nat := (List.range 30).findIdx fun j => decide (nx l (k + 2 * j) 30 ≤ (j : Int))
theorem credJ_at {l : List UInt8} {k j : Nat} (h : ∀ i, i < j → (i : Int) < nx l (k + 2 * i) 30) (h2 : ¬ (j : Int) < nx l (k + 2 * j) 30) : credJ l k = j := by
  have b : ∀ i, nx l (k + 2 * i) 30 < 30 := fun i => (nx_bounds l _ (by omega)).2
  have hj : j < 30 := by
    by_cases h0 : j = 0
    · omega
    · have h1 := h (j - 1) (by omega)
      have h3 := b (j - 1)
      omega
  refine find_at 0 (by simpa using hj) (fun i hi => ?_) ?_
  · rw [range_getD (by omega)]; exact decide_eq_false (by have := h i hi; omega)
  · rw [range_getD hj]; exact decide_eq_true (by omega)
theorem credJ_le (l : List UInt8) (k : Nat) : credJ l k ≤ 30 := by
  have : credJ l k ≤ (List.range 30).length := List.findIdx_le_length
  simpa using this
def credT (l : List UInt8) (k n : Nat) : List UInt8 := (List.range n).map fun i => byteOf (nx l (k + 2 * i + 1) 256)
theorem credT_len (l : List UInt8) (k n : Nat) : (credT l k n).length = n := by simp [credT]
theorem credT_next (l : List UInt8) (k n : Nat) : credT l k (n + 1) = credT l k n ++ [byteOf (nx l (k + 2 * n + 1) 256)] := by
  rw [credT, List.range_succ, List.map_append]; rfl
def credE (l : List UInt8) (k : Nat) : CR := ⟨serviceN (nx l k 9), serviceI (nx l k 9), realmN (nx l k 9 / 3), sessN (nx l (k + 1) 9), nx l (k + 2) 256, nx l (k + 3) 256, nx l (k + 4) 256 * 100, credT l (k + 5) (credJ l (k + 5))⟩
def credP (l : List UInt8) (k : Nat) : Nat := k + 5 + 2 * credJ l (k + 5) + 1
def crSv (s : CR) : List UInt8 × List UInt8 × List UInt8 := (s.x, s.y, s.z)
def svN (n : Nat) : List UInt8 × List UInt8 × List UInt8 := (serviceN n, serviceI n, realmN ((n : Int) / 3))
theorem credE_ok (l : List UInt8) (k : Nat) : crV (credE l k) ∧ ∃ n, n < 9 ∧ crSv (credE l k) = svN n := by
  have b0 := nx_bounds l k (n := 9) (by omega)
  have b1 := nx_bounds l (k + 1) (n := 9) (by omega)
  have b2 := nx_bounds l (k + 2) (n := 256) (by omega)
  have b3 := nx_bounds l (k + 3) (n := 256) (by omega)
  have b4 := nx_bounds l (k + 4) (n := 256) (by omega)
  refine ⟨⟨?_, (sess_ok (by omega)).1, ⟨⟨b2.1, by show nx l (k + 2) 256 ≤ 255; omega⟩, ⟨b3.1, by show nx l (k + 3) 256 ≤ 255; omega⟩, ⟨by show 0 ≤ nx l (k + 4) 256 * 100; omega, by show nx l (k + 4) 256 * 100 ≤ 4294967295; omega⟩⟩, ?_⟩, (nx l k 9).toNat, by omega, ?_⟩
  · show validS (serviceN _) (serviceI _) (realmN _) = true
    obtain ⟨h1, h2⟩ := service_valid (nx l k 9)
    unfold validS
    rw [h1, h2, realm_valid]; rfl
  · show (credT l (k + 5) (credJ l (k + 5))).length ≤ 255
    have := credJ_le l (k + 5)
    rw [credT_len]; omega
  · show (_, _, _) = (_, _, _)
    rw [show (((nx l k 9).toNat : Nat) : Int) = nx l k 9 by omega]; rfl
theorem crV_small {s : CR} (h : crV s) : crSm 255 s := by
  obtain ⟨h1, h2, h3, h4⟩ := h
  obtain ⟨l1, l2, l3⟩ := valid_len h1
  have hk := keyOk_is h2
  have hk2 := key_parts s.k
  unfold crR0 at h3
  exact ⟨by omega, by omega, by omega, h4, by omega, by unfold i64R; omega, by unfold i64R; omega, by unfold i64R; omega⟩
theorem cr_grow {A B : Nat} (hAB : A ≤ B) {s : CR} (h : crSm A s) : crSm B s := by
  obtain ⟨h1, h2, h3, h4, h5⟩ := h
  exact ⟨by omega, by omega, by omega, by omega, h5⟩
/-- a cache grows by the credentials of other services -/
def cacheK (O : List CR) (s : CR) : List CR := if ∀ r, r < O.length → crIs s.x s.y s.z (O.getD r cr0) = false then O ++ [s] else O
theorem cacheK_yes {O : List CR} {s : CR} (h : ∀ r, r < O.length → crIs s.x s.y s.z (O.getD r cr0) = false) : cacheK O s = O ++ [s] := by rw [cacheK, if_pos h]
theorem cacheK_no {O : List CR} {s : CR} (h : ∃ r, r < O.length ∧ crIs s.x s.y s.z (O.getD r cr0) = true) : cacheK O s = O := by
  obtain ⟨r, h1, h2⟩ := h
  rw [cacheK, if_neg (fun hh => by rw [hh r h1] at h2; cases h2)]
theorem eqr {x y z : List UInt8} (s : CR) : (s.x == x && (s.y == y && (s.z == z && true))) = crIs x y z s := by simp [crIs]
def cachP (l : List UInt8) : Nat → Nat
  | 0 => 0
  | j + 1 => credP l (cachP l j)
def cachO (l : List UInt8) : Nat → List CR
  | 0 => []
  | j + 1 => cacheK (cachO l j) (credE l (cachP l j))
theorem cachP_ge (l : List UInt8) : ∀ j, j ≤ cachP l j
  | 0 => Nat.le_refl _
  | j + 1 => by have := cachP_ge l j; show j + 1 ≤ credP l (cachP l j); unfold credP; omega
theorem cachO_le (l : List UInt8) : ∀ j, (cachO l j).length ≤ j
  | 0 => Nat.le_refl _
  | j + 1 => by
    have := cachO_le l j
    show (cacheK (cachO l j) (credE l (cachP l j))).length ≤ j + 1
    unfold cacheK
    split
    · rw [List.length_append, List.length_singleton]; omega
    · omega
def cachN (l : List UInt8) : Nat := (List.range (l.length + 1)).findIdx fun j => decide (l.length ≤ cachP l j)
theorem cachN_at {l : List UInt8} {j : Nat} (h : ∀ i, i < j → cachP l i < l.length) (h2 : ¬ cachP l j < l.length) : cachN l = j := by
  have hj : j < l.length + 1 := by
    by_cases h0 : j = 0
    · omega
    · have h1 := h (j - 1) (by omega)
      have h3 := cachP_ge l (j - 1)
      omega
  refine find_at 0 (by simpa using hj) (fun i hi => ?_) ?_
  · rw [range_getD (by omega)]; exact decide_eq_false (by have := h i hi; omega)
  · rw [range_getD hj]; exact decide_eq_true (by omega)
def cachS (l : List UInt8) : List CR := cachO l (cachN l)
/-- no two credentials are for the same service -/
def crGood (O : List CR) : Prop := (∀ s ∈ O, crV s ∧ ∃ n, n < 9 ∧ crSv s = svN n) ∧ ∀ i, i < O.length → ∀ r, r < i → crIs (O.getD i cr0).x (O.getD i cr0).y (O.getD i cr0).z (O.getD r cr0) = false
theorem crGood_add {O : List CR} {s : CR} (h : crGood O) (hs : crV s ∧ ∃ n, n < 9 ∧ crSv s = svN n) (h2 : ∀ r, r < O.length → crIs s.x s.y s.z (O.getD r cr0) = false) : crGood (O ++ [s]) := by
  obtain ⟨g2, g3⟩ := h
  refine ⟨fun t ht => ?_, fun i hi r hr => ?_⟩
  · rcases List.mem_append.1 ht with q | q
    · exact g2 t q
    · simp at q; subst q; exact hs
  · rw [List.length_append, List.length_singleton] at hi
    by_cases e : i < O.length
    · rw [app_getD e, app_getD (by omega)]; exact g3 i e r hr
    · have e : i = O.length := by omega
      subst e
      have : (O ++ [s]).getD O.length cr0 = s := by rw [app_getD' (Nat.le_refl _)]; simp
      rw [this, app_getD hr]
      exact h2 r hr
theorem cachO_good (l : List UInt8) : ∀ j, crGood (cachO l j)
  | 0 => ⟨fun s h => (by cases h), fun i h => absurd h (Nat.not_lt_zero i)⟩
  | j + 1 => by
    have ih := cachO_good l j
    show crGood (cacheK (cachO l j) (credE l (cachP l j)))
    unfold cacheK
    split
    · rename_i h; exact crGood_add ih (credE_ok _ _) h
    · exact ih
theorem nodup_len {α : Type} [BEq α] [LawfulBEq α] : ∀ {l M : List α}, l.Nodup → (∀ x ∈ l, x ∈ M) → l.length ≤ M.length
  | [], _, _, _ => by simp
  | a :: l, M, h, hs => by
    have ha := hs a (by simp)
    rw [List.nodup_cons] at h
    have ih := nodup_len (M := M.erase a) h.2 (fun x hx => (List.mem_erase_of_ne (fun e => h.1 (by rw [← e]; exact hx))).2 (hs x (by simp [hx])))
    rw [List.length_erase_of_mem ha] at ih
    have := List.length_pos_of_mem ha
    rw [List.length_cons]; omega
theorem crGood_len {O : List CR} (h : crGood O) : O.length ≤ 9 := by
  obtain ⟨g1, g2⟩ := h
  have hn : (O.map crSv).Nodup := by
    rw [List.nodup_iff_pairwise_ne, List.pairwise_iff_getElem]
    intro i j hi hj hij e
    rw [List.length_map] at hi hj
    have := g2 j hj i hij
    rw [List.getElem_map, List.getElem_map] at e
    rw [List.getD_eq_getElem?_getD, List.getD_eq_getElem?_getD, List.getElem?_eq_getElem hj, List.getElem?_eq_getElem hi] at this
    simp only [crSv, Prod.mk.injEq] at e
    simp only [Option.getD_some] at this
    rw [crIs_yes e.1 e.2.1 e.2.2] at this
    cases this
  have := nodup_len (M := (List.range 9).map svN) hn (fun x hx => by
    obtain ⟨s, hs, rfl⟩ := List.mem_map.1 hx
    obtain ⟨_, n, hn, e⟩ := g1 s hs
    rw [e]
    exact List.mem_map.2 ⟨n, List.mem_range.2 hn, rfl⟩)
  simpa using this
theorem cachS_good (l : List UInt8) : crGood (cachS l) := cachO_good l _
theorem crV_mem {O : List CR} (h : crGood O) : ∀ s ∈ O, crSm 90000 s := fun s hs => cr_grow (by omega) (crV_small (h.1 s hs).1)
/-- a cache that is too long for the laws -/
def crLgE (s : CR) : Prop := 100 < s.x.length ∨ 100 < s.y.length ∨ 100 < s.z.length ∨ 400 < s.t.length
instance (s : CR) : Decidable (crLgE s) := by unfold crLgE; infer_instance
end Go.Sx

/-
  What files with the keys of services are, as plain functions: for every input.
-/
namespace Go.Sx
structure SK where
  x : List UInt8
  y : List UInt8
  z : List UInt8
  n : Int
  k : Int
/-- the document's reader at an element -/
structure SkR where
  k1 : Int
  k2 : Int
  k3 : Int
  b3 : Bool
  k4 : Int
  b4 : Bool
  k5 : Int
  b5 : Bool
  s : SK
end Go.Sx

/-
  Plain functions and laws of them: for every input.
-/
import Derived.Test.YtmacgikbcednmabGreatPX1
set_option linter.all false
/-
  Issues of version 5, and what a client accepts, as plain functions: for every input.
-/
set_option linter.all false
namespace Go.Sx
theorem dbK_at {x y : List UInt8} {l : List DE} : ∀ {n : Nat}, (dbK x y l n).2 ≠ 0 → ∃ i : Nat, i < n ∧ (dbK x y l n).1 = (i : Int) ∧ deIs x y (l.getD i de0) = true
  | 0, h => absurd rfl h
  | n + 1, h => by
    cases e : deIs x y (l.getD n de0) with
    | true => exact ⟨n, by omega, by rw [dbK_yes e], e⟩
    | false =>
      rw [dbK_no e] at h ⊢
      obtain ⟨i, h1, h2, h3⟩ := dbK_at h
      exact ⟨i, by omega, h2, h3⟩
theorem dbF_at {x y : List UInt8} {l : List DE} (h : (dbF x y l).2 = 0) : ∃ i : Nat, i < l.length ∧ (dbF x y l).1 = (i : Int) ∧ (l.getD i de0).x = x ∧ (l.getD i de0).y = y := by
  unfold dbF at h ⊢
  split at h
  · cases h
  · rename_i h1
    rw [if_neg h1]
    split at h
    · cases h
    · rename_i h2
      rw [if_neg h2]
      obtain ⟨i, h3, h4, h5⟩ := dbK_at (x := x) (y := y) (l := l) (n := l.length) h1
      simp only [deIs, Bool.and_eq_true, beq_iff_eq] at h5
      exact ⟨i, h3, h4, h5.1, h5.2⟩
theorem dbU_at {x y : List UInt8} {l : List DE} {now : Int} {f : Int → Bool} {e1 e2 : Int} (n1 : e1 ≠ 0) (n2 : e2 ≠ 0) (h : (dbU x y l now f e1 e2).2 = 0) : ∃ i : Nat, i < l.length ∧ (dbU x y l now f e1 e2).1 = (i : Int) ∧ (l.getD i de0).x = x ∧ (l.getD i de0).y = y ∧ keyOk (l.getD i de0).k = true := by
  unfold dbU at h ⊢
  split at h
  · rename_i h1; exact absurd h h1
  · rename_i h1
    rw [if_neg h1]
    obtain ⟨i, q1, q2, q3, q4⟩ := dbF_at (Decidable.not_not.mp h1)
    rw [q2, Int.toNat_natCast] at h ⊢
    split at h
    · cases h
    · rename_i h2
      rw [if_neg h2]
      split at h
      · exact absurd h n1
      · rename_i h3
        rw [if_neg h3]
        split at h
        · exact absurd h n2
        · rename_i h4
          rw [if_neg h4]
          refine ⟨i, q1, rfl, q3, q4, ?_⟩
          cases hk : keyOk (l.getD i de0).k with
          | true => rfl
          | false => exact absurd hk h2
structure FArg where
  (r : List UInt8)
  (l : List DE)
  (c1 c2 c3 s1 s2 s3 : List UInt8)
  (now sec ad k : Int)
structure FIss where
  (kd : Int)
  (v1 v2 v3 c1 c2 c3 s1 s2 s3 : List UInt8)
  (k se : Int)
  (bx : List UInt8)
  (is en : Int)
section
variable {a : FArg}
theorem frB_len (t : FRec) : (frB t).length = t.c1.length + t.c2.length + t.c3.length + t.s1.length + t.s2.length + t.s3.length + 26 := by
  simp only [frB, List.length_append, List.length_singleton, List.length_nil, List.length_cons, numS_len, keyB_len]
  omega
theorem fmB_len (t : FMsg) : (fmB t).length = t.n1.length + t.n2.length + t.n3.length + t.bx.length + 8 := by
  simp only [fmB, List.length_append, List.length_singleton, List.length_nil, List.length_cons, numS_len, keyB_len]
  omega
end
section
variable {m1 m2 m3 : List UInt8} {k : Int} {b : List UInt8}
end
theorem fmD_len (b : List UInt8) : (fmD b).1.bx.length ≤ b.length := by
  unfold fmD
  split
  · unfold decG
    split
    · show (fmRu b).bx.length ≤ _
      exact bytesS_le b _ _
    · exact Nat.zero_le _
  · exact Nat.zero_le _
end Go.Sx

/-
  What is issued is accepted with the client's key, and with no other one.
-/
set_option linter.all false
namespace Go.Sx
section
variable {a : FArg}
end
end Go.Sx

/-
  The secret part of a reply of a key distribution center, as plain functions: for every input.
-/
set_option linter.all false
namespace Go.Sx
structure KPart where
  (k : Int)
  (s1 s2 s3 : List UInt8)
  (lf kv : Int)
  (tk : List UInt8)
  (tm : Int)
def kp0 : KPart := ⟨0, [], [], [], 0, 0, [], 0⟩
def kpB (l : Bool) (t : KPart) : List UInt8 := [] ++ numS false 1 (ordN l) ++ keyB t.k ++ t.s1 ++ [0] ++ t.s2 ++ [0] ++ t.s3 ++ [0] ++ numS false 1 t.lf ++ numS false 1 t.kv ++ numS false 1 (t.tk.length : Int) ++ t.tk ++ numS l 4 t.tm
def kpR (t : KPart) : Prop := (0 ≤ t.lf ∧ t.lf ≤ 255) ∧ (0 ≤ t.kv ∧ t.kv ≤ 255) ∧ (0 ≤ t.tm ∧ t.tm ≤ 4294967295)
instance (t : KPart) : Decidable (kpR t) := by unfold kpR; infer_instance
def kpN (l : Bool) (t : KPart) : List UInt8 × Int := if keyOk t.k = true then (if validS t.s1 t.s2 t.s3 = true then (if kpR t then (if t.tk.length ≤ 255 then (padS (kpB l t), 0) else ([], 105)) else ([], 104)) else ([], 103)) else ([], 10)
theorem kpB_len (l : Bool) (t : KPart) : (kpB l t).length = t.s1.length + t.s2.length + t.s3.length + t.tk.length + 19 := by
  simp only [kpB, List.length_append, List.length_singleton, List.length_nil, List.length_cons, numS_len, keyB_len]
  omega
section
variable {l : Bool} {t : KPart}
theorem kpN_10 (h : ¬ (keyOk t.k = true)) : kpN l t = ([], 10) := by
  rw [kpN, if_neg h]
theorem kpN_103 (h0 : keyOk t.k = true) (h : ¬ (validS t.s1 t.s2 t.s3 = true)) : kpN l t = ([], 103) := by
  rw [kpN, if_pos h0, if_neg h]
theorem kpN_104 (h0 : keyOk t.k = true) (h1 : validS t.s1 t.s2 t.s3 = true) (h : ¬ (kpR t)) : kpN l t = ([], 104) := by
  rw [kpN, if_pos h0, if_pos h1, if_neg h]
theorem kpN_105 (h0 : keyOk t.k = true) (h1 : validS t.s1 t.s2 t.s3 = true) (h2 : kpR t) (h : ¬ (t.tk.length ≤ 255)) : kpN l t = ([], 105) := by
  rw [kpN, if_pos h0, if_pos h1, if_pos h2, if_neg h]
theorem kpN_ok (h0 : keyOk t.k = true) (h1 : validS t.s1 t.s2 t.s3 = true) (h2 : kpR t) (h3 : t.tk.length ≤ 255) : kpN l t = (padS (kpB l t), 0) := by
  rw [kpN, if_pos h0, if_pos h1, if_pos h2, if_pos h3]
theorem kpN_is {b : List UInt8} (h : kpN l t = (b, 0)) : (keyOk t.k = true) ∧ (validS t.s1 t.s2 t.s3 = true) ∧ (kpR t) ∧ (t.tk.length ≤ 255) ∧ padS (kpB l t) = b := by
  by_cases h0 : keyOk t.k = true
  case neg => rw [kpN_10 h0] at h; cases h
  by_cases h1 : validS t.s1 t.s2 t.s3 = true
  case neg => rw [kpN_103 h0 h1] at h; cases h
  by_cases h2 : kpR t
  case neg => rw [kpN_104 h0 h1 h2] at h; cases h
  by_cases h3 : t.tk.length ≤ 255
  case neg => rw [kpN_105 h0 h1 h2 h3] at h; cases h
  rw [kpN_ok h0 h1 h2 h3] at h
  cases h
  exact ⟨h0, h1, h2, h3, rfl⟩
end
theorem kpN_len (l : Bool) (t : KPart) : (kpN l t).1.length ≤ 440 := by
  by_cases h0 : keyOk t.k = true
  case neg => rw [kpN_10 h0]; exact Nat.zero_le _
  by_cases h1 : validS t.s1 t.s2 t.s3 = true
  case neg => rw [kpN_103 h0 h1]; exact Nat.zero_le _
  by_cases h2 : kpR t
  case neg => rw [kpN_104 h0 h1 h2]; exact Nat.zero_le _
  by_cases h3 : t.tk.length ≤ 255
  case neg => rw [kpN_105 h0 h1 h2 h3]; exact Nat.zero_le _
  rw [kpN_ok h0 h1 h2 h3, padS_len]
  obtain ⟨a1, a2, a3⟩ := valid_len h1
  have := padN_lt (kpB l t).length
  have := kpB_len l t
  omega
def kpu0 (l : Bool) (b : List UInt8) := bytesS b 1 8
def kpu1 (l : Bool) (b : List UInt8) := prinS b (kpu0 l b).2.1
def kpu2 (l : Bool) (b : List UInt8) := getS false 1 b (kpu1 l b).2.1
def kpu3 (l : Bool) (b : List UInt8) := getS false 1 b (kpu2 l b).2.1
def kpu4 (l : Bool) (b : List UInt8) := getS false 1 b (kpu3 l b).2.1
def kpu5 (l : Bool) (b : List UInt8) := bytesS b (kpu4 l b).2.1 (kpu4 l b).1
def kpu6 (l : Bool) (b : List UInt8) := getS l 4 b (kpu5 l b).2.1
def kpw0 (l : Bool) (b : List UInt8) := bytesS b (oct0S b).1 8
def kps1 (l : Bool) (b : List UInt8) : Int × Bool := mvS (oct0S b) (kpw0 l b).2
def kpw1_0 (l : Bool) (b : List UInt8) := textS b (kps1 l b).1
def kps1_1 (l : Bool) (b : List UInt8) : Int × Bool := mvS (kps1 l b) (kpw1_0 l b).2
def kpw1_1 (l : Bool) (b : List UInt8) := textS b (kps1_1 l b).1
def kps1_2 (l : Bool) (b : List UInt8) : Int × Bool := mvS (kps1_1 l b) (kpw1_1 l b).2
def kpw1_2 (l : Bool) (b : List UInt8) := textS b (kps1_2 l b).1
def kpw1 (l : Bool) (b : List UInt8) : (List UInt8 × List UInt8 × List UInt8) × Int × Int := (((kpw1_0 l b).1, (kpw1_1 l b).1, (kpw1_2 l b).1), (kpw1_2 l b).2)
def kps2 (l : Bool) (b : List UInt8) : Int × Bool := mvS (kps1_2 l b) (kpw1_2 l b).2
def kpw2 (l : Bool) (b : List UInt8) := getS false 1 b (kps2 l b).1
def kps3 (l : Bool) (b : List UInt8) : Int × Bool := mvS (kps2 l b) (kpw2 l b).2
def kpw3 (l : Bool) (b : List UInt8) := getS false 1 b (kps3 l b).1
def kps4 (l : Bool) (b : List UInt8) : Int × Bool := mvS (kps3 l b) (kpw3 l b).2
def kpw4 (l : Bool) (b : List UInt8) := getS false 1 b (kps4 l b).1
def kps5 (l : Bool) (b : List UInt8) : Int × Bool := mvS (kps4 l b) (kpw4 l b).2
def kpw5 (l : Bool) (b : List UInt8) := bytesS b (kps5 l b).1 (kpw4 l b).1
def kps6 (l : Bool) (b : List UInt8) : Int × Bool := mvS (kps5 l b) (kpw5 l b).2
def kpw6 (l : Bool) (b : List UInt8) := getS l 4 b (kps6 l b).1
def kps7 (l : Bool) (b : List UInt8) : Int × Bool := mvS (kps6 l b) (kpw6 l b).2
theorem kps_bounds (l : Bool) (b : List UInt8) (g0 : 0 ≤ (oct0S b).1 ∧ (oct0S b).1 ≤ max (0 : Int) (b.length : Int)) : (0 ≤ (kps1 l b).1 ∧ (kps1 l b).1 ≤ max (0 : Int) (b.length : Int)) ∧ (0 ≤ (kps2 l b).1 ∧ (kps2 l b).1 ≤ max (0 : Int) (b.length : Int)) ∧ (0 ≤ (kps3 l b).1 ∧ (kps3 l b).1 ≤ max (0 : Int) (b.length : Int)) ∧ (0 ≤ (kps4 l b).1 ∧ (kps4 l b).1 ≤ max (0 : Int) (b.length : Int)) ∧ (0 ≤ (kps5 l b).1 ∧ (kps5 l b).1 ≤ max (0 : Int) (b.length : Int)) ∧ (0 ≤ (kps6 l b).1 ∧ (kps6 l b).1 ≤ max (0 : Int) (b.length : Int)) ∧ (0 ≤ (kps7 l b).1 ∧ (kps7 l b).1 ≤ max (0 : Int) (b.length : Int)) := by
  have g1 : 0 ≤ (kps1 l b).1 ∧ (kps1 l b).1 ≤ max (0 : Int) (b.length : Int) := mvS_bounds g0 (bytes_next _ _ _)
  have g1_1 : 0 ≤ (kps1_1 l b).1 ∧ (kps1_1 l b).1 ≤ max (0 : Int) (b.length : Int) := mvS_bounds g1 (text_next _ _)
  have g1_2 : 0 ≤ (kps1_2 l b).1 ∧ (kps1_2 l b).1 ≤ max (0 : Int) (b.length : Int) := mvS_bounds g1_1 (text_next _ _)
  have g2 : 0 ≤ (kps2 l b).1 ∧ (kps2 l b).1 ≤ max (0 : Int) (b.length : Int) := mvS_bounds g1_2 (text_next _ _)
  have g3 : 0 ≤ (kps3 l b).1 ∧ (kps3 l b).1 ≤ max (0 : Int) (b.length : Int) := mvS_bounds g2 (get_next _ _ _ _)
  have g4 : 0 ≤ (kps4 l b).1 ∧ (kps4 l b).1 ≤ max (0 : Int) (b.length : Int) := mvS_bounds g3 (get_next _ _ _ _)
  have g5 : 0 ≤ (kps5 l b).1 ∧ (kps5 l b).1 ≤ max (0 : Int) (b.length : Int) := mvS_bounds g4 (get_next _ _ _ _)
  have g6 : 0 ≤ (kps6 l b).1 ∧ (kps6 l b).1 ≤ max (0 : Int) (b.length : Int) := mvS_bounds g5 (bytes_next _ _ _)
  have g7 : 0 ≤ (kps7 l b).1 ∧ (kps7 l b).1 ≤ max (0 : Int) (b.length : Int) := mvS_bounds g6 (get_next _ _ _ _)
  exact ⟨g1, g2, g3, g4, g5, g6, g7⟩
theorem kp_read {l : Bool} {k : Int} {s1 s2 s3 tk : List UInt8} {lf kv tm : Int} (hs1 : validS s1 s2 s3 = true) (h1 : 0 ≤ lf ∧ lf ≤ 255) (h2 : 0 ≤ kv ∧ kv ≤ 255) (h3 : 0 ≤ (tk.length : Int) ∧ (tk.length : Int) ≤ 255) (h4 : 0 ≤ tm ∧ tm ≤ 4294967295) {b r : List UInt8} (hs : Sfx b 1 (keyB k ++ (s1 ++ ([0] ++ (s2 ++ ([0] ++ (s3 ++ ([0] ++ (numS false 1 lf ++ (numS false 1 kv ++ (numS false 1 (tk.length : Int) ++ (tk ++ (numS l 4 tm ++ (r)))))))))))))) (z0 : (oct0S b) = (1, false)) : (∃ K, (kpu0 l b) = (keyB k, K, 0)) ∧ ((kpw0 l b) = (keyB k, (kpu0 l b).2.1, 0)) ∧ (∃ K, (kpu1 l b) = ((s1, s2, s3), K, 0)) ∧ ((kpw1 l b) = ((s1, s2, s3), (kpu1 l b).2.1, 0)) ∧ (∃ K, (kpu2 l b) = (lf, K, 0)) ∧ ((kpw2 l b) = (lf, (kpu2 l b).2.1, 0)) ∧ (∃ K, (kpu3 l b) = (kv, K, 0)) ∧ ((kpw3 l b) = (kv, (kpu3 l b).2.1, 0)) ∧ (∃ K, (kpu4 l b) = ((tk.length : Int), K, 0)) ∧ ((kpw4 l b) = ((tk.length : Int), (kpu4 l b).2.1, 0)) ∧ (∃ K, (kpu5 l b) = (tk, K, 0)) ∧ ((kpw5 l b) = (tk, (kpu5 l b).2.1, 0)) ∧ (∃ K, (kpu6 l b) = (tm, K, 0)) ∧ ((kpw6 l b) = (tm, (kpu6 l b).2.1, 0)) ∧ (kps7 l b) = ((kpu6 l b).2.1, false) ∧ Sfx b (kpu6 l b).2.1 r := by
  obtain ⟨K0, e0, q0⟩ := sfx_bytes hs rfl
  have x0 : (kpu0 l b) = (keyB k, K0, 0) := by
    simp only [kpu0]
    exact e0
  have y0 : (kpw0 l b) = (keyB k, K0, 0) := by
    simp only [kpw0, z0]
    exact e0
  have z1 : (kps1 l b) = (K0, false) := by simp only [kps1, z0, y0, mvS_ok]
  obtain ⟨K1_1, K1_2, K1, e1_1, e1_2, e1_3, e1, q1⟩ := sfx_texts q0 hs1
  have x1 : (kpu1 l b) = ((s1, s2, s3), K1, 0) := by
    simp only [kpu1, x0]
    exact e1
  have y1_0 : kpw1_0 l b = (s1, K1_1, 0) := by
    simp only [kpw1_0, z1]
    exact e1_1
  have z1_1 : kps1_1 l b = (K1_1, false) := by simp only [kps1_1, z1, y1_0, mvS_ok]
  have y1_1 : kpw1_1 l b = (s2, K1_2, 0) := by
    simp only [kpw1_1, z1_1]
    exact e1_2
  have z1_2 : kps1_2 l b = (K1_2, false) := by simp only [kps1_2, z1_1, y1_1, mvS_ok]
  have y1_2 : kpw1_2 l b = (s3, K1, 0) := by
    simp only [kpw1_2, z1_2]
    exact e1_3
  have y1 : (kpw1 l b) = ((s1, s2, s3), K1, 0) := by simp only [kpw1, y1_0, y1_1, y1_2]
  have z2 : (kps2 l b) = (K1, false) := by simp only [kps2, z1_2, y1_2, mvS_ok]
  obtain ⟨K2, e2, q2⟩ := sfx_num1 q1 h1
  have x2 : (kpu2 l b) = (lf, K2, 0) := by
    simp only [kpu2, x1, x0]
    exact e2
  have y2 : (kpw2 l b) = (lf, K2, 0) := by
    simp only [kpw2, z2, y0, y1]
    exact e2
  have z3 : (kps3 l b) = (K2, false) := by simp only [kps3, z2, y2, mvS_ok]
  obtain ⟨K3, e3, q3⟩ := sfx_num1 q2 h2
  have x3 : (kpu3 l b) = (kv, K3, 0) := by
    simp only [kpu3, x2, x0, x1]
    exact e3
  have y3 : (kpw3 l b) = (kv, K3, 0) := by
    simp only [kpw3, z3, y0, y1, y2]
    exact e3
  have z4 : (kps4 l b) = (K3, false) := by simp only [kps4, z3, y3, mvS_ok]
  obtain ⟨K4, e4, q4⟩ := sfx_num1 q3 h3
  have x4 : (kpu4 l b) = ((tk.length : Int), K4, 0) := by
    simp only [kpu4, x3, x0, x1, x2]
    exact e4
  have y4 : (kpw4 l b) = ((tk.length : Int), K4, 0) := by
    simp only [kpw4, z4, y0, y1, y2, y3]
    exact e4
  have z5 : (kps5 l b) = (K4, false) := by simp only [kps5, z4, y4, mvS_ok]
  obtain ⟨K5, e5, q5⟩ := sfx_bytes q4 rfl
  have x5 : (kpu5 l b) = (tk, K5, 0) := by
    simp only [kpu5, x4, x0, x1, x2, x3]
    exact e5
  have y5 : (kpw5 l b) = (tk, K5, 0) := by
    simp only [kpw5, z5, y0, y1, y2, y3, y4]
    exact e5
  have z6 : (kps6 l b) = (K5, false) := by simp only [kps6, z5, y5, mvS_ok]
  obtain ⟨K6, e6, q6⟩ := sfx_num4 q5 h4
  have x6 : (kpu6 l b) = (tm, K6, 0) := by
    simp only [kpu6, x5, x0, x1, x2, x3, x4]
    exact e6
  have y6 : (kpw6 l b) = (tm, K6, 0) := by
    simp only [kpw6, z6, y0, y1, y2, y3, y4, y5]
    exact e6
  have z7 : (kps7 l b) = (K6, false) := by simp only [kps7, z6, y6, mvS_ok]
  refine ⟨⟨_, x0⟩, by rw [y0, x0], ⟨_, x1⟩, by rw [y1, x1], ⟨_, x2⟩, by rw [y2, x2], ⟨_, x3⟩, by rw [y3, x3], ⟨_, x4⟩, by rw [y4, x4], ⟨_, x5⟩, by rw [y5, x5], ⟨_, x6⟩, by rw [y6, x6], ?_, ?_⟩
  · rw [z7, x6]
  · rw [x6]; exact q6
def kpRd (l : Bool) (b : List UInt8) : KPart := ⟨(readK (kpu0 l b).1).1, (kpu1 l b).1.1, (kpu1 l b).1.2.1, (kpu1 l b).1.2.2, (kpu2 l b).1, (kpu3 l b).1, (kpu5 l b).1, (kpu6 l b).1⟩
def kpRw (l : Bool) (b : List UInt8) : KPart := ⟨(readK (kpw0 l b).1).1, (kpw1 l b).1.1, (kpw1 l b).1.2.1, (kpw1 l b).1.2.2, (kpw2 l b).1, (kpw3 l b).1, (kpw5 l b).1, (kpw6 l b).1⟩
theorem kp_rd {l : Bool} {t : KPart} {b : List UInt8} (h : kpN l t = (b, 0)) : kpRd l b = t ∧ kpRw l b = t ∧ (kps7 l b).2 = false := by
  obtain ⟨hk2, hs, ⟨h1, h2, h4⟩, h3, hb⟩ := kpN_is h
  have hk : 0 ≤ t.k ∧ t.k ≤ 18446744073709551615 := by
    have := keyOk_is hk2
    unfold keyTop keyLow at this
    omega
  obtain ⟨o1, o2, o3⟩ := oct0S_ok (b := b) (n := ordN l) (r := keyB t.k ++ (t.s1 ++ ([0] ++ (t.s2 ++ ([0] ++ (t.s3 ++ ([0] ++ (numS false 1 t.lf ++ (numS false 1 t.kv ++ (numS false 1 (t.tk.length : Int) ++ (t.tk ++ (numS l 4 t.tm ++ (List.replicate (padN (kpB l t).length) 0))))))))))))) (by
    rw [← hb, padS]
    generalize List.replicate (padN (kpB l t).length) (0 : UInt8) = Z
    rw [kpB]
    simp only [List.append_assoc, List.nil_append]) (ordN_range l)
  obtain ⟨⟨_, x0⟩, y0, ⟨_, x1⟩, y1, ⟨_, x2⟩, y2, ⟨_, x3⟩, y3, ⟨_, x4⟩, y4, ⟨_, x5⟩, y5, ⟨_, x6⟩, y6, z, _⟩ := kp_read hs h1 h2 ⟨by omega, by omega⟩ h4 o2 o1
  have rk := readK_key hk hk2
  refine ⟨?_, ?_, by rw [z]⟩
  · rw [kpRd, x0, x1, x2, x3, x5, x6, rk]
  · rw [kpRw, y0, y1, y2, y3, y5, y6, rk]
def kpD (l : Bool) (b : List UInt8) : KPart × Int := decG (kpN l) (kpRd l) kp0 b
section
variable {l : Bool} {b : List UInt8}
theorem kpD_ref (h1 : (kpN l (kpRw l b)).2 = 0) (h2 : (kpN l (kpRw l b)).1 = b) : kpD l b = (kpRw l b, 0) := decG_ref (rd' := kpRw l) (fun e => (kp_rd e).1) h1 h2
theorem kpD_bad (h1 : (kps7 l b).2 = true ∨ ¬ (kpN l (kpRw l b)).2 = 0 ∨ ¬ (kpN l (kpRw l b)).1 = b) : kpD l b = (kp0, 100) :=
  decG_bad (rd' := kpRw l) (bad := fun b => (kps7 l b).2) (fun e => ⟨(kp_rd e).2.1, (kp_rd e).2.2⟩) h1
theorem kpD_trip {t : KPart} (h : kpN l t = (b, 0)) : kpD l b = (t, 0) := decG_trip (fun e => (kp_rd e).1) h
end
end Go.Sx

/-
  What is sealed and opened, as plain functions: for every input.
-/
namespace Go.Sx
def sealS (kd k : Int) (N : List UInt8 × Int) : List UInt8 × Int := if N.2 = 0 then makeS kd k N.1 else ([], N.2)
theorem sealS_yes {kd k : Int} {N : List UInt8 × Int} (h : N.2 = 0) : sealS kd k N = makeS kd k N.1 := by rw [sealS, if_pos h]
theorem sealS_no {kd k : Int} {N : List UInt8 × Int} (h : ¬ N.2 = 0) : sealS kd k N = ([], N.2) := by rw [sealS, if_neg h]
theorem tickN_len (li : Bool) (x y z : List UInt8) (ad se lf is : Int) (sn si : List UInt8) : (tickN li x y z ad se lf is sn si).1.length ≤ 224 := by
  by_cases h : tickC x y z ad se lf is sn si = 0
  · rw [tickN_ok h]; exact (tickE_len h).2
  · rw [tickN_no h]; simp
def openT (b : List UInt8) (k : Int) : TickT × Int := if (boxO b 1 k).2 = true then tickD (boxO b 1 k).1 else (tick0, 31)
theorem openT_no {b : List UInt8} {k : Int} (h : (boxO b 1 k).2 = false) : openT b k = (tick0, 31) := by rw [openT, if_neg (by rw [h]; decide)]
theorem openT_yes {b : List UInt8} {k : Int} (h : (boxO b 1 k).2 = true) : openT b k = tickD (boxO b 1 k).1 := by rw [openT, if_pos h]
end Go.Sx

/-
  What caches of credentials are, as plain functions: for every input.
-/
namespace Go.Sx
structure CR where
  x : List UInt8
  y : List UInt8
  z : List UInt8
  k : Int
  lf : Int
  kv : Int
  is : Int
  t : List UInt8
/-- what a valid credential is -/
def crR0 (s : CR) : Prop := (0 ≤ s.lf ∧ s.lf ≤ 255) ∧ (0 ≤ s.kv ∧ s.kv ≤ 255) ∧ (0 ≤ s.is ∧ s.is ≤ 4294967295)
instance (s : CR) : Decidable (crR0 s) := by unfold crR0; infer_instance
/-- when a lifetime ends -/
def endS (is lf : Int) : Int := if (0 ≤ is ∧ is ≤ 4294967295) ∧ (0 ≤ lf ∧ lf ≤ 255) then is + 300 * (lf + 1) else 0
theorem endS_yes {is lf : Int} (h : (0 ≤ is ∧ is ≤ 4294967295) ∧ (0 ≤ lf ∧ lf ≤ 255)) : endS is lf = is + 300 * (lf + 1) := by rw [endS, if_pos h]
theorem endS_no {is lf : Int} (h : ¬ ((0 ≤ is ∧ is ≤ 4294967295) ∧ (0 ≤ lf ∧ lf ≤ 255))) : endS is lf = 0 := by rw [endS, if_neg h]
end Go.Sx

/-
  The ticket that a record becomes, as a plain function: for every input.
-/
set_option linter.all false
namespace Go.Sx
def lifeV (n : Int) : Int := if n < 300 then 0 else (if 255 < n / 300 - 1 then 255 else n / 300 - 1)
def convS (x y z u v : List UInt8) (se st en ad : Int) : TickT × Bool :=
  if 0 ≤ st ∧ st ≤ en ∧ 300 ≤ en - st ∧ tickC x y z ad se (lifeV (en - st)) st u v = 0 then ((false, x, y, z, ad, se, lifeV (en - st), st, u, v), true) else (tick0, false)
theorem convS_yes {x y z u v : List UInt8} {se st en ad : Int} (h1 : 0 ≤ st ∧ st ≤ en ∧ 300 ≤ en - st) (h2 : tickC x y z ad se (lifeV (en - st)) st u v = 0) : convS x y z u v se st en ad = ((false, x, y, z, ad, se, lifeV (en - st), st, u, v), true) := by
  rw [convS, if_pos ⟨h1.1, h1.2.1, h1.2.2, h2⟩]
theorem convS_no {x y z u v : List UInt8} {se st en ad : Int} (h : ¬ (0 ≤ st ∧ st ≤ en ∧ 300 ≤ en - st)) : convS x y z u v se st en ad = (tick0, false) := by
  rw [convS, if_neg (fun hh => h ⟨hh.1, hh.2.1, hh.2.2.1⟩)]
theorem convS_bad {x y z u v : List UInt8} {se st en ad : Int} (h : ¬ tickC x y z ad se (lifeV (en - st)) st u v = 0) : convS x y z u v se st en ad = (tick0, false) := by
  rw [convS, if_neg (fun hh => h hh.2.2.2)]
end Go.Sx

/-
  What a converter answers, as plain functions: for every input.
-/
set_option linter.all false
namespace Go.Sx
structure VArg where
  (r : List UInt8)
  (l : List DE)
  (now : Int)
  (b : List UInt8)
structure VIss where
  (kd : Int)
  (v1 v2 v3 c1 c2 c3 s1 s2 s3 : List UInt8)
  (k : Int)
  (bx : List UInt8)
  (is en : Int)
def vi0 : VIss := ⟨0, [], [], [], [], [], [], [], [], [], 0, [], 0, 0⟩
def vSv (a : VArg) : Int × Int := dbU (fmD a.b).1.n1 (fmD a.b).1.n2 a.l a.now (bitOn 2) 2 6
def vEn (a : VArg) : DE := a.l.getD (vSv a).1.toNat de0
def vBo (a : VArg) : List UInt8 × Bool := boxO (fmD a.b).1.bx 9 (vEn a).k
def vRd (a : VArg) : FRec × Int := frD (vBo a).1
def vF (a : VArg) : (FRec × DE) × Bool :=
  if ¬ ((fmD a.b).2 = 0) then ((fr0, de0), false) else
  if ¬ ((fmD a.b).1.op = 2 ∧ (fmD a.b).1.n3 = a.r) then ((fr0, de0), false) else
  if ¬ ((vSv a).2 = 0) then ((fr0, de0), false) else
  if ¬ ((vBo a).2 = true) then ((fr0, de0), false) else
  if ¬ ((vRd a).2 = 0) then ((fr0, de0), false) else
  if ¬ (((vRd a).1.s1 = (fmD a.b).1.n1 ∧ (vRd a).1.s2 = (fmD a.b).1.n2 ∧ (vRd a).1.s3 = (fmD a.b).1.n3) ∧ a.now ≤ (vRd a).1.en) then ((fr0, de0), false) else
  (((vRd a).1, vEn a), true)
section
variable {a : VArg}
theorem vF_0 (h : ¬ ((fmD a.b).2 = 0)) : vF a = ((fr0, de0), false) := by
  rw [vF, if_pos h]
theorem vF_1 (h0 : (fmD a.b).2 = 0) (h : ¬ ((fmD a.b).1.op = 2 ∧ (fmD a.b).1.n3 = a.r)) : vF a = ((fr0, de0), false) := by
  rw [vF, if_neg (fun h => h h0), if_pos h]
theorem vF_2 (h0 : (fmD a.b).2 = 0) (h1 : (fmD a.b).1.op = 2 ∧ (fmD a.b).1.n3 = a.r) (h : ¬ ((vSv a).2 = 0)) : vF a = ((fr0, de0), false) := by
  rw [vF, if_neg (fun h => h h0), if_neg (fun h => h h1), if_pos h]
theorem vF_3 (h0 : (fmD a.b).2 = 0) (h1 : (fmD a.b).1.op = 2 ∧ (fmD a.b).1.n3 = a.r) (h2 : (vSv a).2 = 0) (h : ¬ ((vBo a).2 = true)) : vF a = ((fr0, de0), false) := by
  rw [vF, if_neg (fun h => h h0), if_neg (fun h => h h1), if_neg (fun h => h h2), if_pos h]
theorem vF_4 (h0 : (fmD a.b).2 = 0) (h1 : (fmD a.b).1.op = 2 ∧ (fmD a.b).1.n3 = a.r) (h2 : (vSv a).2 = 0) (h3 : (vBo a).2 = true) (h : ¬ ((vRd a).2 = 0)) : vF a = ((fr0, de0), false) := by
  rw [vF, if_neg (fun h => h h0), if_neg (fun h => h h1), if_neg (fun h => h h2), if_neg (fun h => h h3), if_pos h]
theorem vF_5 (h0 : (fmD a.b).2 = 0) (h1 : (fmD a.b).1.op = 2 ∧ (fmD a.b).1.n3 = a.r) (h2 : (vSv a).2 = 0) (h3 : (vBo a).2 = true) (h4 : (vRd a).2 = 0) (h : ¬ (((vRd a).1.s1 = (fmD a.b).1.n1 ∧ (vRd a).1.s2 = (fmD a.b).1.n2 ∧ (vRd a).1.s3 = (fmD a.b).1.n3) ∧ a.now ≤ (vRd a).1.en)) : vF a = ((fr0, de0), false) := by
  rw [vF, if_neg (fun h => h h0), if_neg (fun h => h h1), if_neg (fun h => h h2), if_neg (fun h => h h3), if_neg (fun h => h h4), if_pos h]
theorem vF_ok (h0 : (fmD a.b).2 = 0) (h1 : (fmD a.b).1.op = 2 ∧ (fmD a.b).1.n3 = a.r) (h2 : (vSv a).2 = 0) (h3 : (vBo a).2 = true) (h4 : (vRd a).2 = 0) (h5 : ((vRd a).1.s1 = (fmD a.b).1.n1 ∧ (vRd a).1.s2 = (fmD a.b).1.n2 ∧ (vRd a).1.s3 = (fmD a.b).1.n3) ∧ a.now ≤ (vRd a).1.en) : vF a = (((vRd a).1, vEn a), true) := by
  rw [vF, if_neg (fun h => h h0), if_neg (fun h => h h1), if_neg (fun h => h h2), if_neg (fun h => h h3), if_neg (fun h => h h4), if_neg (fun h => h h5)]
theorem vF_is (h : (vF a).2 = true) : vF a = (((vRd a).1, vEn a), true) ∧ ((fmD a.b).2 = 0) ∧ ((fmD a.b).1.op = 2 ∧ (fmD a.b).1.n3 = a.r) ∧ ((vSv a).2 = 0) ∧ ((vBo a).2 = true) ∧ ((vRd a).2 = 0) ∧ (((vRd a).1.s1 = (fmD a.b).1.n1 ∧ (vRd a).1.s2 = (fmD a.b).1.n2 ∧ (vRd a).1.s3 = (fmD a.b).1.n3) ∧ a.now ≤ (vRd a).1.en) := by
  by_cases h0 : (fmD a.b).2 = 0
  case neg => rw [vF_0 h0] at h; cases h
  by_cases h1 : (fmD a.b).1.op = 2 ∧ (fmD a.b).1.n3 = a.r
  case neg => rw [vF_1 h0 h1] at h; cases h
  by_cases h2 : (vSv a).2 = 0
  case neg => rw [vF_2 h0 h1 h2] at h; cases h
  by_cases h3 : (vBo a).2 = true
  case neg => rw [vF_3 h0 h1 h2 h3] at h; cases h
  by_cases h4 : (vRd a).2 = 0
  case neg => rw [vF_4 h0 h1 h2 h3 h4] at h; cases h
  by_cases h5 : ((vRd a).1.s1 = (fmD a.b).1.n1 ∧ (vRd a).1.s2 = (fmD a.b).1.n2 ∧ (vRd a).1.s3 = (fmD a.b).1.n3) ∧ a.now ≤ (vRd a).1.en
  case neg => rw [vF_5 h0 h1 h2 h3 h4 h5] at h; cases h
  exact ⟨vF_ok h0 h1 h2 h3 h4 h5, h0 , h1 , h2 , h3 , h4 , h5⟩
end
/-- a record and its service's entry, as they come out -/
def vGood (R : FRec) (E : DE) : Prop := (frN R).2 = 0 ∧ keyOk E.k = true ∧ (0 ≤ E.kv ∧ E.kv ≤ 255)
theorem vF_good {a : VArg} (h : (vF a).2 = true) (hkv : ∀ e ∈ a.l, 0 ≤ e.kv ∧ e.kv ≤ 255) : vGood (vF a).1.1 (vF a).1.2 := by
  obtain ⟨e, _, _, h2, _, h4, _⟩ := vF_is h
  rw [e]
  obtain ⟨i, i1, i2, _, _, i5⟩ := dbU_at (by decide) (by decide) h2
  have q : vEn a = a.l.getD i de0 := by rw [vEn, show (vSv a).1 = (i : Int) from i2, Int.toNat_natCast]
  obtain ⟨r1, r2⟩ := decG_is (N := frN) (rd := frRu) (z := fr0) h4
  refine ⟨?_, ?_, ?_⟩
  · show (frN (vRd a).1).2 = 0
    rw [vRd, frD, r2, r1]
  · show keyOk (vEn a).k = true
    rw [q]; exact i5
  · show 0 ≤ (vEn a).kv ∧ (vEn a).kv ≤ 255
    rw [q]; exact hkv _ (getD_mem (d := de0) i1)
def rLf (R : FRec) : Int := lifeV (R.en - R.st)
def rOk (R : FRec) : Prop := (0 ≤ R.st ∧ R.st ≤ R.en ∧ 300 ≤ R.en - R.st) ∧ tickC R.c1 R.c2 R.c3 R.ad R.k (rLf R) R.st R.s1 R.s2 = 0
instance (R : FRec) : Decidable (rOk R) := by unfold rOk; infer_instance
def rT (R : FRec) : List UInt8 := tickE false R.c1 R.c2 R.c3 R.ad R.k (rLf R) R.st R.s1 R.s2
def rSl (R : FRec) (E : DE) : List UInt8 := boxB 1 E.k (rT R)
def rPt (R : FRec) (E : DE) : KPart := ⟨R.k, R.s1, R.s2, R.s3, rLf R, E.kv, rSl R E, R.st⟩
def rBx (R : FRec) (E : DE) : List UInt8 := boxB 3 R.k (padS (kpB false (rPt R E)))
def rMs (R : FRec) (E : DE) : FMsg := ⟨3, R.s1, R.s2, R.s3, rBx R E⟩
def rMsg (R : FRec) (E : DE) : List UInt8 := fmB (rMs R E)
def rIs (r : List UInt8) (R : FRec) (E : DE) : VIss := ⟨6, [107, 114, 98, 116, 103, 116], r, r, R.c1, R.c2, R.c3, R.s1, R.s2, R.s3, R.k, rSl R E, R.st, endS R.st (rLf R)⟩
theorem conv_yes {R : FRec} (h : rOk R) : convS R.c1 R.c2 R.c3 R.s1 R.s2 R.k R.st R.en R.ad = ((false, R.c1, R.c2, R.c3, R.ad, R.k, rLf R, R.st, R.s1, R.s2), true) := convS_yes h.1 h.2
theorem conv_no {R : FRec} (h : ¬ rOk R) : convS R.c1 R.c2 R.c3 R.s1 R.s2 R.k R.st R.en R.ad = (tick0, false) := by
  by_cases h1 : 0 ≤ R.st ∧ R.st ≤ R.en ∧ 300 ≤ R.en - R.st
  · exact convS_bad (fun h2 => h ⟨h1, h2⟩)
  · exact convS_no h1
theorem lifeV_range (n : Int) (h : 300 ≤ n) : 0 ≤ lifeV n ∧ lifeV n ≤ 255 ∧ 300 * (lifeV n + 1) ≤ n := by
  unfold lifeV
  split
  · omega
  · split <;> omega
/-- what the steps of an answer come to -/
theorem r_steps {R : FRec} {E : DE} (hg : vGood R E) (h : rOk R) :
    tickN false R.c1 R.c2 R.c3 R.ad R.k (rLf R) R.st R.s1 R.s2 = (rT R, 0) ∧ makeS 1 E.k (rT R) = (rSl R E, 0) ∧ kpN false (rPt R E) = (padS (kpB false (rPt R E)), 0) ∧ makeS 3 R.k (padS (kpB false (rPt R E))) = (rBx R E, 0) ∧ fmN (rMs R E) = (rMsg R E, 0) ∧ (rT R).length ≤ 224 ∧ (rSl R E).length ≤ 236 ∧ (padS (kpB false (rPt R E))).length ≤ 440 ∧ (rBx R E).length ≤ 452 ∧ (rMsg R E).length ≤ 600 ∧ (0 ≤ R.k ∧ R.k ≤ 18446744073709551615) ∧ (0 ≤ E.k ∧ E.k ≤ 18446744073709551615) ∧ keyOk R.k = true := by
  obtain ⟨g1, g2, g3⟩ := hg
  obtain ⟨⟨v1, v2⟩, hk, hr, _⟩ := frN_is (t := R) (pair_of g1 rfl)
  have hk2 := class2_ok hk
  have lT : (rT R).length ≤ 224 := (tickE_len (li := false) h.2).2
  have lS : (rSl R E).length ≤ 236 := by rw [rSl, boxB_len]; omega
  have hl := lifeV_range (R.en - R.st) h.1.2.2
  have hp : kpN false (rPt R E) = (padS (kpB false (rPt R E)), 0) := kpN_ok hk2 v2 ⟨⟨hl.1, hl.2.1⟩, g3, hr.1.1⟩ (by show (rSl R E).length ≤ 255; omega)
  have lP : (padS (kpB false (rPt R E))).length ≤ 440 := by
    have := kpN_len false (rPt R E)
    rw [hp] at this
    exact this
  have lB : (rBx R E).length ≤ 452 := by rw [rBx, boxB_len]; omega
  obtain ⟨a1, a2, a3⟩ := valid_len v2
  have lM : (rMsg R E).length ≤ 600 := by
    have : (fmB (rMs R E)).length = R.s1.length + R.s2.length + R.s3.length + (rBx R E).length + 8 := fmB_len (rMs R E)
    rw [rMsg, this]
    omega
  exact ⟨tickN_ok h.2, makeS_ok (by omega) g2 (by omega), hp, makeS_ok (by omega) hk2 (by omega), fmN_ok (.inr (.inr rfl)) v2 (by show (rBx R E).length ≤ 1012; omega), lT, lS, lP, lB, lM, keyOk_range hk2, keyOk_range g2, hk2⟩
/-- what a converter answers -/
def vA (a : VArg) : (List UInt8 × VIss) × Bool := if (vF a).2 = true ∧ rOk (vF a).1.1 then ((rMsg (vF a).1.1 (vF a).1.2, rIs a.r (vF a).1.1 (vF a).1.2), true) else (([], vi0), false)
theorem vA_no {a : VArg} (h : (vF a).2 = false ∨ ¬ rOk (vF a).1.1) : vA a = (([], vi0), false) := by
  rw [vA, if_neg (fun hh => by rcases h with h | h; rw [h] at hh; exact absurd hh.1 (by decide); exact h hh.2)]
theorem vA_yes {a : VArg} (h : (vF a).2 = true) (h1 : rOk (vF a).1.1) : vA a = ((rMsg (vF a).1.1 (vF a).1.2, rIs a.r (vF a).1.1 (vF a).1.2), true) := by rw [vA, if_pos ⟨h, h1⟩]
theorem frR_len {R : FRec} {E : DE} (hg : vGood R E) : R.c1.length ≤ 39 ∧ R.c2.length ≤ 39 ∧ R.c3.length ≤ 39 ∧ R.s1.length ≤ 39 ∧ R.s2.length ≤ 39 ∧ R.s3.length ≤ 39 ∧ (0 ≤ R.k ∧ R.k ≤ 18446744073709551615) ∧ (0 ≤ R.st ∧ R.st ≤ 4294967295) ∧ (0 ≤ R.en ∧ R.en ≤ 4294967295) := by
  obtain ⟨g1, g2, g3⟩ := hg
  obtain ⟨⟨v1, v2⟩, hk, hr, _⟩ := frN_is (t := R) (pair_of g1 rfl)
  obtain ⟨a1, a2, a3⟩ := valid_len v1
  obtain ⟨b1, b2, b3⟩ := valid_len v2
  have := keyOk_range (class2_ok hk)
  have := hr.1.1
  have := hr.1.2.1
  unfold u32R at *
  omega
end Go.Sx

/-
  The cells of an entry of a database at any place: for every input.
-/
set_option linter.all false
namespace Go.Sx
theorem headS_deE {l : List DE} {j z : Nat} (hz : z = j * 9) {E : DE} (h0 : l.getD j de0 = E) {K : List UInt8 → List L → Prop} (h : j < l.length) (hk : K E.x (.s E.y :: .i .u64 E.k :: .i .i64 E.kv :: .i .i64 E.ex :: .i .i64 E.ml :: .i .i64 E.atr :: .i .i64 E.fl :: .i .i64 E.un :: flat deR (l.drop (j + 1)))) : headS ((flat deR l).drop z) K := by
  subst hz
  subst h0
  exact ⟨_, _, by rw [flat_at deR_len de0 h]; rfl, hk⟩
theorem dbU_F {x y : List UInt8} {l : List DE} {now : Int} {f : Int → Bool} {e1 e2 : Int} (n1 : e1 ≠ 0) (n2 : e2 ≠ 0) (h : (dbU x y l now f e1 e2).2 = 0) : (dbF x y l).2 = 0 ∧ (dbU x y l now f e1 e2).1 = (dbF x y l).1 := by
  unfold dbU at h ⊢
  split at h
  · rename_i h1; exact absurd h h1
  · rename_i h1
    rw [if_neg h1]
    refine ⟨Decidable.not_not.mp h1, ?_⟩
    split at h
    · cases h
    · rename_i h2
      rw [if_neg h2]
      split at h
      · exact absurd h n1
      · rename_i h3
        rw [if_neg h3]
        split at h
        · exact absurd h n2
        · rename_i h4
          rw [if_neg h4]
end Go.Sx

/-
  What is converted, and who can read it, as plain laws: for every input.
-/
set_option linter.all false
namespace Go.Sx
/-- the request to convert a record that is sealed with a key -/
def qMs (R : FRec) (K : Int) : FMsg := ⟨2, R.s1, R.s2, R.s3, boxB 9 K (padS (frB R))⟩
def qMsg (R : FRec) (K : Int) : List UInt8 := fmB (qMs R K)
theorem q_steps {R : FRec} {K : Int} (hR : (frN R).2 = 0) (hK : keyOk K = true) :
    frN R = (padS (frB R), 0) ∧ makeS 9 K (padS (frB R)) = (boxB 9 K (padS (frB R)), 0) ∧ fmN (qMs R K) = (qMsg R K, 0) ∧ (padS (frB R)).length ≤ 280 ∧ (boxB 9 K (padS (frB R))).length ≤ 292 ∧ (qMsg R K).length ≤ 600 ∧ (0 ≤ K ∧ K ≤ 18446744073709551615) := by
  obtain ⟨⟨v1, v2⟩, hk, hr, hb⟩ := frN_is (t := R) (pair_of hR rfl)
  obtain ⟨a1, a2, a3⟩ := valid_len v1
  obtain ⟨b1, b2, b3⟩ := valid_len v2
  have l1 : (padS (frB R)).length ≤ 280 := by
    rw [padS_len]
    have := padN_lt (frB R).length
    have := frB_len R
    omega
  have l2 : (boxB 9 K (padS (frB R))).length ≤ 292 := by rw [boxB_len]; omega
  have l3 : (qMsg R K).length ≤ 600 := by
    have : (fmB (qMs R K)).length = R.s1.length + R.s2.length + R.s3.length + (boxB 9 K (padS (frB R))).length + 8 := fmB_len (qMs R K)
    rw [qMsg, this]
    omega
  exact ⟨frN_ok ⟨v1, v2⟩ hk hr, makeS_ok (by omega) hK (by omega), fmN_ok (.inr (.inl rfl)) v2 (by show (boxB 9 K (padS (frB R))).length ≤ 1012; omega), l1, l2, l3, keyOk_range hK⟩
theorem vA_is {a : VArg} (h : (vA a).2 = true) : (vF a).2 = true ∧ rOk (vF a).1.1 := by
  unfold vA at h
  split at h
  · assumption
  · cases h
theorem q_answer {R : FRec} {K : Int} (hR : (frN R).2 = 0) (hK : keyOk K = true) {r : List UInt8} {l : List DE} {now : Int} (h : (vA ⟨r, l, now, qMsg R K⟩).2 = true) :
    rOk R ∧ (l.getD (dbF R.s1 R.s2 l).1.toNat de0).k = K ∧ vA ⟨r, l, now, qMsg R K⟩ = ((rMsg R (l.getD (dbF R.s1 R.s2 l).1.toNat de0), rIs r R (l.getD (dbF R.s1 R.s2 l).1.toNat de0)), true) := by
  obtain ⟨e1, e2, e3, l1, l2, l3, k1⟩ := q_steps hR hK
  have hd : fmD (qMsg R K) = (qMs R K, 0) := fmD_trip e3
  obtain ⟨h1, h2⟩ := vA_is h
  obtain ⟨f0, _, _, f3, f4, _, _⟩ := vF_is h1
  have hy := vA_yes h1 h2
  rw [f0] at h2 hy
  have eB : vBo ⟨r, l, now, qMsg R K⟩ = boxO (boxB 9 K (padS (frB R))) 9 (vEn ⟨r, l, now, qMsg R K⟩).k := by
    rw [vBo]
    show boxO (fmD (qMsg R K)).1.bx 9 _ = _
    rw [hd]
    rfl
  have eS : vSv ⟨r, l, now, qMsg R K⟩ = dbU R.s1 R.s2 l now (bitOn 2) 2 6 := by
    rw [vSv]
    show dbU (fmD (qMsg R K)).1.n1 (fmD (qMsg R K)).1.n2 l now _ _ _ = _
    rw [hd]
    rfl
  have eE : vEn ⟨r, l, now, qMsg R K⟩ = l.getD (dbF R.s1 R.s2 l).1.toNat de0 := by
    rw [vEn, eS]
    rw [eS] at f3
    rw [(dbU_F (by decide) (by decide) f3).2]
  rw [eE] at eB hy
  rw [eB] at f4
  have kk := (boxO_is f4).2.2.2.1
  rw [boxR_boxB (by omega) k1 hK (by omega)] at kk
  dsimp only at kk
  rw [← kk, boxO_boxB (by omega) k1 hK (by omega)] at eB
  have eR : vRd ⟨r, l, now, qMsg R K⟩ = (R, 0) := by rw [vRd, eB]; exact frD_trip e1
  rw [eR] at h2 hy
  exact ⟨h2, kk.symm, hy⟩
/-- what is in an answer, and with which key it opens -/
theorem r_opens {R : FRec} {E : DE} (hg : vGood R E) (h : rOk R) :
    fmD (rMsg R E) = (rMs R E, 0) ∧ boxO (rBx R E) 3 R.k = (padS (kpB false (rPt R E)), true) ∧ (∀ k', ¬ R.k = k' → boxO (rBx R E) 3 k' = ([], false)) ∧ kpD false (padS (kpB false (rPt R E))) = (rPt R E, 0) ∧ openT (rSl R E) E.k = ((false, R.c1, R.c2, R.c3, R.ad, R.k, rLf R, R.st, R.s1, R.s2), 0) ∧ endS R.st (rLf R) = R.st + 300 * (rLf R + 1) ∧ (0 ≤ R.st ∧ R.st ≤ 4294967295) ∧ (0 ≤ rLf R ∧ rLf R ≤ 255) := by
  obtain ⟨e1, e2, e3, e4, e5, l1, l2, l3, l4, l5, k1, k2, k3⟩ := r_steps hg h
  have hl := lifeV_range (R.en - R.st) h.1.2.2
  have hst := (frR_len hg).2.2.2.2.2.2.2.1
  refine ⟨fmD_trip e5, boxO_boxB (by omega) k1 k3 (by omega), fun k' hk => boxO_other (by omega) k1 k3 (by omega) hk, kpD_trip e3, ?_, endS_yes ⟨hst, hl.1, hl.2.1⟩, hst, hl.1, hl.2.1⟩
  have eo : boxO (rSl R E) 1 E.k = (rT R, true) := boxO_boxB (by omega) k2 hg.2.1 (by omega)
  rw [openT_yes (by rw [eo]), eo]
  exact tickD_trip k1 h.2 rfl
end Go.Sx

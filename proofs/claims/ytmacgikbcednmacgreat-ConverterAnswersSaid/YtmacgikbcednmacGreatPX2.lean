/-
  Plain functions and laws of them: for every input.
-/
import Derived.Test.YtmacgikbcednmacGreatPX1
set_option linter.all false
/-
  Issues of version 5, and what a client accepts, as plain functions: for every input.
-/
set_option linter.all false
namespace Go.Sx
theorem dbK_at {x y : List UInt8} {l : List DE} : ∀ {n : Nat}, (dbK x y l n).2 ≠ 0 → ∃ i : Nat, i < n ∧ (dbK x y l n).1 = (i : Int) ∧ deIs x y (l.getD i de0) = true
  | 0, h => absurd rfl h
  | n + 1, h => by
    cases e : deIs x y (l.getD n de0) with
    | true => exact ⟨n, by omega, by rw [dbK_yes e], e⟩
    | false =>
      rw [dbK_no e] at h ⊢
      obtain ⟨i, h1, h2, h3⟩ := dbK_at h
      exact ⟨i, by omega, h2, h3⟩
theorem dbF_at {x y : List UInt8} {l : List DE} (h : (dbF x y l).2 = 0) : ∃ i : Nat, i < l.length ∧ (dbF x y l).1 = (i : Int) ∧ (l.getD i de0).x = x ∧ (l.getD i de0).y = y := by
  unfold dbF at h ⊢
  split at h
  · cases h
  · rename_i h1
    rw [if_neg h1]
    split at h
    · cases h
    · rename_i h2
      rw [if_neg h2]
      obtain ⟨i, h3, h4, h5⟩ := dbK_at (x := x) (y := y) (l := l) (n := l.length) h1
      simp only [deIs, Bool.and_eq_true, beq_iff_eq] at h5
      exact ⟨i, h3, h4, h5.1, h5.2⟩
theorem dbU_at {x y : List UInt8} {l : List DE} {now : Int} {f : Int → Bool} {e1 e2 : Int} (n1 : e1 ≠ 0) (n2 : e2 ≠ 0) (h : (dbU x y l now f e1 e2).2 = 0) : ∃ i : Nat, i < l.length ∧ (dbU x y l now f e1 e2).1 = (i : Int) ∧ (l.getD i de0).x = x ∧ (l.getD i de0).y = y ∧ keyOk (l.getD i de0).k = true := by
  unfold dbU at h ⊢
  split at h
  · rename_i h1; exact absurd h h1
  · rename_i h1
    rw [if_neg h1]
    obtain ⟨i, q1, q2, q3, q4⟩ := dbF_at (Decidable.not_not.mp h1)
    rw [q2, Int.toNat_natCast] at h ⊢
    split at h
    · cases h
    · rename_i h2
      rw [if_neg h2]
      split at h
      · exact absurd h n1
      · rename_i h3
        rw [if_neg h3]
        split at h
        · exact absurd h n2
        · rename_i h4
          rw [if_neg h4]
          refine ⟨i, q1, rfl, q3, q4, ?_⟩
          cases hk : keyOk (l.getD i de0).k with
          | true => rfl
          | false => exact absurd hk h2
structure FArg where
  (r : List UInt8)
  (l : List DE)
  (c1 c2 c3 s1 s2 s3 : List UInt8)
  (now sec ad k : Int)
structure FIss where
  (kd : Int)
  (v1 v2 v3 c1 c2 c3 s1 s2 s3 : List UInt8)
  (k se : Int)
  (bx : List UInt8)
  (is en : Int)
section
variable {a : FArg}
theorem frB_len (t : FRec) : (frB t).length = t.c1.length + t.c2.length + t.c3.length + t.s1.length + t.s2.length + t.s3.length + 26 := by
  simp only [frB, List.length_append, List.length_singleton, List.length_nil, List.length_cons, numS_len, keyB_len]
  omega
theorem fmB_len (t : FMsg) : (fmB t).length = t.n1.length + t.n2.length + t.n3.length + t.bx.length + 8 := by
  simp only [fmB, List.length_append, List.length_singleton, List.length_nil, List.length_cons, numS_len, keyB_len]
  omega
end
section
variable {m1 m2 m3 : List UInt8} {k : Int} {b : List UInt8}
end
theorem fmD_len (b : List UInt8) : (fmD b).1.bx.length ≤ b.length := by
  unfold fmD
  split
  · unfold decG
    split
    · show (fmRu b).bx.length ≤ _
      exact bytesS_le b _ _
    · exact Nat.zero_le _
  · exact Nat.zero_le _
end Go.Sx

/-
  What is issued is accepted with the client's key, and with no other one.
-/
set_option linter.all false
namespace Go.Sx
section
variable {a : FArg}
end
end Go.Sx

/-
  The secret part of a reply of a key distribution center, as plain functions: for every input.
-/
set_option linter.all false
namespace Go.Sx
structure KPart where
  (k : Int)
  (s1 s2 s3 : List UInt8)
  (lf kv : Int)
  (tk : List UInt8)
  (tm : Int)
def kpB (l : Bool) (t : KPart) : List UInt8 := [] ++ numS false 1 (ordN l) ++ keyB t.k ++ t.s1 ++ [0] ++ t.s2 ++ [0] ++ t.s3 ++ [0] ++ numS false 1 t.lf ++ numS false 1 t.kv ++ numS false 1 (t.tk.length : Int) ++ t.tk ++ numS l 4 t.tm
def kpR (t : KPart) : Prop := (0 ≤ t.lf ∧ t.lf ≤ 255) ∧ (0 ≤ t.kv ∧ t.kv ≤ 255) ∧ (0 ≤ t.tm ∧ t.tm ≤ 4294967295)
instance (t : KPart) : Decidable (kpR t) := by unfold kpR; infer_instance
def kpN (l : Bool) (t : KPart) : List UInt8 × Int := if keyOk t.k = true then (if validS t.s1 t.s2 t.s3 = true then (if kpR t then (if t.tk.length ≤ 255 then (padS (kpB l t), 0) else ([], 105)) else ([], 104)) else ([], 103)) else ([], 10)
theorem kpB_len (l : Bool) (t : KPart) : (kpB l t).length = t.s1.length + t.s2.length + t.s3.length + t.tk.length + 19 := by
  simp only [kpB, List.length_append, List.length_singleton, List.length_nil, List.length_cons, numS_len, keyB_len]
  omega
section
variable {l : Bool} {t : KPart}
theorem kpN_10 (h : ¬ (keyOk t.k = true)) : kpN l t = ([], 10) := by
  rw [kpN, if_neg h]
theorem kpN_103 (h0 : keyOk t.k = true) (h : ¬ (validS t.s1 t.s2 t.s3 = true)) : kpN l t = ([], 103) := by
  rw [kpN, if_pos h0, if_neg h]
theorem kpN_104 (h0 : keyOk t.k = true) (h1 : validS t.s1 t.s2 t.s3 = true) (h : ¬ (kpR t)) : kpN l t = ([], 104) := by
  rw [kpN, if_pos h0, if_pos h1, if_neg h]
theorem kpN_105 (h0 : keyOk t.k = true) (h1 : validS t.s1 t.s2 t.s3 = true) (h2 : kpR t) (h : ¬ (t.tk.length ≤ 255)) : kpN l t = ([], 105) := by
  rw [kpN, if_pos h0, if_pos h1, if_pos h2, if_neg h]
theorem kpN_ok (h0 : keyOk t.k = true) (h1 : validS t.s1 t.s2 t.s3 = true) (h2 : kpR t) (h3 : t.tk.length ≤ 255) : kpN l t = (padS (kpB l t), 0) := by
  rw [kpN, if_pos h0, if_pos h1, if_pos h2, if_pos h3]
end
theorem kpN_len (l : Bool) (t : KPart) : (kpN l t).1.length ≤ 440 := by
  by_cases h0 : keyOk t.k = true
  case neg => rw [kpN_10 h0]; exact Nat.zero_le _
  by_cases h1 : validS t.s1 t.s2 t.s3 = true
  case neg => rw [kpN_103 h0 h1]; exact Nat.zero_le _
  by_cases h2 : kpR t
  case neg => rw [kpN_104 h0 h1 h2]; exact Nat.zero_le _
  by_cases h3 : t.tk.length ≤ 255
  case neg => rw [kpN_105 h0 h1 h2 h3]; exact Nat.zero_le _
  rw [kpN_ok h0 h1 h2 h3, padS_len]
  obtain ⟨a1, a2, a3⟩ := valid_len h1
  have := padN_lt (kpB l t).length
  have := kpB_len l t
  omega
section
variable {l : Bool} {b : List UInt8}
end
end Go.Sx

/-
  What is sealed and opened, as plain functions: for every input.
-/
namespace Go.Sx
def sealS (kd k : Int) (N : List UInt8 × Int) : List UInt8 × Int := if N.2 = 0 then makeS kd k N.1 else ([], N.2)
theorem sealS_yes {kd k : Int} {N : List UInt8 × Int} (h : N.2 = 0) : sealS kd k N = makeS kd k N.1 := by rw [sealS, if_pos h]
theorem sealS_no {kd k : Int} {N : List UInt8 × Int} (h : ¬ N.2 = 0) : sealS kd k N = ([], N.2) := by rw [sealS, if_neg h]
theorem tickN_len (li : Bool) (x y z : List UInt8) (ad se lf is : Int) (sn si : List UInt8) : (tickN li x y z ad se lf is sn si).1.length ≤ 224 := by
  by_cases h : tickC x y z ad se lf is sn si = 0
  · rw [tickN_ok h]; exact (tickE_len h).2
  · rw [tickN_no h]; simp
end Go.Sx

/-
  What caches of credentials are, as plain functions: for every input.
-/
namespace Go.Sx
structure CR where
  x : List UInt8
  y : List UInt8
  z : List UInt8
  k : Int
  lf : Int
  kv : Int
  is : Int
  t : List UInt8
/-- what a valid credential is -/
def crR0 (s : CR) : Prop := (0 ≤ s.lf ∧ s.lf ≤ 255) ∧ (0 ≤ s.kv ∧ s.kv ≤ 255) ∧ (0 ≤ s.is ∧ s.is ≤ 4294967295)
instance (s : CR) : Decidable (crR0 s) := by unfold crR0; infer_instance
/-- when a lifetime ends -/
def endS (is lf : Int) : Int := if (0 ≤ is ∧ is ≤ 4294967295) ∧ (0 ≤ lf ∧ lf ≤ 255) then is + 300 * (lf + 1) else 0
theorem endS_yes {is lf : Int} (h : (0 ≤ is ∧ is ≤ 4294967295) ∧ (0 ≤ lf ∧ lf ≤ 255)) : endS is lf = is + 300 * (lf + 1) := by rw [endS, if_pos h]
theorem endS_no {is lf : Int} (h : ¬ ((0 ≤ is ∧ is ≤ 4294967295) ∧ (0 ≤ lf ∧ lf ≤ 255))) : endS is lf = 0 := by rw [endS, if_neg h]
end Go.Sx

/-
  The ticket that a record becomes, as a plain function: for every input.
-/
set_option linter.all false
namespace Go.Sx
def lifeV (n : Int) : Int := if n < 300 then 0 else (if 255 < n / 300 - 1 then 255 else n / 300 - 1)
def convS (x y z u v : List UInt8) (se st en ad : Int) : TickT × Bool :=
  if 0 ≤ st ∧ st ≤ en ∧ 300 ≤ en - st ∧ tickC x y z ad se (lifeV (en - st)) st u v = 0 then ((false, x, y, z, ad, se, lifeV (en - st), st, u, v), true) else (tick0, false)
theorem convS_yes {x y z u v : List UInt8} {se st en ad : Int} (h1 : 0 ≤ st ∧ st ≤ en ∧ 300 ≤ en - st) (h2 : tickC x y z ad se (lifeV (en - st)) st u v = 0) : convS x y z u v se st en ad = ((false, x, y, z, ad, se, lifeV (en - st), st, u, v), true) := by
  rw [convS, if_pos ⟨h1.1, h1.2.1, h1.2.2, h2⟩]
theorem convS_no {x y z u v : List UInt8} {se st en ad : Int} (h : ¬ (0 ≤ st ∧ st ≤ en ∧ 300 ≤ en - st)) : convS x y z u v se st en ad = (tick0, false) := by
  rw [convS, if_neg (fun hh => h ⟨hh.1, hh.2.1, hh.2.2.1⟩)]
theorem convS_bad {x y z u v : List UInt8} {se st en ad : Int} (h : ¬ tickC x y z ad se (lifeV (en - st)) st u v = 0) : convS x y z u v se st en ad = (tick0, false) := by
  rw [convS, if_neg (fun hh => h hh.2.2.2)]
theorem convS_late {x y z u v : List UInt8} {se st en ad : Int} (h : 4294967295 < st) : convS x y z u v se st en ad = (tick0, false) := by
  refine convS_bad fun hc => ?_
  have := (tickC_ok hc).2.2.2.2.2.2
  omega
end Go.Sx

/-
  What a converter answers, as plain functions: for every input.
-/
set_option linter.all false
namespace Go.Sx
structure VArg where
  (r : List UInt8)
  (l : List DE)
  (now : Int)
  (b : List UInt8)
structure VIss where
  (kd : Int)
  (v1 v2 v3 c1 c2 c3 s1 s2 s3 : List UInt8)
  (k : Int)
  (bx : List UInt8)
  (is en : Int)
def vi0 : VIss := ⟨0, [], [], [], [], [], [], [], [], [], 0, [], 0, 0⟩
def vSv (a : VArg) : Int × Int := dbU (fmD a.b).1.n1 (fmD a.b).1.n2 a.l a.now (bitOn 2) 2 6
def vEn (a : VArg) : DE := a.l.getD (vSv a).1.toNat de0
def vBo (a : VArg) : List UInt8 × Bool := boxO (fmD a.b).1.bx 9 (vEn a).k
def vRd (a : VArg) : FRec × Int := frD (vBo a).1
def vF (a : VArg) : (FRec × DE) × Bool :=
  if ¬ ((fmD a.b).2 = 0) then ((fr0, de0), false) else
  if ¬ ((fmD a.b).1.op = 2 ∧ (fmD a.b).1.n3 = a.r) then ((fr0, de0), false) else
  if ¬ ((vSv a).2 = 0) then ((fr0, de0), false) else
  if ¬ ((vBo a).2 = true) then ((fr0, de0), false) else
  if ¬ ((vRd a).2 = 0) then ((fr0, de0), false) else
  if ¬ (((vRd a).1.s1 = (fmD a.b).1.n1 ∧ (vRd a).1.s2 = (fmD a.b).1.n2 ∧ (vRd a).1.s3 = (fmD a.b).1.n3) ∧ a.now ≤ (vRd a).1.en) then ((fr0, de0), false) else
  (((vRd a).1, vEn a), true)
section
variable {a : VArg}
theorem vF_0 (h : ¬ ((fmD a.b).2 = 0)) : vF a = ((fr0, de0), false) := by
  rw [vF, if_pos h]
theorem vF_1 (h0 : (fmD a.b).2 = 0) (h : ¬ ((fmD a.b).1.op = 2 ∧ (fmD a.b).1.n3 = a.r)) : vF a = ((fr0, de0), false) := by
  rw [vF, if_neg (fun h => h h0), if_pos h]
theorem vF_2 (h0 : (fmD a.b).2 = 0) (h1 : (fmD a.b).1.op = 2 ∧ (fmD a.b).1.n3 = a.r) (h : ¬ ((vSv a).2 = 0)) : vF a = ((fr0, de0), false) := by
  rw [vF, if_neg (fun h => h h0), if_neg (fun h => h h1), if_pos h]
theorem vF_3 (h0 : (fmD a.b).2 = 0) (h1 : (fmD a.b).1.op = 2 ∧ (fmD a.b).1.n3 = a.r) (h2 : (vSv a).2 = 0) (h : ¬ ((vBo a).2 = true)) : vF a = ((fr0, de0), false) := by
  rw [vF, if_neg (fun h => h h0), if_neg (fun h => h h1), if_neg (fun h => h h2), if_pos h]
theorem vF_4 (h0 : (fmD a.b).2 = 0) (h1 : (fmD a.b).1.op = 2 ∧ (fmD a.b).1.n3 = a.r) (h2 : (vSv a).2 = 0) (h3 : (vBo a).2 = true) (h : ¬ ((vRd a).2 = 0)) : vF a = ((fr0, de0), false) := by
  rw [vF, if_neg (fun h => h h0), if_neg (fun h => h h1), if_neg (fun h => h h2), if_neg (fun h => h h3), if_pos h]
theorem vF_5 (h0 : (fmD a.b).2 = 0) (h1 : (fmD a.b).1.op = 2 ∧ (fmD a.b).1.n3 = a.r) (h2 : (vSv a).2 = 0) (h3 : (vBo a).2 = true) (h4 : (vRd a).2 = 0) (h : ¬ (((vRd a).1.s1 = (fmD a.b).1.n1 ∧ (vRd a).1.s2 = (fmD a.b).1.n2 ∧ (vRd a).1.s3 = (fmD a.b).1.n3) ∧ a.now ≤ (vRd a).1.en)) : vF a = ((fr0, de0), false) := by
  rw [vF, if_neg (fun h => h h0), if_neg (fun h => h h1), if_neg (fun h => h h2), if_neg (fun h => h h3), if_neg (fun h => h h4), if_pos h]
theorem vF_ok (h0 : (fmD a.b).2 = 0) (h1 : (fmD a.b).1.op = 2 ∧ (fmD a.b).1.n3 = a.r) (h2 : (vSv a).2 = 0) (h3 : (vBo a).2 = true) (h4 : (vRd a).2 = 0) (h5 : ((vRd a).1.s1 = (fmD a.b).1.n1 ∧ (vRd a).1.s2 = (fmD a.b).1.n2 ∧ (vRd a).1.s3 = (fmD a.b).1.n3) ∧ a.now ≤ (vRd a).1.en) : vF a = (((vRd a).1, vEn a), true) := by
  rw [vF, if_neg (fun h => h h0), if_neg (fun h => h h1), if_neg (fun h => h h2), if_neg (fun h => h h3), if_neg (fun h => h h4), if_neg (fun h => h h5)]
theorem vF_is (h : (vF a).2 = true) : vF a = (((vRd a).1, vEn a), true) ∧ ((fmD a.b).2 = 0) ∧ ((fmD a.b).1.op = 2 ∧ (fmD a.b).1.n3 = a.r) ∧ ((vSv a).2 = 0) ∧ ((vBo a).2 = true) ∧ ((vRd a).2 = 0) ∧ (((vRd a).1.s1 = (fmD a.b).1.n1 ∧ (vRd a).1.s2 = (fmD a.b).1.n2 ∧ (vRd a).1.s3 = (fmD a.b).1.n3) ∧ a.now ≤ (vRd a).1.en) := by
  by_cases h0 : (fmD a.b).2 = 0
  case neg => rw [vF_0 h0] at h; cases h
  by_cases h1 : (fmD a.b).1.op = 2 ∧ (fmD a.b).1.n3 = a.r
  case neg => rw [vF_1 h0 h1] at h; cases h
  by_cases h2 : (vSv a).2 = 0
  case neg => rw [vF_2 h0 h1 h2] at h; cases h
  by_cases h3 : (vBo a).2 = true
  case neg => rw [vF_3 h0 h1 h2 h3] at h; cases h
  by_cases h4 : (vRd a).2 = 0
  case neg => rw [vF_4 h0 h1 h2 h3 h4] at h; cases h
  by_cases h5 : ((vRd a).1.s1 = (fmD a.b).1.n1 ∧ (vRd a).1.s2 = (fmD a.b).1.n2 ∧ (vRd a).1.s3 = (fmD a.b).1.n3) ∧ a.now ≤ (vRd a).1.en
  case neg => rw [vF_5 h0 h1 h2 h3 h4 h5] at h; cases h
  exact ⟨vF_ok h0 h1 h2 h3 h4 h5, h0 , h1 , h2 , h3 , h4 , h5⟩
end
/-- a record and its service's entry, as they come out -/
def vGood (R : FRec) (E : DE) : Prop := (frN R).2 = 0 ∧ keyOk E.k = true ∧ (0 ≤ E.kv ∧ E.kv ≤ 255)
theorem vF_good {a : VArg} (h : (vF a).2 = true) (hkv : ∀ e ∈ a.l, 0 ≤ e.kv ∧ e.kv ≤ 255) : vGood (vF a).1.1 (vF a).1.2 := by
  obtain ⟨e, _, _, h2, _, h4, _⟩ := vF_is h
  rw [e]
  obtain ⟨i, i1, i2, _, _, i5⟩ := dbU_at (by decide) (by decide) h2
  have q : vEn a = a.l.getD i de0 := by rw [vEn, show (vSv a).1 = (i : Int) from i2, Int.toNat_natCast]
  obtain ⟨r1, r2⟩ := decG_is (N := frN) (rd := frRu) (z := fr0) h4
  refine ⟨?_, ?_, ?_⟩
  · show (frN (vRd a).1).2 = 0
    rw [vRd, frD, r2, r1]
  · show keyOk (vEn a).k = true
    rw [q]; exact i5
  · show 0 ≤ (vEn a).kv ∧ (vEn a).kv ≤ 255
    rw [q]; exact hkv _ (getD_mem (d := de0) i1)
def rLf (R : FRec) : Int := lifeV (R.en - R.st)
def rOk (R : FRec) : Prop := (0 ≤ R.st ∧ R.st ≤ R.en ∧ 300 ≤ R.en - R.st) ∧ tickC R.c1 R.c2 R.c3 R.ad R.k (rLf R) R.st R.s1 R.s2 = 0
instance (R : FRec) : Decidable (rOk R) := by unfold rOk; infer_instance
def rT (R : FRec) : List UInt8 := tickE false R.c1 R.c2 R.c3 R.ad R.k (rLf R) R.st R.s1 R.s2
def rSl (R : FRec) (E : DE) : List UInt8 := boxB 1 E.k (rT R)
def rPt (R : FRec) (E : DE) : KPart := ⟨R.k, R.s1, R.s2, R.s3, rLf R, E.kv, rSl R E, R.st⟩
def rBx (R : FRec) (E : DE) : List UInt8 := boxB 3 R.k (padS (kpB false (rPt R E)))
def rMs (R : FRec) (E : DE) : FMsg := ⟨3, R.s1, R.s2, R.s3, rBx R E⟩
def rMsg (R : FRec) (E : DE) : List UInt8 := fmB (rMs R E)
def rIs (r : List UInt8) (R : FRec) (E : DE) : VIss := ⟨6, [107, 114, 98, 116, 103, 116], r, r, R.c1, R.c2, R.c3, R.s1, R.s2, R.s3, R.k, rSl R E, R.st, endS R.st (rLf R)⟩
theorem conv_yes {R : FRec} (h : rOk R) : convS R.c1 R.c2 R.c3 R.s1 R.s2 R.k R.st R.en R.ad = ((false, R.c1, R.c2, R.c3, R.ad, R.k, rLf R, R.st, R.s1, R.s2), true) := convS_yes h.1 h.2
theorem conv_no {R : FRec} (h : ¬ rOk R) : convS R.c1 R.c2 R.c3 R.s1 R.s2 R.k R.st R.en R.ad = (tick0, false) := by
  by_cases h1 : 0 ≤ R.st ∧ R.st ≤ R.en ∧ 300 ≤ R.en - R.st
  · exact convS_bad (fun h2 => h ⟨h1, h2⟩)
  · exact convS_no h1
theorem lifeV_range (n : Int) (h : 300 ≤ n) : 0 ≤ lifeV n ∧ lifeV n ≤ 255 ∧ 300 * (lifeV n + 1) ≤ n := by
  unfold lifeV
  split
  · omega
  · split <;> omega
/-- what the steps of an answer come to -/
theorem r_steps {R : FRec} {E : DE} (hg : vGood R E) (h : rOk R) :
    tickN false R.c1 R.c2 R.c3 R.ad R.k (rLf R) R.st R.s1 R.s2 = (rT R, 0) ∧ makeS 1 E.k (rT R) = (rSl R E, 0) ∧ kpN false (rPt R E) = (padS (kpB false (rPt R E)), 0) ∧ makeS 3 R.k (padS (kpB false (rPt R E))) = (rBx R E, 0) ∧ fmN (rMs R E) = (rMsg R E, 0) ∧ (rT R).length ≤ 224 ∧ (rSl R E).length ≤ 236 ∧ (padS (kpB false (rPt R E))).length ≤ 440 ∧ (rBx R E).length ≤ 452 ∧ (rMsg R E).length ≤ 600 ∧ (0 ≤ R.k ∧ R.k ≤ 18446744073709551615) ∧ (0 ≤ E.k ∧ E.k ≤ 18446744073709551615) ∧ keyOk R.k = true := by
  obtain ⟨g1, g2, g3⟩ := hg
  obtain ⟨⟨v1, v2⟩, hk, hr, _⟩ := frN_is (t := R) (pair_of g1 rfl)
  have hk2 := class2_ok hk
  have lT : (rT R).length ≤ 224 := (tickE_len (li := false) h.2).2
  have lS : (rSl R E).length ≤ 236 := by rw [rSl, boxB_len]; omega
  have hl := lifeV_range (R.en - R.st) h.1.2.2
  have hp : kpN false (rPt R E) = (padS (kpB false (rPt R E)), 0) := kpN_ok hk2 v2 ⟨⟨hl.1, hl.2.1⟩, g3, hr.1.1⟩ (by show (rSl R E).length ≤ 255; omega)
  have lP : (padS (kpB false (rPt R E))).length ≤ 440 := by
    have := kpN_len false (rPt R E)
    rw [hp] at this
    exact this
  have lB : (rBx R E).length ≤ 452 := by rw [rBx, boxB_len]; omega
  obtain ⟨a1, a2, a3⟩ := valid_len v2
  have lM : (rMsg R E).length ≤ 600 := by
    have : (fmB (rMs R E)).length = R.s1.length + R.s2.length + R.s3.length + (rBx R E).length + 8 := fmB_len (rMs R E)
    rw [rMsg, this]
    omega
  exact ⟨tickN_ok h.2, makeS_ok (by omega) g2 (by omega), hp, makeS_ok (by omega) hk2 (by omega), fmN_ok (.inr (.inr rfl)) v2 (by show (rBx R E).length ≤ 1012; omega), lT, lS, lP, lB, lM, keyOk_range hk2, keyOk_range g2, hk2⟩
/-- what a converter answers -/
def vA (a : VArg) : (List UInt8 × VIss) × Bool := if (vF a).2 = true ∧ rOk (vF a).1.1 then ((rMsg (vF a).1.1 (vF a).1.2, rIs a.r (vF a).1.1 (vF a).1.2), true) else (([], vi0), false)
theorem vA_no {a : VArg} (h : (vF a).2 = false ∨ ¬ rOk (vF a).1.1) : vA a = (([], vi0), false) := by
  rw [vA, if_neg (fun hh => by rcases h with h | h; rw [h] at hh; exact absurd hh.1 (by decide); exact h hh.2)]
theorem vA_yes {a : VArg} (h : (vF a).2 = true) (h1 : rOk (vF a).1.1) : vA a = ((rMsg (vF a).1.1 (vF a).1.2, rIs a.r (vF a).1.1 (vF a).1.2), true) := by rw [vA, if_pos ⟨h, h1⟩]
theorem frR_len {R : FRec} {E : DE} (hg : vGood R E) : R.c1.length ≤ 39 ∧ R.c2.length ≤ 39 ∧ R.c3.length ≤ 39 ∧ R.s1.length ≤ 39 ∧ R.s2.length ≤ 39 ∧ R.s3.length ≤ 39 ∧ (0 ≤ R.k ∧ R.k ≤ 18446744073709551615) ∧ (0 ≤ R.st ∧ R.st ≤ 4294967295) ∧ (0 ≤ R.en ∧ R.en ≤ 4294967295) := by
  obtain ⟨g1, g2, g3⟩ := hg
  obtain ⟨⟨v1, v2⟩, hk, hr, _⟩ := frN_is (t := R) (pair_of g1 rfl)
  obtain ⟨a1, a2, a3⟩ := valid_len v1
  obtain ⟨b1, b2, b3⟩ := valid_len v2
  have := keyOk_range (class2_ok hk)
  have := hr.1.1
  have := hr.1.2.1
  unfold u32R at *
  omega
end Go.Sx

/-
  The cells of an entry of a database at any place: for every input.
-/
set_option linter.all false
namespace Go.Sx
theorem headS_deE {l : List DE} {j z : Nat} (hz : z = j * 9) {E : DE} (h0 : l.getD j de0 = E) {K : List UInt8 → List L → Prop} (h : j < l.length) (hk : K E.x (.s E.y :: .i .u64 E.k :: .i .i64 E.kv :: .i .i64 E.ex :: .i .i64 E.ml :: .i .i64 E.atr :: .i .i64 E.fl :: .i .i64 E.un :: flat deR (l.drop (j + 1)))) : headS ((flat deR l).drop z) K := by
  subst hz
  subst h0
  exact ⟨_, _, by rw [flat_at deR_len de0 h]; rfl, hk⟩
theorem headI_deK {l : List DE} {j z : Nat} (hz : z = j * 9 + 2) {E : DE} (hE : l.getD j de0 = E) (h : j < l.length) {K : Int → List L → Prop} (hk : ∀ r, K E.k r) : headI .u64 ((flat deR l).drop z) K := by
  subst hz
  exact ⟨_, _, by rw [← List.drop_drop, flat_at deR_len de0 h, hE]; rfl, hk _⟩
theorem headI_deV {l : List DE} {j z : Nat} (hz : z = j * 9 + 3) {E : DE} (hE : l.getD j de0 = E) (h : j < l.length) {K : Int → List L → Prop} (hk : ∀ r, K E.kv r) : headI .i64 ((flat deR l).drop z) K := by
  subst hz
  exact ⟨_, _, by rw [← List.drop_drop, flat_at deR_len de0 h, hE]; rfl, hk _⟩
theorem headI_deKK {l : List DE} {j z f : Nat} (hz : z = j * 9) (hf : f = 2) {E : DE} (hE : l.getD j de0 = E) (h : j < l.length) {K : Int → List L → Prop} (hk : ∀ r, K E.k r) : headI .u64 (((flat deR l).drop z).drop f) K := by
  subst hz
  subst hf
  exact ⟨_, _, by rw [flat_at deR_len de0 h, hE]; rfl, hk _⟩
theorem headI_deVV {l : List DE} {j z f : Nat} (hz : z = j * 9) (hf : f = 3) {E : DE} (hE : l.getD j de0 = E) (h : j < l.length) {K : Int → List L → Prop} (hk : ∀ r, K E.kv r) : headI .i64 (((flat deR l).drop z).drop f) K := by
  subst hz
  subst hf
  exact ⟨_, _, by rw [flat_at deR_len de0 h, hE]; rfl, hk _⟩
end Go.Sx

/-
  What is converted, and who can read it, as plain laws: for every input.
-/
set_option linter.all false
namespace Go.Sx
theorem vA_is {a : VArg} (h : (vA a).2 = true) : (vF a).2 = true ∧ rOk (vF a).1.1 := by
  unfold vA at h
  split at h
  · assumption
  · cases h
end Go.Sx

/-
  The caches that the laws make, as plain functions: for every input.
-/
namespace Go.Sx
theorem range_getD {n i : Nat} (h : i < n) : (List.range n).getD i 0 = i := by
  rw [List.getD_eq_getElem?_getD, List.getElem?_range h]; rfl
/-- a cache that is too long for the laws -/
def crLgE (s : CR) : Prop := 100 < s.x.length ∨ 100 < s.y.length ∨ 100 < s.z.length ∨ 400 < s.t.length
instance (s : CR) : Decidable (crLgE s) := by unfold crLgE; infer_instance
end Go.Sx

/-
  Lists that grow by an entry a step, as plain functions: for every input.
-/
namespace Go.Sx
theorem ent_ok {x y : List UInt8} {k kv ex ml atr fl un : Int} (hx : nameS x = true) (hy : instS y = true) (hk : k = 0 ∨ keyOk k = true) (h1 : 0 ≤ kv ∧ kv ≤ 255) (h2 : 0 ≤ ex ∧ ex ≤ 4294967295) (h3 : 0 ≤ un ∧ un ≤ 4294967295) (h4 : 0 ≤ ml ∧ ml ≤ 255) (h5 : 0 ≤ atr ∧ atr ≤ 3) (h6 : 0 ≤ fl ∧ fl ≤ 20) : deV ⟨x, y, k, kv, ex, ml, atr, fl, un⟩ :=
  deC_4 hx hy hk ⟨⟨h1, h2, h3⟩, h4, h5, h6⟩
theorem user_parts (n : Int) : nameS (userN n) = true := by
  have := user_valid n 0
  unfold validS at this
  simp only [Bool.and_eq_true] at this
  exact this.1
theorem inst_nil : instS [] = true := by decide +kernel
theorem attr_range {a b : Int} (ha : 0 ≤ a ∧ a < 5) (hb : 0 ≤ b ∧ b < 4) : 0 ≤ a / 4 * b ∧ a / 4 * b ≤ 3 := by
  have h1 : a / 4 = 0 ∨ a / 4 = 1 := by omega
  rcases h1 with h1 | h1
  · rw [h1]; omega
  · rw [h1]; omega
section
variable (E : Nat → DE) (P : Nat → Nat)
def genP : Nat → Nat
  | 0 => 0
  | j + 1 => P (genP j)
def genO : Nat → List DE
  | 0 => []
  | j + 1 => insD (E (genP P j)) (genO j)
def genN (n : Nat) : Nat := (List.range 61).findIdx fun j => decide (¬ (genP P j < n ∧ j < 60))
end
section
variable {E : Nat → DE} {P : Nat → Nat}
theorem genN_at {n j : Nat} (hj : j ≤ 60) (h : ∀ i, i < j → genP P i < n) (h2 : ¬ (genP P j < n ∧ j < 60)) : genN P n = j := by
  refine find_at 0 (by simp; omega) (fun i hi => ?_) ?_
  · rw [range_getD (by omega)]
    have := h i hi
    exact decide_eq_false (fun hh => hh ⟨this, by omega⟩)
  · rw [range_getD (by omega)]; exact decide_eq_true h2
theorem genN_le (n : Nat) : genN P n ≤ 60 := by
  have h : genN P n < 61 := by
    by_cases h : genN P n < (List.range 61).length
    · simpa using h
    · exfalso
      have := find_miss (p := fun j => decide (¬ (genP P j < n ∧ j < 60))) (l := List.range 61) (i := 60) 0 (by
        show 60 < genN P n
        have : (List.range 61).length = 61 := List.length_range
        omega)
      rw [range_getD (by omega)] at this
      have := of_decide_eq_false this
      omega
  omega
theorem genO_len : ∀ j, (genO E P j).length = j
  | 0 => rfl
  | j + 1 => by rw [genO, insD_len, genO_len j]
theorem genO_ok {r : List UInt8} (hr : realmS r = true) (hE : ∀ k, deV (E k)) : ∀ j, j ≤ 60 → dbC r (genO E P j) = 0
  | 0, _ => dbC_mk hr (by simp [genO]) (by simp [genO]) (by intro i hi; simp [genO] at hi)
  | j + 1, h => insD_ok (genO_ok hr hE j (by omega)) (hE _) (by rw [genO_len]; omega)
end
/-- one more entry than a list has before a place -/
theorem less_iff {s t : DE} (h : Op.bytesLess s.x t.x = true) : ¬ 0 < deO s t := by have := (deO_lt (s := s) (t := t)).2 (.inl h); omega
theorem less_iff2 {s t : DE} (h : s.x = t.x) (h2 : Op.bytesLess s.y t.y = true) : ¬ 0 < deO s t := by have := (deO_lt (s := s) (t := t)).2 (.inr ⟨h, h2⟩); omega
theorem less_iff3 {s t : DE} (h : s.x = t.x) (h2 : s.y = t.y) : ¬ 0 < deO s t := by have := (deO_zero (s := s) (t := t)).2 ⟨h, h2⟩; omega
theorem more_iff {s t : DE} (h : Op.bytesLess s.x t.x = false) (h2 : ¬ s.x = t.x) : 0 < deO s t := by
  have h3 : ¬ deO s t < 0 := fun hh => by
    rcases deO_lt.1 hh with h4 | h4
    · rw [h] at h4; cases h4
    · exact h2 h4.1
  have h4 : ¬ deO s t = 0 := fun hh => h2 (deO_zero.1 hh).1
  omega
theorem more_iff2 {s t : DE} (h : Op.bytesLess s.x t.x = false) (h2 : Op.bytesLess s.y t.y = false) (h3 : ¬ s.y = t.y) : 0 < deO s t := by
  have h4 : ¬ deO s t < 0 := fun hh => by
    rcases deO_lt.1 hh with h4 | h4
    · rw [h] at h4; cases h4
    · rw [h2] at h4; cases h4.2
  have h5 : ¬ deO s t = 0 := fun hh => h3 (deO_zero.1 hh).2
  omega
theorem take_all {O : List DE} {i : Nat} : (flat deR (O.drop i)).take ((O.length - i) * 9) = flat deR (O.drop i) := List.take_of_length_le (by rw [flat_len deR_len, List.length_drop]; omega)
end Go.Sx

/-
  What files with the keys of services are, as plain functions: for every input.
-/
namespace Go.Sx
structure SK where
  x : List UInt8
  y : List UInt8
  z : List UInt8
  n : Int
  k : Int
/-- the document's reader at an element -/
structure SkR where
  k1 : Int
  k2 : Int
  k3 : Int
  b3 : Bool
  k4 : Int
  b4 : Bool
  k5 : Int
  b5 : Bool
  s : SK
end Go.Sx

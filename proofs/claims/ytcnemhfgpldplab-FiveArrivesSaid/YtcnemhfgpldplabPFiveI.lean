/-
  Issues of version 5, and what a client accepts, as plain functions: for every input.
-/
import Derived.Test.YtcnemhfgpldplabPFive
import Derived.Test.YtcnemhfgpldplabPDbB
import Derived.Test.YtcnemhfgpldplabPBox
set_option linter.all false
set_option linter.all false
namespace Go.Sx
theorem dbK_at {x y : List UInt8} {l : List DE} : ∀ {n : Nat}, (dbK x y l n).2 ≠ 0 → ∃ i : Nat, i < n ∧ (dbK x y l n).1 = (i : Int) ∧ deIs x y (l.getD i de0) = true
  | 0, h => absurd rfl h
  | n + 1, h => by
    cases e : deIs x y (l.getD n de0) with
    | true => exact ⟨n, by omega, by rw [dbK_yes e], e⟩
    | false =>
      rw [dbK_no e] at h ⊢
      obtain ⟨i, h1, h2, h3⟩ := dbK_at h
      exact ⟨i, by omega, h2, h3⟩
theorem dbF_at {x y : List UInt8} {l : List DE} (h : (dbF x y l).2 = 0) : ∃ i : Nat, i < l.length ∧ (dbF x y l).1 = (i : Int) ∧ (l.getD i de0).x = x ∧ (l.getD i de0).y = y := by
  unfold dbF at h ⊢
  split at h
  · cases h
  · rename_i h1
    rw [if_neg h1]
    split at h
    · cases h
    · rename_i h2
      rw [if_neg h2]
      obtain ⟨i, h3, h4, h5⟩ := dbK_at (x := x) (y := y) (l := l) (n := l.length) h1
      simp only [deIs, Bool.and_eq_true, beq_iff_eq] at h5
      exact ⟨i, h3, h4, h5.1, h5.2⟩
theorem dbU_at {x y : List UInt8} {l : List DE} {now : Int} {f : Int → Bool} {e1 e2 : Int} (n1 : e1 ≠ 0) (n2 : e2 ≠ 0) (h : (dbU x y l now f e1 e2).2 = 0) : ∃ i : Nat, i < l.length ∧ (dbU x y l now f e1 e2).1 = (i : Int) ∧ (l.getD i de0).x = x ∧ (l.getD i de0).y = y ∧ keyOk (l.getD i de0).k = true := by
  unfold dbU at h ⊢
  split at h
  · rename_i h1; exact absurd h h1
  · rename_i h1
    rw [if_neg h1]
    obtain ⟨i, q1, q2, q3, q4⟩ := dbF_at (Decidable.not_not.mp h1)
    rw [q2, Int.toNat_natCast] at h ⊢
    split at h
    · cases h
    · rename_i h2
      rw [if_neg h2]
      split at h
      · exact absurd h n1
      · rename_i h3
        rw [if_neg h3]
        split at h
        · exact absurd h n2
        · rename_i h4
          rw [if_neg h4]
          refine ⟨i, q1, rfl, q3, q4, ?_⟩
          cases hk : keyOk (l.getD i de0).k with
          | true => rfl
          | false => exact absurd hk h2
def leS (e ex : Int) : Int := if ex ≠ 0 ∧ ex < e then ex else e
structure FArg where
  (r : List UInt8)
  (l : List DE)
  (c1 c2 c3 s1 s2 s3 : List UInt8)
  (now sec ad k : Int)
structure FIss where
  (kd : Int)
  (v1 v2 v3 c1 c2 c3 s1 s2 s3 : List UInt8)
  (k se : Int)
  (bx : List UInt8)
  (is en : Int)
def fi0 : FIss := ⟨0, [], [], [], [], [], [], [], [], [], 0, 0, [], 0, 0⟩
def fiU (a : FArg) : Int × Int := dbU a.c1 a.c2 a.l a.now (bitOn 1) 1 5
def fiS (a : FArg) : Int × Int := dbU a.s1 a.s2 a.l a.now (bitOn 2) 2 6
def fiCu (a : FArg) : DE := a.l.getD (fiU a).1.toNat de0
def fiSu (a : FArg) : DE := a.l.getD (fiS a).1.toNat de0
def fiE (a : FArg) : Int := leS (leS (if 4294967295 < a.now + a.sec then 4294967295 else a.now + a.sec) (fiCu a).ex) (fiSu a).ex
def fiRec (a : FArg) : FRec := ⟨a.c1, a.c2, a.c3, a.s1, a.s2, a.s3, a.k, a.now, fiE a, a.ad⟩
def fiSl (a : FArg) : List UInt8 := boxB 9 (fiSu a).k (padS (frB (fiRec a)))
def fiPart (a : FArg) : FPart := ⟨a.k, a.s1, a.s2, a.s3, a.now, fiE a, fiSl a⟩
def fiBx (a : FArg) : List UInt8 := boxB 10 (fiCu a).k (padS (fpB (fiPart a)))
def fiM (a : FArg) : FMsg := ⟨1, a.c1, a.c2, a.c3, fiBx a⟩
def fiMsg (a : FArg) : List UInt8 := fmB (fiM a)
def fiIss (a : FArg) : FIss := ⟨5, [107, 114, 98, 116, 103, 116], a.r, a.r, a.c1, a.c2, a.c3, a.s1, a.s2, a.s3, a.k, (fiCu a).k, fiSl a, a.now, fiE a⟩
def fiO (a : FArg) : (List UInt8 × FIss) × Int :=
  if ¬ (dbC a.r a.l = 0) then (([], fi0), dbC a.r a.l) else
  if ¬ (a.c3 = a.r ∧ a.s3 = a.r) then (([], fi0), 8) else
  if ¬ ((fiU a).2 = 0) then (([], fi0), (fiU a).2) else
  if ¬ ((fiS a).2 = 0) then (([], fi0), (fiS a).2) else
  if ¬ ((0 ≤ a.now ∧ a.now ≤ 4294967295) ∧ (1 ≤ a.sec ∧ a.sec ≤ 4294967295) ∧ (0 ≤ a.ad ∧ a.ad ≤ 4294967295)) then (([], fi0), 104) else
  if ¬ (a.now < fiE a) then (([], fi0), 3) else
  if ¬ (classS a.k = 2) then (([], fi0), 10) else
  ((fiMsg a, fiIss a), 0)
section
variable {a : FArg}
theorem fiO_0 (h : ¬ (dbC a.r a.l = 0)) : fiO a = (([], fi0), dbC a.r a.l) := by
  rw [fiO, if_pos h]
theorem fiO_1 (h0 : dbC a.r a.l = 0) (h : ¬ (a.c3 = a.r ∧ a.s3 = a.r)) : fiO a = (([], fi0), 8) := by
  rw [fiO, if_neg (fun h => h h0), if_pos h]
theorem fiO_2 (h0 : dbC a.r a.l = 0) (h1 : a.c3 = a.r ∧ a.s3 = a.r) (h : ¬ ((fiU a).2 = 0)) : fiO a = (([], fi0), (fiU a).2) := by
  rw [fiO, if_neg (fun h => h h0), if_neg (fun h => h h1), if_pos h]
theorem fiO_3 (h0 : dbC a.r a.l = 0) (h1 : a.c3 = a.r ∧ a.s3 = a.r) (h2 : (fiU a).2 = 0) (h : ¬ ((fiS a).2 = 0)) : fiO a = (([], fi0), (fiS a).2) := by
  rw [fiO, if_neg (fun h => h h0), if_neg (fun h => h h1), if_neg (fun h => h h2), if_pos h]
theorem fiO_4 (h0 : dbC a.r a.l = 0) (h1 : a.c3 = a.r ∧ a.s3 = a.r) (h2 : (fiU a).2 = 0) (h3 : (fiS a).2 = 0) (h : ¬ ((0 ≤ a.now ∧ a.now ≤ 4294967295) ∧ (1 ≤ a.sec ∧ a.sec ≤ 4294967295) ∧ (0 ≤ a.ad ∧ a.ad ≤ 4294967295))) : fiO a = (([], fi0), 104) := by
  rw [fiO, if_neg (fun h => h h0), if_neg (fun h => h h1), if_neg (fun h => h h2), if_neg (fun h => h h3), if_pos h]
theorem fiO_5 (h0 : dbC a.r a.l = 0) (h1 : a.c3 = a.r ∧ a.s3 = a.r) (h2 : (fiU a).2 = 0) (h3 : (fiS a).2 = 0) (h4 : (0 ≤ a.now ∧ a.now ≤ 4294967295) ∧ (1 ≤ a.sec ∧ a.sec ≤ 4294967295) ∧ (0 ≤ a.ad ∧ a.ad ≤ 4294967295)) (h : ¬ (a.now < fiE a)) : fiO a = (([], fi0), 3) := by
  rw [fiO, if_neg (fun h => h h0), if_neg (fun h => h h1), if_neg (fun h => h h2), if_neg (fun h => h h3), if_neg (fun h => h h4), if_pos h]
theorem fiO_6 (h0 : dbC a.r a.l = 0) (h1 : a.c3 = a.r ∧ a.s3 = a.r) (h2 : (fiU a).2 = 0) (h3 : (fiS a).2 = 0) (h4 : (0 ≤ a.now ∧ a.now ≤ 4294967295) ∧ (1 ≤ a.sec ∧ a.sec ≤ 4294967295) ∧ (0 ≤ a.ad ∧ a.ad ≤ 4294967295)) (h5 : a.now < fiE a) (h : ¬ (classS a.k = 2)) : fiO a = (([], fi0), 10) := by
  rw [fiO, if_neg (fun h => h h0), if_neg (fun h => h h1), if_neg (fun h => h h2), if_neg (fun h => h h3), if_neg (fun h => h h4), if_neg (fun h => h h5), if_pos h]
theorem fiO_ok (h0 : dbC a.r a.l = 0) (h1 : a.c3 = a.r ∧ a.s3 = a.r) (h2 : (fiU a).2 = 0) (h3 : (fiS a).2 = 0) (h4 : (0 ≤ a.now ∧ a.now ≤ 4294967295) ∧ (1 ≤ a.sec ∧ a.sec ≤ 4294967295) ∧ (0 ≤ a.ad ∧ a.ad ≤ 4294967295)) (h5 : a.now < fiE a) (h6 : classS a.k = 2) : fiO a = ((fiMsg a, fiIss a), 0) := by
  rw [fiO, if_neg (fun h => h h0), if_neg (fun h => h h1), if_neg (fun h => h h2), if_neg (fun h => h h3), if_neg (fun h => h h4), if_neg (fun h => h h5), if_neg (fun h => h h6)]
theorem leS_range {e ex : Int} (h : e ≤ 4294967295) : leS e ex ≤ 4294967295 := by unfold leS; split <;> omega
theorem leS_low {e ex n : Int} (h : n < leS e ex) : n < leS e ex := h
theorem fiE_le (a : FArg) : fiE a ≤ 4294967295 := leS_range (leS_range (by split <;> omega))
theorem fi_at (h0 : dbC a.r a.l = 0) (h1 : a.c3 = a.r ∧ a.s3 = a.r) (h2 : (fiU a).2 = 0) (h3 : (fiS a).2 = 0) : validS a.c1 a.c2 a.c3 = true ∧ validS a.s1 a.s2 a.s3 = true ∧ keyOk (fiCu a).k = true ∧ keyOk (fiSu a).k = true ∧ (∃ i : Nat, i < a.l.length ∧ (fiU a).1 = (i : Int)) ∧ (∃ i : Nat, i < a.l.length ∧ (fiS a).1 = (i : Int)) := by
  obtain ⟨o1, o2, o3, _⟩ := dbC_un h0
  obtain ⟨i, i1, i2, i3, i4, i5⟩ := dbU_at (by decide) (by decide) h2
  obtain ⟨j, j1, j2, j3, j4, j5⟩ := dbU_at (by decide) (by decide) h3
  have hi := o3 _ (getD_mem (d := de0) i1)
  have hj := o3 _ (getD_mem (d := de0) j1)
  obtain ⟨p1, p2, _⟩ := deC_is hi
  obtain ⟨q1, q2, _⟩ := deC_is hj
  rw [i3] at p1
  rw [i4] at p2
  rw [j3] at q1
  rw [j4] at q2
  refine ⟨?_, ?_, ?_, ?_, ⟨i, i1, i2⟩, ⟨j, j1, j2⟩⟩
  · rw [validS, p1, p2, h1.1, o1]; rfl
  · rw [validS, q1, q2, h1.2, o1]; rfl
  · rw [fiCu, show (fiU a).1 = (i : Int) from i2, Int.toNat_natCast]; exact i5
  · rw [fiSu, show (fiS a).1 = (j : Int) from j2, Int.toNat_natCast]; exact j5
theorem frB_len (t : FRec) : (frB t).length = t.c1.length + t.c2.length + t.c3.length + t.s1.length + t.s2.length + t.s3.length + 26 := by
  simp only [frB, List.length_append, List.length_singleton, List.length_nil, List.length_cons, numS_len, keyB_len]
  omega
theorem fpB_len (t : FPart) : (fpB t).length = t.s1.length + t.s2.length + t.s3.length + t.rc.length + 21 := by
  simp only [fpB, List.length_append, List.length_singleton, List.length_nil, List.length_cons, numS_len, keyB_len]
  omega
theorem fmB_len (t : FMsg) : (fmB t).length = t.n1.length + t.n2.length + t.n3.length + t.bx.length + 8 := by
  simp only [fmB, List.length_append, List.length_singleton, List.length_nil, List.length_cons, numS_len, keyB_len]
  omega
/-- what the steps of an issue come to -/
theorem fi_steps (h0 : dbC a.r a.l = 0) (h1 : a.c3 = a.r ∧ a.s3 = a.r) (h2 : (fiU a).2 = 0) (h3 : (fiS a).2 = 0) (h4 : (0 ≤ a.now ∧ a.now ≤ 4294967295) ∧ (1 ≤ a.sec ∧ a.sec ≤ 4294967295) ∧ (0 ≤ a.ad ∧ a.ad ≤ 4294967295)) (h5 : a.now < fiE a) (h6 : classS a.k = 2) :
    frN (fiRec a) = (padS (frB (fiRec a)), 0) ∧ makeS 9 (fiSu a).k (padS (frB (fiRec a))) = (fiSl a, 0) ∧ fpN (fiPart a) = (padS (fpB (fiPart a)), 0) ∧ makeS 10 (fiCu a).k (padS (fpB (fiPart a))) = (fiBx a, 0) ∧ fmN (fiM a) = (fiMsg a, 0) ∧ (padS (frB (fiRec a))).length ≤ 280 ∧ (fiSl a).length ≤ 300 ∧ (padS (fpB (fiPart a))).length ≤ 500 ∧ (fiBx a).length ≤ 600 ∧ (fiMsg a).length ≤ 800 := by
  obtain ⟨v1, v2, k1, k2, _, _⟩ := fi_at h0 h1 h2 h3
  obtain ⟨a1, a2, a3⟩ := valid_len v1
  obtain ⟨b1, b2, b3⟩ := valid_len v2
  have eE := fiE_le a
  have lR : (padS (frB (fiRec a))).length ≤ 268 := by
    rw [padS_len]
    have := padN_lt (frB (fiRec a)).length
    have : (frB (fiRec a)).length = a.c1.length + a.c2.length + a.c3.length + a.s1.length + a.s2.length + a.s3.length + 26 := frB_len (fiRec a)
    omega
  have lS : (fiSl a).length ≤ 280 := by
    rw [fiSl, boxB_len]
    omega
  have lP : (padS (fpB (fiPart a))).length ≤ 430 := by
    rw [padS_len]
    have := padN_lt (fpB (fiPart a)).length
    have : (fpB (fiPart a)).length = a.s1.length + a.s2.length + a.s3.length + (fiSl a).length + 21 := fpB_len (fiPart a)
    omega
  have lB : (fiBx a).length ≤ 442 := by
    rw [fiBx, boxB_len]
    omega
  have lM : (fiMsg a).length ≤ 600 := by
    have : (fmB (fiM a)).length = a.c1.length + a.c2.length + a.c3.length + (fiBx a).length + 8 := fmB_len (fiM a)
    rw [fiMsg, this]
    omega
  refine ⟨frN_ok ⟨v1, v2⟩ h6 ⟨⟨h4.1, ⟨by show 0 ≤ fiE a; omega, eE⟩, by show a.now ≤ fiE a; omega⟩, h4.2.2⟩, makeS_ok (by omega) k2 (by omega), fpN_ok (class2_ok h6) v2 ⟨h4.1, ⟨by show 0 ≤ fiE a; omega, eE⟩, by show a.now ≤ fiE a; omega⟩ (by show (fiSl a).length ≤ 300; omega), makeS_ok (by omega) k1 (by omega), fmN_ok (.inl rfl) v1 (by show (fiBx a).length ≤ 1012; omega), by omega, by omega, by omega, by omega, by omega⟩
end
/-- what a client accepts -/
def faA (m1 m2 m3 : List UInt8) (k : Int) (b : List UInt8) : FPart × Int :=
  if ¬ ((fmD b).2 = 0) then (fp0, (fmD b).2) else
  if ¬ ((fmD b).1.op = 1 ∧ (fmD b).1.n1 = m1 ∧ (fmD b).1.n2 = m2 ∧ (fmD b).1.n3 = m3) then (fp0, 63) else
  if ¬ ((boxO (fmD b).1.bx 10 k).2 = true) then (fp0, 62) else
  if ¬ ((fpD (boxO (fmD b).1.bx 10 k).1).2 = 0) then (fp0, 63) else ((fpD (boxO (fmD b).1.bx 10 k).1).1, 0)
section
variable {m1 m2 m3 : List UInt8} {k : Int} {b : List UInt8}
theorem faA_0 (h : ¬ ((fmD b).2 = 0)) : faA m1 m2 m3 k b = (fp0, (fmD b).2) := by rw [faA, if_pos h]
theorem faA_1 (h0 : (fmD b).2 = 0) (h : ¬ ((fmD b).1.op = 1 ∧ (fmD b).1.n1 = m1 ∧ (fmD b).1.n2 = m2 ∧ (fmD b).1.n3 = m3)) : faA m1 m2 m3 k b = (fp0, 63) := by rw [faA, if_neg (fun h => h h0), if_pos h]
theorem faA_2 (h0 : (fmD b).2 = 0) (h1 : (fmD b).1.op = 1 ∧ (fmD b).1.n1 = m1 ∧ (fmD b).1.n2 = m2 ∧ (fmD b).1.n3 = m3) (h : ¬ ((boxO (fmD b).1.bx 10 k).2 = true)) : faA m1 m2 m3 k b = (fp0, 62) := by rw [faA, if_neg (fun h => h h0), if_neg (fun h => h h1), if_pos h]
theorem faA_3 (h0 : (fmD b).2 = 0) (h1 : (fmD b).1.op = 1 ∧ (fmD b).1.n1 = m1 ∧ (fmD b).1.n2 = m2 ∧ (fmD b).1.n3 = m3) (h2 : (boxO (fmD b).1.bx 10 k).2 = true) (h : ¬ ((fpD (boxO (fmD b).1.bx 10 k).1).2 = 0)) : faA m1 m2 m3 k b = (fp0, 63) := by rw [faA, if_neg (fun h => h h0), if_neg (fun h => h h1), if_neg (fun h => h h2), if_pos h]
theorem faA_ok (h0 : (fmD b).2 = 0) (h1 : (fmD b).1.op = 1 ∧ (fmD b).1.n1 = m1 ∧ (fmD b).1.n2 = m2 ∧ (fmD b).1.n3 = m3) (h2 : (boxO (fmD b).1.bx 10 k).2 = true) (h3 : (fpD (boxO (fmD b).1.bx 10 k).1).2 = 0) : faA m1 m2 m3 k b = ((fpD (boxO (fmD b).1.bx 10 k).1).1, 0) := by rw [faA, if_neg (fun h => h h0), if_neg (fun h => h h1), if_neg (fun h => h h2), if_neg (fun h => h h3)]
end
theorem fmD_len (b : List UInt8) : (fmD b).1.bx.length ≤ b.length := by
  unfold fmD
  split
  · unfold decG
    split
    · show (fmRu b).bx.length ≤ _
      exact bytesS_le b _ _
    · exact Nat.zero_le _
  · exact Nat.zero_le _
end Go.Sx

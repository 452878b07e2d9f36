/-
  What is issued is accepted with the client's key, and with no other one.
-/
import Derived.Test.YtcnemhfgpldplabPFiveI
set_option linter.all false
set_option linter.all false
namespace Go.Sx
section
variable {a : FArg}
theorem fa_box (h0 : dbC a.r a.l = 0) (h1 : a.c3 = a.r ∧ a.s3 = a.r) (h2 : (fiU a).2 = 0) (h3 : (fiS a).2 = 0) (h4 : (0 ≤ a.now ∧ a.now ≤ 4294967295) ∧ (1 ≤ a.sec ∧ a.sec ≤ 4294967295) ∧ (0 ≤ a.ad ∧ a.ad ≤ 4294967295)) (h5 : a.now < fiE a) (h6 : classS a.k = 2) :
    fmD (fiMsg a) = (fiM a, 0) ∧ boxO (fiBx a) 10 (fiCu a).k = (padS (fpB (fiPart a)), true) ∧ (∀ k', ¬ (fiCu a).k = k' → boxO (fiBx a) 10 k' = ([], false)) ∧ fpD (padS (fpB (fiPart a))) = (fiPart a, 0) ∧ boxO (fiSl a) 9 (fiSu a).k = (padS (frB (fiRec a)), true) ∧ frD (padS (frB (fiRec a))) = (fiRec a, 0) := by
  obtain ⟨e1, e2, e3, e4, e5, l1, l2, l3, l4, l5⟩ := fi_steps h0 h1 h2 h3 h4 h5 h6
  obtain ⟨v1, v2, k1, k2, _, _⟩ := fi_at h0 h1 h2 h3
  exact ⟨fmD_trip e5, boxO_boxB (by omega) (keyOk_range k1) k1 (by omega), fun k' hk => boxO_other (by omega) (keyOk_range k1) k1 (by omega) hk, fpD_trip e3, boxO_boxB (by omega) (keyOk_range k2) k2 (by omega), frD_trip e1⟩
theorem fa_own (h0 : dbC a.r a.l = 0) (h1 : a.c3 = a.r ∧ a.s3 = a.r) (h2 : (fiU a).2 = 0) (h3 : (fiS a).2 = 0) (h4 : (0 ≤ a.now ∧ a.now ≤ 4294967295) ∧ (1 ≤ a.sec ∧ a.sec ≤ 4294967295) ∧ (0 ≤ a.ad ∧ a.ad ≤ 4294967295)) (h5 : a.now < fiE a) (h6 : classS a.k = 2) : faA a.c1 a.c2 a.c3 (fiCu a).k (fiMsg a) = (fiPart a, 0) := by
  obtain ⟨d1, d2, _, d4, _, _⟩ := fa_box h0 h1 h2 h3 h4 h5 h6
  have q : (fiM a).bx = fiBx a := rfl
  have e0 : (fmD (fiMsg a)).2 = 0 := by rw [d1]
  have e1 : (fmD (fiMsg a)).1.op = 1 ∧ (fmD (fiMsg a)).1.n1 = a.c1 ∧ (fmD (fiMsg a)).1.n2 = a.c2 ∧ (fmD (fiMsg a)).1.n3 = a.c3 := by rw [d1]; exact ⟨rfl, rfl, rfl, rfl⟩
  have e2 : boxO (fmD (fiMsg a)).1.bx 10 (fiCu a).k = (padS (fpB (fiPart a)), true) := by rw [d1]; exact d2
  rw [faA_ok e0 e1 (by rw [e2]) (by rw [e2, d4]), e2, d4]
theorem fa_other (h0 : dbC a.r a.l = 0) (h1 : a.c3 = a.r ∧ a.s3 = a.r) (h2 : (fiU a).2 = 0) (h3 : (fiS a).2 = 0) (h4 : (0 ≤ a.now ∧ a.now ≤ 4294967295) ∧ (1 ≤ a.sec ∧ a.sec ≤ 4294967295) ∧ (0 ≤ a.ad ∧ a.ad ≤ 4294967295)) (h5 : a.now < fiE a) (h6 : classS a.k = 2) {k' : Int} (hk : ¬ (fiCu a).k = k') : faA a.c1 a.c2 a.c3 k' (fiMsg a) = (fp0, 62) := by
  obtain ⟨d1, _, d3, _, _, _⟩ := fa_box h0 h1 h2 h3 h4 h5 h6
  have e0 : (fmD (fiMsg a)).2 = 0 := by rw [d1]
  have e1 : (fmD (fiMsg a)).1.op = 1 ∧ (fmD (fiMsg a)).1.n1 = a.c1 ∧ (fmD (fiMsg a)).1.n2 = a.c2 ∧ (fmD (fiMsg a)).1.n3 = a.c3 := by rw [d1]; exact ⟨rfl, rfl, rfl, rfl⟩
  have e2 : boxO (fmD (fiMsg a)).1.bx 10 k' = ([], false) := by rw [d1]; exact d3 k' hk
  rw [faA_2 e0 e1 (by rw [e2]; decide)]
/-- an issue without an error has met all conditions -/
theorem fiO_is (h : (fiO a).2 = 0) : dbC a.r a.l = 0 ∧ (a.c3 = a.r ∧ a.s3 = a.r) ∧ (fiU a).2 = 0 ∧ (fiS a).2 = 0 ∧ ((0 ≤ a.now ∧ a.now ≤ 4294967295) ∧ (1 ≤ a.sec ∧ a.sec ≤ 4294967295) ∧ (0 ≤ a.ad ∧ a.ad ≤ 4294967295)) ∧ a.now < fiE a ∧ classS a.k = 2 := by
  by_cases h0 : dbC a.r a.l = 0
  case neg => rw [fiO_0 h0] at h; exact absurd h h0
  by_cases h1 : a.c3 = a.r ∧ a.s3 = a.r
  case neg => rw [fiO_1 h0 h1] at h; cases h
  by_cases h2 : (fiU a).2 = 0
  case neg => rw [fiO_2 h0 h1 h2] at h; exact absurd h h2
  by_cases h3 : (fiS a).2 = 0
  case neg => rw [fiO_3 h0 h1 h2 h3] at h; exact absurd h h3
  by_cases h4 : (0 ≤ a.now ∧ a.now ≤ 4294967295) ∧ (1 ≤ a.sec ∧ a.sec ≤ 4294967295) ∧ (0 ≤ a.ad ∧ a.ad ≤ 4294967295)
  case neg => rw [fiO_4 h0 h1 h2 h3 h4] at h; cases h
  by_cases h5 : a.now < fiE a
  case neg => rw [fiO_5 h0 h1 h2 h3 h4 h5] at h; cases h
  by_cases h6 : classS a.k = 2
  case neg => rw [fiO_6 h0 h1 h2 h3 h4 h5 h6] at h; cases h
  exact ⟨h0, h1, h2, h3, h4, h5, h6⟩
end
end Go.Sx

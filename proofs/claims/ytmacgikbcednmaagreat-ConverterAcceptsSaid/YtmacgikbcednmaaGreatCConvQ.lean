/-
  What Accept of the converter and of its reference return together; clients that come in.
-/
import Derived.Test.YtmacgikbcednmaaGreatCConvC
import Derived.Test.YtmacgikbcednmaaGreatCConvP
import Derived.Test.YtmacgikbcednmaaGreatCCcM
set_option linter.all false
namespace Go.Sx
open Go.Proofs Go.RowKit
theorem yA_len (a : YArg) : (yA a).1.1.l.length ≤ a.c.l.length + 1 := by
  by_cases h0 : clC a.c = 0
  case neg => rw [yA_0 h0]; exact Nat.le_succ _
  by_cases h1 : (fmD a.b).2 = 0
  case neg => rw [yA_1 h0 h1]; exact Nat.le_succ _
  by_cases h2 : (fmD a.b).1.op = 3 ∧ (fmD a.b).1.n1 = a.s1 ∧ (fmD a.b).1.n2 = a.s2 ∧ (fmD a.b).1.n3 = a.s3
  case neg => rw [yA_2 h0 h1 h2]; exact Nat.le_succ _
  by_cases h3 : (yB a.b a.k).2 = true
  case neg => rw [yA_3 h0 h1 h2 h3]; exact Nat.le_succ _
  by_cases h4 : (yP a.b a.k).2 = 0 ∧ ((yP a.b a.k).1.s1 = a.s1 ∧ (yP a.b a.k).1.s2 = a.s2 ∧ (yP a.b a.k).1.s3 = a.s3) ∧ (yP a.b a.k).1.k = a.k
  case neg => rw [yA_4 h0 h1 h2 h3 h4]; exact Nat.le_succ _
  by_cases h5 : (yS a.c a.b a.k).2 = 0
  case neg => rw [yA_5 h0 h1 h2 h3 h4 h5]; exact Nat.le_succ _
  rw [yA_ok h0 h1 h2 h3 h4 h5]
  exact ccS_len _ _ _ _ _

set_option maxRecDepth 10000
set_option maxHeartbeats 4000000
theorem cr_typB {ls : List L} (t : Typ (tabF tab) 59 ls) : ∃ s : CR, ls = crR s ∧ crSm 9223372036854775807 s := by
  obtain ⟨partsa, rfl, hla, hpa⟩ := typ_struct t rfl
  obtain ⟨qa_0, qa_1, qa_2, qa_3, qa_4, qa_5, rfl⟩ : ∃ qa_0 qa_1 qa_2 qa_3 qa_4 qa_5, partsa = [qa_0, qa_1, qa_2, qa_3, qa_4, qa_5] := by
    match partsa, hla with
    | [qa_0, qa_1, qa_2, qa_3, qa_4, qa_5], _ => exact ⟨qa_0, qa_1, qa_2, qa_3, qa_4, qa_5, rfl⟩
  have ta_0 := hpa 0 _ qa_0 rfl rfl
  obtain ⟨partsa_0, rfl, hla_0, hpa_0⟩ := typ_struct ta_0 rfl
  obtain ⟨qa_0_0, qa_0_1, qa_0_2, rfl⟩ : ∃ qa_0_0 qa_0_1 qa_0_2, partsa_0 = [qa_0_0, qa_0_1, qa_0_2] := by
    match partsa_0, hla_0 with
    | [qa_0_0, qa_0_1, qa_0_2], _ => exact ⟨qa_0_0, qa_0_1, qa_0_2, rfl⟩
  have ta_0_0 := hpa_0 0 _ qa_0_0 rfl rfl
  obtain ⟨a_0_0, rfl, wa_0_0⟩ := typ_strB ta_0_0 rfl
  have ta_0_1 := hpa_0 1 _ qa_0_1 rfl rfl
  obtain ⟨a_0_1, rfl, wa_0_1⟩ := typ_strB ta_0_1 rfl
  have ta_0_2 := hpa_0 2 _ qa_0_2 rfl rfl
  obtain ⟨a_0_2, rfl, wa_0_2⟩ := typ_strB ta_0_2 rfl
  have ta_1 := hpa 1 _ qa_1 rfl rfl
  obtain ⟨a_1, rfl, wa_1⟩ := typ_int ta_1 rfl
  have ta_2 := hpa 2 _ qa_2 rfl rfl
  obtain ⟨a_2, rfl, wa_2⟩ := typ_int ta_2 rfl
  have ta_3 := hpa 3 _ qa_3 rfl rfl
  obtain ⟨a_3, rfl, wa_3⟩ := typ_int ta_3 rfl
  have ta_4 := hpa 4 _ qa_4 rfl rfl
  obtain ⟨a_4, rfl, wa_4⟩ := typ_int ta_4 rfl
  have ta_5 := hpa 5 _ qa_5 rfl rfl
  obtain ⟨a_5, rfl, wa_5⟩ := typ_bytesB ta_5 rfl rfl
  exact ⟨⟨a_0_0, a_0_1, a_0_2, a_1, a_2, a_3, a_4, a_5⟩, rfl, wa_0_0, wa_0_1, wa_0_2, wa_5, wf_u64 wa_1, wf_i64 wa_2, wf_i64 wa_3, wf_i64 wa_4⟩
theorem cr_rowsB {rows : List (List L)} (h : ∀ r ∈ rows, Typ (tabF tab) 59 r) : ∃ l : List CR, rows = l.map crR ∧ ∀ s ∈ l, crSm 9223372036854775807 s := rows_of fun r hr => cr_typB (h r hr)
theorem acc26 (m1 m2 m3 : List UInt8) (ad sk : Int) (li : Bool) (o1 o2 o3 : List UInt8) (l : List CR) {n : Nat} (hn : n = l.length) (wt : Int) (w1 w2 w3 : List UInt8) (se tm lf ck tk : Int) (hs : clSm ⟨m1, m2, m3, ad, sk, li, o1, o2, o3, l, wt, w1, w2, w3, se, tm, lf, ck, tk⟩) (s1 s2 s3 : List UInt8) (k st en : Int) (rc : List UInt8) {j : Nat} (b : List UInt8) {q : Nat} (hq : q = b.length) (hb : b.length ≤ 90000) : ∃ (D : CL) (Y : CR) (e : Int), D.l.length ≤ 1000000 ∧ Fn Tryz.prog 15 [.a [.s m1, .s m2, .s m3, .i .i64 ad, .i .i64 sk, .b li, .s o1, .s o2, .s o3, .sl (flat crR l) n, .i .i64 wt, .s w1, .s w2, .s w3, .i .u64 se, .i .i64 tm, .i .i64 lf, .i .i64 ck, .i .i64 tk], .a [.s s1, .s s2, .s s3, .i .u64 k, .i .i64 st, .i .i64 en, .sl (rc.map u8) j], .o (.sl (b.map u8) q)] [] (.tup [.c (.a [.s D.m1, .s D.m2, .s D.m3, .i .i64 D.ad, .i .i64 D.sk, .b D.li, .s D.o1, .s D.o2, .s D.o3, .sl (flat crR D.l) D.l.length, .i .i64 D.wt, .s D.w1, .s D.w2, .s D.w3, .i .u64 D.se, .i .i64 D.tm, .i .i64 D.lf, .i .i64 D.ck, .i .i64 D.tk]), .c (.a [.s Y.x, .s Y.y, .s Y.z, .i .u64 Y.k, .i .i64 Y.lf, .i .i64 Y.kv, .i .i64 Y.is, .sl (Y.t.map u8) Y.t.length]), .c (.o (.i .i64 e))]) [] ∧ Fn Tryz.prog 16 [.a [.s m1, .s m2, .s m3, .i .i64 ad, .i .i64 sk, .b li, .s o1, .s o2, .s o3, .sl (flat crR l) n, .i .i64 wt, .s w1, .s w2, .s w3, .i .u64 se, .i .i64 tm, .i .i64 lf, .i .i64 ck, .i .i64 tk], .a [.s s1, .s s2, .s s3, .i .u64 k, .i .i64 st, .i .i64 en, .sl (rc.map u8) j], .o (.sl (b.map u8) q)] [] (.tup [.c (.a [.s D.m1, .s D.m2, .s D.m3, .i .i64 D.ad, .i .i64 D.sk, .b D.li, .s D.o1, .s D.o2, .s D.o3, .sl (flat crR D.l) D.l.length, .i .i64 D.wt, .s D.w1, .s D.w2, .s D.w3, .i .u64 D.se, .i .i64 D.tm, .i .i64 D.lf, .i .i64 D.ck, .i .i64 D.tk]), .c (.a [.s Y.x, .s Y.y, .s Y.z, .i .u64 Y.k, .i .i64 Y.lf, .i .i64 Y.kv, .i .i64 Y.is, .sl (Y.t.map u8) Y.t.length]), .c (.o (.i .i64 e))]) [] := by
  refine ⟨_, _, _, ?_, c_Accept26 m1 m2 m3 ad sk li o1 o2 o3 l hn wt w1 w2 w3 se tm lf ck tk hs s1 s2 s3 k st en rc b hq hb, c_rAccept26 m1 m2 m3 ad sk li o1 o2 o3 l hn wt w1 w2 w3 se tm lf ck tk hs s1 s2 s3 k st en rc b hq hb⟩
  have h1 := yA_len ⟨⟨m1, m2, m3, ad, sk, li, o1, o2, o3, l, wt, w1, w2, w3, se, tm, lf, ck, tk⟩, s1, s2, s3, k, b⟩
  have h2 := hs.2.2.1
  dsimp only at h1 h2
  omega
theorem c_sameClD (D : CL) (h : D.l.length ≤ 1000000) : Fn Tryz.prog 17 [.a [.s D.m1, .s D.m2, .s D.m3, .i .i64 D.ad, .i .i64 D.sk, .b D.li, .s D.o1, .s D.o2, .s D.o3, .sl (flat crR D.l) D.l.length, .i .i64 D.wt, .s D.w1, .s D.w2, .s D.w3, .i .u64 D.se, .i .i64 D.tm, .i .i64 D.lf, .i .i64 D.ck, .i .i64 D.tk], .a [.s D.m1, .s D.m2, .s D.m3, .i .i64 D.ad, .i .i64 D.sk, .b D.li, .s D.o1, .s D.o2, .s D.o3, .sl (flat crR D.l) D.l.length, .i .i64 D.wt, .s D.w1, .s D.w2, .s D.w3, .i .u64 D.se, .i .i64 D.tm, .i .i64 D.lf, .i .i64 D.ck, .i .i64 D.tk]] [] (.one (.c (.o (.b true)))) [] := by
  exact c_sameCl D.m1 D.m2 D.m3 D.ad D.sk D.li D.o1 D.o2 D.o3 D.l rfl rfl D.wt D.w1 D.w2 D.w3 D.se D.tm D.lf D.ck D.tk h
end Go.Sx

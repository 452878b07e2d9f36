/-
  Contracts of the small functions of the laws about conversations.
-/
import Derived.Test.YtkphcbogdmblnaaPChanB
import Derived.Test.YtkphcbogdmblnaaCChan
import Derived.Test.YtkphcbogdmblnaaCData
set_option linter.all false
namespace Go.Sx
open Go.Proofs Go.RowKit
theorem headB_w {l : List WD} {j : Nat} {K : Bool → List L → Prop} (h : j < l.length) (hk : K (l.getD j w0).bk (.b (l.getD j w0).sf :: .b (l.getD j w0).li :: .sl ((l.getD j w0).d.map u8) (l.getD j w0).d.length :: .i .u8 (l.getD j w0).nw :: .i .u8 (l.getD j w0).tk :: .i .u8 (l.getD j w0).a :: .i .u8 (l.getD j w0).ky :: .i .u16 (l.getD j w0).how :: flat wR (l.drop (j + 1)))) : headB ((flat wR l).drop (j * 9)) K :=
  ⟨_, _, by rw [flat_at wR_len w0 h]; rfl, hk⟩
theorem headB_w0 {l : List WD} {j : Nat} {K : Bool → List L → Prop} (h : j < l.length) (hk : K (l.getD j w0).bk (.b (l.getD j w0).sf :: .b (l.getD j w0).li :: .sl ((l.getD j w0).d.map u8) (l.getD j w0).d.length :: .i .u8 (l.getD j w0).nw :: .i .u8 (l.getD j w0).tk :: .i .u8 (l.getD j w0).a :: .i .u8 (l.getD j w0).ky :: .i .u16 (l.getD j w0).how :: flat wR (l.drop (j + 1)))) : headB (((flat wR l).drop (j * 9)).drop 0) K :=
  ⟨_, _, by rw [flat_at wR_len w0 h]; rfl, hk⟩
theorem headB_w1 {l : List WD} {j : Nat} {K : Bool → List L → Prop} (h : j < l.length) (hk : K (l.getD j w0).sf (.b (l.getD j w0).li :: .sl ((l.getD j w0).d.map u8) (l.getD j w0).d.length :: .i .u8 (l.getD j w0).nw :: .i .u8 (l.getD j w0).tk :: .i .u8 (l.getD j w0).a :: .i .u8 (l.getD j w0).ky :: .i .u16 (l.getD j w0).how :: flat wR (l.drop (j + 1)))) : headB (((flat wR l).drop (j * 9)).drop 1) K :=
  ⟨_, _, by rw [flat_at wR_len w0 h]; rfl, hk⟩
theorem headB_w2 {l : List WD} {j : Nat} {K : Bool → List L → Prop} (h : j < l.length) (hk : K (l.getD j w0).li (.sl ((l.getD j w0).d.map u8) (l.getD j w0).d.length :: .i .u8 (l.getD j w0).nw :: .i .u8 (l.getD j w0).tk :: .i .u8 (l.getD j w0).a :: .i .u8 (l.getD j w0).ky :: .i .u16 (l.getD j w0).how :: flat wR (l.drop (j + 1)))) : headB (((flat wR l).drop (j * 9)).drop 2) K :=
  ⟨_, _, by rw [flat_at wR_len w0 h]; rfl, hk⟩
theorem headV_w3 {l : List WD} {j : Nat} {K : List L → Nat → List L → Prop} (h : j < l.length) (hk : K ((l.getD j w0).d.map u8) (l.getD j w0).d.length (.i .u8 (l.getD j w0).nw :: .i .u8 (l.getD j w0).tk :: .i .u8 (l.getD j w0).a :: .i .u8 (l.getD j w0).ky :: .i .u16 (l.getD j w0).how :: flat wR (l.drop (j + 1)))) : headV (((flat wR l).drop (j * 9)).drop 3) K :=
  ⟨_, _, _, by rw [flat_at wR_len w0 h]; rfl, hk⟩
theorem headI_w4 {l : List WD} {j : Nat} {K : Int → List L → Prop} (h : j < l.length) (hk : K (l.getD j w0).nw (.i .u8 (l.getD j w0).tk :: .i .u8 (l.getD j w0).a :: .i .u8 (l.getD j w0).ky :: .i .u16 (l.getD j w0).how :: flat wR (l.drop (j + 1)))) : headI .u8 (((flat wR l).drop (j * 9)).drop 4) K :=
  ⟨_, _, by rw [flat_at wR_len w0 h]; rfl, hk⟩
theorem headI_w5 {l : List WD} {j : Nat} {K : Int → List L → Prop} (h : j < l.length) (hk : K (l.getD j w0).tk (.i .u8 (l.getD j w0).a :: .i .u8 (l.getD j w0).ky :: .i .u16 (l.getD j w0).how :: flat wR (l.drop (j + 1)))) : headI .u8 (((flat wR l).drop (j * 9)).drop 5) K :=
  ⟨_, _, by rw [flat_at wR_len w0 h]; rfl, hk⟩
theorem headI_w6 {l : List WD} {j : Nat} {K : Int → List L → Prop} (h : j < l.length) (hk : K (l.getD j w0).a (.i .u8 (l.getD j w0).ky :: .i .u16 (l.getD j w0).how :: flat wR (l.drop (j + 1)))) : headI .u8 (((flat wR l).drop (j * 9)).drop 6) K :=
  ⟨_, _, by rw [flat_at wR_len w0 h]; rfl, hk⟩
theorem headI_w7 {l : List WD} {j : Nat} {K : Int → List L → Prop} (h : j < l.length) (hk : K (l.getD j w0).ky (.i .u16 (l.getD j w0).how :: flat wR (l.drop (j + 1)))) : headI .u8 (((flat wR l).drop (j * 9)).drop 7) K :=
  ⟨_, _, by rw [flat_at wR_len w0 h]; rfl, hk⟩
noncomputable def g13 : Par := par 26 (nthLL [[0, 2, 3], [0, 2, 3, 4], [2, 3, 4, 6], [2, 3]]) [2, 3] (nthLL [[], [], [], [0, 0, 1, 7]])
noncomputable def g14 : Par := par 57 (nthLL [[3, 4, 5], [3, 5, 7], [3, 5, 7, 13], [3, 7], [3, 7, 18], [3, 7], [3, 7, 8], [3, 7, 8, 25], [3, 7, 8], [3, 9], [3, 9, 50], [9], [6]]) [6, 9] (nthLL [])
set_option maxRecDepth 10000
set_option maxHeartbeats 4000000
theorem wd_typ {ls : List L} (t : Typ (tabF tab) 41 ls) : ∃ s : WD, ls = wR s ∧ wSm s := by
  obtain ⟨partsa, rfl, hla, hpa⟩ := typ_struct t rfl
  obtain ⟨qa_0, qa_1, qa_2, qa_3, qa_4, qa_5, qa_6, qa_7, qa_8, rfl⟩ : ∃ qa_0 qa_1 qa_2 qa_3 qa_4 qa_5 qa_6 qa_7 qa_8, partsa = [qa_0, qa_1, qa_2, qa_3, qa_4, qa_5, qa_6, qa_7, qa_8] := by
    match partsa, hla with
    | [qa_0, qa_1, qa_2, qa_3, qa_4, qa_5, qa_6, qa_7, qa_8], _ => exact ⟨qa_0, qa_1, qa_2, qa_3, qa_4, qa_5, qa_6, qa_7, qa_8, rfl⟩
  have ta_0 := hpa 0 _ qa_0 rfl rfl
  obtain ⟨a_0, rfl⟩ := typ_bool ta_0 rfl
  have ta_1 := hpa 1 _ qa_1 rfl rfl
  obtain ⟨a_1, rfl⟩ := typ_bool ta_1 rfl
  have ta_2 := hpa 2 _ qa_2 rfl rfl
  obtain ⟨a_2, rfl⟩ := typ_bool ta_2 rfl
  have ta_3 := hpa 3 _ qa_3 rfl rfl
  obtain ⟨a_3, rfl⟩ := typ_bytes ta_3 rfl rfl
  have ta_4 := hpa 4 _ qa_4 rfl rfl
  obtain ⟨a_4, rfl⟩ := typ_u8 ta_4 rfl
  have ta_5 := hpa 5 _ qa_5 rfl rfl
  obtain ⟨a_5, rfl⟩ := typ_u8 ta_5 rfl
  have ta_6 := hpa 6 _ qa_6 rfl rfl
  obtain ⟨a_6, rfl⟩ := typ_u8 ta_6 rfl
  have ta_7 := hpa 7 _ qa_7 rfl rfl
  obtain ⟨a_7, rfl⟩ := typ_u8 ta_7 rfl
  have ta_8 := hpa 8 _ qa_8 rfl rfl
  obtain ⟨a_8, rfl, wa_8⟩ := typ_int ta_8 rfl
  have b4 := byte_lt a_4
  have b5 := byte_lt a_5
  have b6 := byte_lt a_6
  have b7 := byte_lt a_7
  exact ⟨⟨a_0, a_1, a_2, a_3, (a_4.toNat : Int), (a_5.toNat : Int), (a_6.toNat : Int), (a_7.toNat : Int), a_8⟩, rfl, ⟨by dsimp only; omega, by dsimp only; omega, by dsimp only; omega, by dsimp only; omega, wf_u16 wa_8⟩⟩
theorem wd_rows {rows : List (List L)} (h : ∀ r ∈ rows, Typ (tabF tab) 41 r) : ∃ l : List WD, rows = l.map wR ∧ ∀ s ∈ l, wSm s := rows_of fun r hr => wd_typ (h r hr)
theorem ch_typ {ls : List L} (t : Typ (tabF tab) 25 ls) : ∃ c : CH, ls = [.i .u64 c.s, .i .i64 c.mi, .i .i64 c.pe, .i .i64 c.sk, .i .i64 c.lt, .i .i64 c.lk] ∧ (0 ≤ c.s ∧ c.s ≤ 18446744073709551615) := by
  obtain ⟨partsa, rfl, hla, hpa⟩ := typ_struct t rfl
  obtain ⟨qa_0, qa_1, qa_2, qa_3, qa_4, qa_5, rfl⟩ : ∃ qa_0 qa_1 qa_2 qa_3 qa_4 qa_5, partsa = [qa_0, qa_1, qa_2, qa_3, qa_4, qa_5] := by
    match partsa, hla with
    | [qa_0, qa_1, qa_2, qa_3, qa_4, qa_5], _ => exact ⟨qa_0, qa_1, qa_2, qa_3, qa_4, qa_5, rfl⟩
  have ta_0 := hpa 0 _ qa_0 rfl rfl
  obtain ⟨a_0, rfl, wa_0⟩ := typ_int ta_0 rfl
  have ta_1 := hpa 1 _ qa_1 rfl rfl
  obtain ⟨a_1, rfl, wa_1⟩ := typ_int ta_1 rfl
  have ta_2 := hpa 2 _ qa_2 rfl rfl
  obtain ⟨a_2, rfl, wa_2⟩ := typ_int ta_2 rfl
  have ta_3 := hpa 3 _ qa_3 rfl rfl
  obtain ⟨a_3, rfl, wa_3⟩ := typ_int ta_3 rfl
  have ta_4 := hpa 4 _ qa_4 rfl rfl
  obtain ⟨a_4, rfl, wa_4⟩ := typ_int ta_4 rfl
  have ta_5 := hpa 5 _ qa_5 rfl rfl
  obtain ⟨a_5, rfl, wa_5⟩ := typ_int ta_5 rfl
  exact ⟨⟨a_0, a_1, a_2, a_3, a_4, a_5⟩, rfl, wf_u64 wa_0⟩
theorem c_awk21 {k : Int} (hk : sessN 1 = k) : ∃ X Y Z : List UInt8, (X.length ≤ 2000 ∧ Y.length ≤ 2000 ∧ Z.length ≤ 2000) ∧
    (Fn Try.prog 9 [.o (.i .u64 k), .o (.i .i64 1), .o (.i .i64 2), .o (.i .i64 300)] [] (.tup [.c (.a [.i .u64 k, .i .i64 1, .i .i64 2, .i .i64 300, .i .i64 (-1), .i .i64 (-1)]), .c (.o (.i .i64 0))]) [] ∧
    Fn Try.prog 9 [.o (.i .u64 k), .o (.i .i64 2), .o (.i .i64 1), .o (.i .i64 300)] [] (.tup [.c (.a [.i .u64 k, .i .i64 2, .i .i64 1, .i .i64 300, .i .i64 (-1), .i .i64 (-1)]), .c (.o (.i .i64 0))]) []) ∧
    (Fn Try.prog 15 [.a [.i .u64 k, .i .i64 1, .i .i64 2, .i .i64 300, .i .i64 (-1), .i .i64 (-1)], .o (.b false), .o (.sl [.i .u8 120] 1), .o (.i .i64 1000), .o (.i .i64 1), .o (.b true)] [] (.tup [.fr (X.map u8) X.length 1, .c (.o (.i .i64 0))]) [] ∧
    Fn Try.prog 15 [.a [.i .u64 k, .i .i64 1, .i .i64 2, .i .i64 300, .i .i64 (-1), .i .i64 (-1)], .o (.b true), .o (.sl [.i .u8 121] 1), .o (.i .i64 1000), .o (.i .i64 3), .o (.b true)] [] (.tup [.fr (Y.map u8) Y.length 1, .c (.o (.i .i64 0))]) [] ∧
    Fn Try.prog 15 [.a [.i .u64 k, .i .i64 1, .i .i64 2, .i .i64 300, .i .i64 (-1), .i .i64 (-1)], .o (.b true), .o (.sl [.i .u8 122] 1), .o (.i .i64 1000), .o (.i .i64 2), .o (.b true)] [] (.tup [.fr (Z.map u8) Z.length 1, .c (.o (.i .i64 0))]) []) ∧
    (Fn Try.prog 17 [.a [.i .u64 k, .i .i64 2, .i .i64 1, .i .i64 300, .i .i64 (-1), .i .i64 (-1)], .o (.sl (X.map u8) X.length), .o (.i .i64 1000)] [] (.tup [.c (.a [.i .u64 k, .i .i64 2, .i .i64 1, .i .i64 300, .i .i64 1000, .i .i64 1]), .c (.o (.sl (([120] : List UInt8).map u8) 1)), .c (.o (.i .i64 0))]) [] ∧
    Fn Try.prog 17 [.a [.i .u64 k, .i .i64 2, .i .i64 1, .i .i64 300, .i .i64 1000, .i .i64 1], .o (.sl (Y.map u8) Y.length), .o (.i .i64 1000)] [] (.tup [.c (.a [.i .u64 k, .i .i64 2, .i .i64 1, .i .i64 300, .i .i64 1000, .i .i64 3]), .c (.o (.sl (([121] : List UInt8).map u8) 1)), .c (.o (.i .i64 0))]) [] ∧
    Fn Try.prog 17 [.a [.i .u64 k, .i .i64 2, .i .i64 1, .i .i64 300, .i .i64 1000, .i .i64 3], .o (.sl (Z.map u8) Z.length), .o (.i .i64 1000)] [] (.tup [.c (.a [.i .u64 k, .i .i64 2, .i .i64 1, .i .i64 300, .i .i64 1000, .i .i64 3]), .c (.o (.sl [] 0)), .c (.o (.i .i64 42))]) []) := by
  have ok := (sess_ok (n := 1) (by omega)).1
  have rk := sess_range' (n := 1) (by omega)
  rw [hk] at ok rk
  obtain ⟨X, Y, Z, hl, x2, y2, z2, x3, y3, z3⟩ := awk21 ok rk
  refine ⟨X, Y, Z, hl, ⟨?_, ?_⟩, ⟨?_, ?_, ?_⟩, ?_, ?_, ?_⟩
  · have c := c_chOpen k 1 2 300 rk
    rw [chO_yes ok (by decide)] at c
    exact c
  · have c := c_chOpen k 2 1 300 rk
    rw [chO_yes ok (by decide)] at c
    exact c
  · have c := c_chSend k 1 2 300 (-1) (-1) rk false [120] rfl 1000 1 true
    rw [x2] at c
    exact c
  · have c := c_chSend k 1 2 300 (-1) (-1) rk true [121] rfl 1000 3 true
    rw [y2] at c
    exact c
  · have c := c_chSend k 1 2 300 (-1) (-1) rk true [122] rfl 1000 2 true
    rw [z2] at c
    exact c
  · have c := c_chRead k 2 1 300 (-1) (-1) rk X rfl (by omega) 1000
    rw [x3] at c
    exact c
  · have c := c_chRead k 2 1 300 1000 1 rk Y rfl (by omega) 1000
    rw [y3] at c
    exact c
  · have c := c_chRead k 2 1 300 1000 3 rk Z rfl (by omega) 1000
    rw [z3] at c
    exact c
theorem c_ends21 (sk : Int) (h : 0 ≤ sk ∧ sk ≤ 255) : Fn Try.prog 13 [.o (.i .u8 sk)] [] (.tup [.c (.a [.i .u64 (sessN 1), .i .i64 1, .i .i64 2, .i .i64 (sk / 8), .i .i64 (-1), .i .i64 (-1)]), .c (.a [.i .u64 (sessN 1), .i .i64 2, .i .i64 1, .i .i64 (sk / 8), .i .i64 (-1), .i .i64 (-1)])]) [] := by
  have ok := (sess_ok (n := 1) (by omega)).1
  have rk := sess_range' (n := 1) (by omega)
  have cK := c_Session 1 (by omega)
  generalize sessN 1 = k at *
  have c1 := c_rchOpen k 1 2 (sk / 8) rk
  rw [chO_yes ok (by omega)] at c1
  have c2 := c_rchOpen k 2 1 (sk / 8) rk
  rw [chO_yes ok (by omega)] at c2
  dsimp only at c1 c2
  refine Fn_intro (G := g13) (goodA rfl) (fn := Try.f13) rfl rfl rfl rfl rfl ?_
  (repeat' ((conv => whnf) <;> first | exact rfl | with_reducible refine boolK_dec (fun _ => ?_) (fun _ => ?_) <;> try (exfalso; omega) | refine boolK_beq (fun _ => ?_) (fun _ => ?_) <;> try (exfalso; first | omega | contradiction) | refine boolK_bne (fun _ => ?_) (fun _ => ?_) <;> try (exfalso; first | omega | contradiction) | (with_reducible first | refine boolK_not ?_ | refine boolK_and ?_ | refine boolK_or ?_ | refine boolK_true ?_ | refine boolK_false ?_) | refine boolK_intro (fun _ => ?_) (fun _ => ?_) <;> try (exfalso; simp_all; done) | refine jC ?_ | refine jD ?_ | refine jE ?_ | refine jF ?_ | refine jG ?_ | with_reducible refine natK_lit ?_ | refine natK_of rfl ?_ | refine natK_any ?_ | refine jL ?_ | refine jM ?_ | refine jN ?_ | refine jP ?_ | refine jQ ?_ | refine jR ?_ | refine jS ?_ | refine jT ?_ | refine jU (fun _ => ?_) | refine jV ?_ | refine jW ?_ | refine jX ?_ | refine jY ?_ | refine jZ ?_ | refine ja ?_ | refine jb ?_ | refine jc ?_ | refine jd ?_ | refine je ?_ | refine jf ?_ | refine jg ?_ | refine jh ?_ | refine ji ?_ | refine jj ?_ | refine jk ?_ | refine jn ?_ | refine jo ?_ | refine jp ?_ | refine jq ?_ | refine jr ?_ | refine js ?_ | refine callK_intro (cK) ?_ | refine callK_intro (c1) ?_ | refine callK_intro (c2) ?_ | refine jt ?_ | refine jx ?_ | refine jy ?_ | refine ju ?_ | refine jv ?_)) <;> (try (conv => whnf))
/-- what a word is as a message -/
def wS (a b : CH) (s : WD) : List UInt8 := (chS (sC a b s.bk s.ky) s.sf (s.d.take 50) (1000 + s.nw / 8) (s.tk % 4) s.li).1
theorem c_sendP (a b : CH) (ha : 0 ≤ a.s ∧ a.s ≤ 18446744073709551615) (hb : 0 ≤ b.s ∧ b.s ≤ 18446744073709551615) (bk sf li : Bool) (d : List UInt8) {m : Nat} (hm : m = d.length) (nw tk at_ ky how : Int) (h : (0 ≤ nw ∧ nw ≤ 255) ∧ (0 ≤ tk ∧ tk ≤ 255) ∧ (0 ≤ ky ∧ ky ≤ 255) ∧ (0 ≤ how ∧ how ≤ 65535)) : ∃ r : List UInt8, r.length ≤ 2100 ∧ (¬ how % 16 = 15 → r = (chS (sC a b bk ky) sf (d.take 50) (1000 + nw / 8) (tk % 4) li).1) ∧ Fn Try.prog 14 [.a [.b bk, .b sf, .b li, .sl (d.map u8) m, .i .u8 nw, .i .u8 tk, .i .u8 at_, .i .u8 ky, .i .u16 how], .a [.i .u64 a.s, .i .i64 a.mi, .i .i64 a.pe, .i .i64 a.sk, .i .i64 a.lt, .i .i64 a.lk], .a [.i .u64 b.s, .i .i64 b.mi, .i .i64 b.pe, .i .i64 b.sk, .i .i64 b.lt, .i .i64 b.lk]] [] (.one (.fr (r.map u8) r.length 1)) [] := by
  subst hm
  have cK := c_Session 3 (by omega)
  have r3 := sess_range' (n := 3) (by omega)
  have hl := chS_len (sC a b bk ky) sf (d.take 50) (1000 + nw / 8) (tk % 4) li
  have hR : ∃ c : CH, (sC a b bk ky) = c ∧ (0 ≤ c.s ∧ c.s ≤ 18446744073709551615) ∧ c = (if bk = true then (if ky % 16 = 15 then ⟨sessN 3, b.mi, b.pe, b.sk, b.lt, b.lk⟩ else b) else (if ky % 16 = 15 then ⟨sessN 3, a.mi, a.pe, a.sk, a.lt, a.lk⟩ else a)) := by
    refine ⟨_, rfl, ?_, rfl⟩
    unfold sC
    split <;> split <;> assumption
  obtain ⟨⟨s, mi, pe, sk, lt, lk⟩, e, hs, he⟩ := hR
  rw [e] at hl ⊢
  have cS := c_rchSend s mi pe sk lt lk hs sf (d.take 50) (m := min 50 d.length) (by simp) (1000 + nw / 8) (tk % 4) li
  generalize chS ⟨s, mi, pe, sk, lt, lk⟩ sf (d.take 50) (1000 + nw / 8) (tk % 4) li = R at *
  obtain ⟨r, h1, h2, h3⟩ : ∃ r : List UInt8, r.length ≤ 2100 ∧ (¬ how % 16 = 15 → r = R.1) ∧ (how % 16 = 15 → Fn Try.prog 22 [.o (.sl (R.1.map u8) R.1.length), .o (.i .u16 (how / 16))] [] (.one (.fr (r.map u8) r.length 1)) []) := by
    by_cases hw : how % 16 = 15
    · obtain ⟨r, h1, h2⟩ := c_Spoil R.1 rfl (by omega) (how / 16) (by omega)
      exact ⟨r, by omega, fun x => absurd hw x, fun _ => h2⟩
    · exact ⟨R.1, by omega, fun _ => rfl, fun x => absurd x hw⟩
  refine ⟨r, h1, h2, ?_⟩
  clear e hl
  refine Fn_intro (G := g14) (goodA rfl) (fn := Try.f14) rfl rfl rfl rfl rfl ?_
  by_cases hd : d.length > 50
  · rw [Nat.min_eq_left (by omega)] at cS
    by_cases hw : how % 16 = 15
    · have h3 := h3 hw
      clear h2
      cases bk <;> by_cases hy : ky % 16 = 15 <;> simp only [hy, if_true, if_false, Bool.false_eq_true, ite_true, ite_false] at he <;> cases he
      all_goals ((repeat' ((conv => whnf) <;> first | exact rfl | with_reducible refine boolK_dec (fun _ => ?_) (fun _ => ?_) <;> try (exfalso; omega) | refine boolK_beq (fun _ => ?_) (fun _ => ?_) <;> try (exfalso; first | omega | contradiction) | refine boolK_bne (fun _ => ?_) (fun _ => ?_) <;> try (exfalso; first | omega | contradiction) | (with_reducible first | refine boolK_not ?_ | refine boolK_and ?_ | refine boolK_or ?_ | refine boolK_true ?_ | refine boolK_false ?_) | refine boolK_intro (fun _ => ?_) (fun _ => ?_) <;> try (exfalso; simp_all; done) | refine jA ?_ | refine jB ?_ | refine jC ?_ | refine jD ?_ | refine jE ?_ | refine jF ?_ | refine jG ?_ | refine jH ?_ | refine jI ?_ | refine jJ ?_ | refine jK ?_ | with_reducible refine natK_lit ?_ | refine natK_of rfl ?_ | refine natK_any ?_ | refine jL ?_ | refine jM ?_ | refine jN ?_ | refine jO ?_ | refine jP ?_ | refine jQ ?_ | refine jR ?_ | refine jS ?_ | refine jT ?_ | refine jU (fun _ => ?_) | refine jV ?_ | refine jW ?_ | refine jX ?_ | refine jY ?_ | refine jZ ?_ | refine ja ?_ | refine jb ?_ | refine jc ?_ | refine jd ?_ | refine je ?_ | refine jf ?_ | refine jg ?_ | refine jh ?_ | refine ji ?_ | refine jj ?_ | refine jk ?_ | refine jn ?_ | refine jo ?_ | refine jp ?_ | refine jq ?_ | refine jr ?_ | refine js ?_ | refine callK_intro (cK) ?_ | refine callK_intro (cS) ?_ | refine callK_intro (h3) ?_ | refine jt ?_ | refine jx ?_ | refine jy ?_ | refine ju ?_ | refine sideK_intro (by first | (exact ⟨rfl, rfl, rfl⟩)) ?_ | refine jv ?_)) <;> (try (conv => whnf)))
    · have h2 := h2 hw
      subst h2
      clear h3
      cases bk <;> by_cases hy : ky % 16 = 15 <;> simp only [hy, if_true, if_false, Bool.false_eq_true, ite_true, ite_false] at he <;> cases he
      all_goals ((repeat' ((conv => whnf) <;> first | exact rfl | with_reducible refine boolK_dec (fun _ => ?_) (fun _ => ?_) <;> try (exfalso; omega) | refine boolK_beq (fun _ => ?_) (fun _ => ?_) <;> try (exfalso; first | omega | contradiction) | refine boolK_bne (fun _ => ?_) (fun _ => ?_) <;> try (exfalso; first | omega | contradiction) | (with_reducible first | refine boolK_not ?_ | refine boolK_and ?_ | refine boolK_or ?_ | refine boolK_true ?_ | refine boolK_false ?_) | refine boolK_intro (fun _ => ?_) (fun _ => ?_) <;> try (exfalso; simp_all; done) | refine jA ?_ | refine jB ?_ | refine jC ?_ | refine jD ?_ | refine jE ?_ | refine jF ?_ | refine jG ?_ | refine jH ?_ | refine jI ?_ | refine jJ ?_ | refine jK ?_ | with_reducible refine natK_lit ?_ | refine natK_of rfl ?_ | refine natK_any ?_ | refine jL ?_ | refine jM ?_ | refine jN ?_ | refine jO ?_ | refine jP ?_ | refine jQ ?_ | refine jR ?_ | refine jS ?_ | refine jT ?_ | refine jU (fun _ => ?_) | refine jV ?_ | refine jW ?_ | refine jX ?_ | refine jY ?_ | refine jZ ?_ | refine ja ?_ | refine jb ?_ | refine jc ?_ | refine jd ?_ | refine je ?_ | refine jf ?_ | refine jg ?_ | refine jh ?_ | refine ji ?_ | refine jj ?_ | refine jk ?_ | refine jn ?_ | refine jo ?_ | refine jp ?_ | refine jq ?_ | refine jr ?_ | refine js ?_ | refine callK_intro (cK) ?_ | refine callK_intro (cS) ?_ | refine jt ?_ | refine jx ?_ | refine jy ?_ | refine ju ?_ | refine sideK_intro (by first | (exact ⟨rfl, rfl, rfl⟩)) ?_ | refine jv ?_)) <;> (try (conv => whnf)))
  · rw [Nat.min_eq_right (by omega), List.take_of_length_le (by omega)] at cS
    by_cases hw : how % 16 = 15
    · have h3 := h3 hw
      clear h2
      cases bk <;> by_cases hy : ky % 16 = 15 <;> simp only [hy, if_true, if_false, Bool.false_eq_true, ite_true, ite_false] at he <;> cases he
      all_goals ((repeat' ((conv => whnf) <;> first | exact rfl | with_reducible refine boolK_dec (fun _ => ?_) (fun _ => ?_) <;> try (exfalso; omega) | refine boolK_beq (fun _ => ?_) (fun _ => ?_) <;> try (exfalso; first | omega | contradiction) | refine boolK_bne (fun _ => ?_) (fun _ => ?_) <;> try (exfalso; first | omega | contradiction) | (with_reducible first | refine boolK_not ?_ | refine boolK_and ?_ | refine boolK_or ?_ | refine boolK_true ?_ | refine boolK_false ?_) | refine boolK_intro (fun _ => ?_) (fun _ => ?_) <;> try (exfalso; simp_all; done) | refine jA ?_ | refine jB ?_ | refine jC ?_ | refine jD ?_ | refine jE ?_ | refine jF ?_ | refine jG ?_ | refine jH ?_ | refine jI ?_ | refine jJ ?_ | refine jK ?_ | with_reducible refine natK_lit ?_ | refine natK_of rfl ?_ | refine natK_any ?_ | refine jL ?_ | refine jM ?_ | refine jN ?_ | refine jO ?_ | refine jP ?_ | refine jQ ?_ | refine jR ?_ | refine jS ?_ | refine jT ?_ | refine jU (fun _ => ?_) | refine jV ?_ | refine jW ?_ | refine jX ?_ | refine jY ?_ | refine jZ ?_ | refine ja ?_ | refine jb ?_ | refine jc ?_ | refine jd ?_ | refine je ?_ | refine jf ?_ | refine jg ?_ | refine jh ?_ | refine ji ?_ | refine jj ?_ | refine jk ?_ | refine jn ?_ | refine jo ?_ | refine jp ?_ | refine jq ?_ | refine jr ?_ | refine js ?_ | refine callK_intro (cK) ?_ | refine callK_intro (cS) ?_ | refine callK_intro (h3) ?_ | refine jt ?_ | refine jx ?_ | refine jy ?_ | refine ju ?_ | refine sideK_intro (by first | (exact ⟨rfl, rfl, rfl⟩)) ?_ | refine jv ?_)) <;> (try (conv => whnf)))
    · have h2 := h2 hw
      subst h2
      clear h3
      cases bk <;> by_cases hy : ky % 16 = 15 <;> simp only [hy, if_true, if_false, Bool.false_eq_true, ite_true, ite_false] at he <;> cases he
      all_goals ((repeat' ((conv => whnf) <;> first | exact rfl | with_reducible refine boolK_dec (fun _ => ?_) (fun _ => ?_) <;> try (exfalso; omega) | refine boolK_beq (fun _ => ?_) (fun _ => ?_) <;> try (exfalso; first | omega | contradiction) | refine boolK_bne (fun _ => ?_) (fun _ => ?_) <;> try (exfalso; first | omega | contradiction) | (with_reducible first | refine boolK_not ?_ | refine boolK_and ?_ | refine boolK_or ?_ | refine boolK_true ?_ | refine boolK_false ?_) | refine boolK_intro (fun _ => ?_) (fun _ => ?_) <;> try (exfalso; simp_all; done) | refine jA ?_ | refine jB ?_ | refine jC ?_ | refine jD ?_ | refine jE ?_ | refine jF ?_ | refine jG ?_ | refine jH ?_ | refine jI ?_ | refine jJ ?_ | refine jK ?_ | with_reducible refine natK_lit ?_ | refine natK_of rfl ?_ | refine natK_any ?_ | refine jL ?_ | refine jM ?_ | refine jN ?_ | refine jO ?_ | refine jP ?_ | refine jQ ?_ | refine jR ?_ | refine jS ?_ | refine jT ?_ | refine jU (fun _ => ?_) | refine jV ?_ | refine jW ?_ | refine jX ?_ | refine jY ?_ | refine jZ ?_ | refine ja ?_ | refine jb ?_ | refine jc ?_ | refine jd ?_ | refine je ?_ | refine jf ?_ | refine jg ?_ | refine jh ?_ | refine ji ?_ | refine jj ?_ | refine jk ?_ | refine jn ?_ | refine jo ?_ | refine jp ?_ | refine jq ?_ | refine jr ?_ | refine js ?_ | refine callK_intro (cK) ?_ | refine callK_intro (cS) ?_ | refine jt ?_ | refine jx ?_ | refine jy ?_ | refine ju ?_ | refine sideK_intro (by first | (exact ⟨rfl, rfl, rfl⟩)) ?_ | refine jv ?_)) <;> (try (conv => whnf)))
end Go.Sx

/-
  What is sent in a conversation, and what is read then, as plain functions: for every input.
-/
import Derived.Test.YtkphcbogdmblnaaPChan
set_option linter.all false
namespace Go.Sx
theorem chEnds_is {s mi pe sk : Int} (h : chEnds s mi pe sk = 0) : keyOk s = true ∧ (0 ≤ mi ∧ mi ≤ 4294967295) ∧ (0 ≤ pe ∧ pe ≤ 4294967295) ∧ mi ≠ pe ∧ (0 ≤ sk ∧ sk ≤ 4294967295) := by
  unfold chEnds at h
  split at h
  · exact absurd h (by decide)
  · rename_i h1
    split at h
    · exact absurd h (by decide)
    · rename_i h2
      have h3 := Decidable.not_not.mp h2
      refine ⟨?_, h3⟩
      cases hh : keyOk s with
      | true => rfl
      | false => exact absurd hh h1
/-- what may be sent is sent, and opened with its key -/
theorem ch_word {c : CH} {sf l : Bool} {d : List UInt8} {now tk : Int} (hc : chC c = 0) (rk : 0 ≤ c.s ∧ c.s ≤ 18446744073709551615) (hd : d.length ≤ 500) (ht : 0 ≤ tk ∧ tk ≤ 199) (hn : 0 ≤ now ∧ now ≤ 4294967295) : ∃ B : List UInt8, B.length ≤ 2000 ∧ chS c sf d now tk l = (B, 0) ∧ (partsS B).2.2.2.2 = 0 ∧ ∀ k', openX B k' = if c.s = k' then ((d, tk, c.mi, now), 0) else (pr0, 41) := by
  obtain ⟨ok, hm, -⟩ := chEnds_is (chC_is hc).1
  have hx : prN l (d, tk, c.mi, now) = (prE l d tk c.mi now, 0) := prN_ok hd ⟨ht, hm, hn⟩
  have hE := prE_len l d tk c.mi now
  generalize prE l d tk c.mi now = E at *
  cases sf
  · have hb := boxB_len 5 c.s E
    have hl := msg6_len l (boxB 5 c.s E)
    refine ⟨msg6 l (boxB 5 c.s E), by omega, by rw [chS_3 hc, mk6_madeC hx ok (by omega)], by rw [parts_msg6 (by omega)], fun k' => ?_⟩
    rw [openX_2 (by rw [openP_madeC hx rk ok (by omega)]; split <;> (dsimp only; decide)), openP_madeC hx rk ok (by omega)]
  · have hb := boxB_len 6 c.s E
    have hl := msg7_len l E (boxB 6 c.s E)
    refine ⟨msg7 l E (boxB 6 c.s E), by omega, by rw [chS_2 hc, mk7_madeC hx ok (by omega)], by rw [parts_msg7 (by omega) (by omega)], fun k' => ?_⟩
    rw [openX_1 (by rw [openP_7C (by omega) (by omega)]), openS_madeC hx rk ok (by omega)]
theorem ch_rd {b : CH} (hb : chC b = 0) {B : List UInt8} {x : PrT × Int} (hp : (partsS B).2.2.2.2 = 0) (ho : openX B b.s = x) (now : Int) :
    (∃ e : Int, e ≠ 0 ∧ chR b B now = (b, [], e)) ∨ (x.2 = 0 ∧ x.1.2.2.1 = b.pe ∧ ¬ (x.1.2.2.2 < b.lt ∨ x.1.2.2.2 = b.lt ∧ x.1.2.1 ≤ b.lk) ∧ chR b B now = (⟨b.s, b.mi, b.pe, b.sk, x.1.2.2.2, x.1.2.1⟩, x.1.1, 0)) := by
  subst ho
  by_cases h3 : (openX B b.s).2 = 0
  · by_cases h4 : (openX B b.s).1.2.2.1 = b.pe
    · cases h5 : nearS (openX B b.s).1.2.2.2 now b.sk with
      | false => exact .inl ⟨37, by decide, chR_5 hb hp h3 h4 h5⟩
      | true =>
        by_cases h6 : (openX B b.s).1.2.2.2 < b.lt ∨ (openX B b.s).1.2.2.2 = b.lt ∧ (openX B b.s).1.2.1 ≤ b.lk
        · exact .inl ⟨42, by decide, chR_6 hb hp h3 h4 h5 h6⟩
        · exact .inr ⟨h3, h4, h6, chR_7 hb hp h3 h4 h5 h6⟩
    · exact .inl ⟨38, by decide, chR_4 hb hp h3 h4⟩
  · exact .inl ⟨41, by decide, chR_3 hb hp h3⟩
theorem ch_ok {k mi pe sk lt lk : Int} (ok : keyOk k = true) (h1 : (0 ≤ mi ∧ mi ≤ 4294967295) ∧ (0 ≤ pe ∧ pe ≤ 4294967295) ∧ mi ≠ pe ∧ (0 ≤ sk ∧ sk ≤ 4294967295)) (h2 : (-1 ≤ lt ∧ lt ≤ 4294967295) ∧ (-1 ≤ lk ∧ lk ≤ 199)) : chC ⟨k, mi, pe, sk, lt, lk⟩ = 0 := chC_3 (chEnds_3 ok h1) h2
theorem chO_yes {k mi pe sk : Int} (ok : keyOk k = true) (h1 : (0 ≤ mi ∧ mi ≤ 4294967295) ∧ (0 ≤ pe ∧ pe ≤ 4294967295) ∧ mi ≠ pe ∧ (0 ≤ sk ∧ sk ≤ 4294967295)) : chO k mi pe sk = (⟨k, mi, pe, sk, -1, -1⟩, 0) := chO_ok (chEnds_3 ok h1)
theorem awk21 {k : Int} (ok : keyOk k = true) (rk : 0 ≤ k ∧ k ≤ 18446744073709551615) : ∃ X Y Z : List UInt8, (X.length ≤ 2000 ∧ Y.length ≤ 2000 ∧ Z.length ≤ 2000) ∧ chS ⟨k, 1, 2, 300, -1, -1⟩ false [120] 1000 1 true = (X, 0) ∧ chS ⟨k, 1, 2, 300, -1, -1⟩ true [121] 1000 3 true = (Y, 0) ∧ chS ⟨k, 1, 2, 300, -1, -1⟩ true [122] 1000 2 true = (Z, 0) ∧
    chR ⟨k, 2, 1, 300, -1, -1⟩ X 1000 = (⟨k, 2, 1, 300, 1000, 1⟩, [120], 0) ∧ chR ⟨k, 2, 1, 300, 1000, 1⟩ Y 1000 = (⟨k, 2, 1, 300, 1000, 3⟩, [121], 0) ∧ chR ⟨k, 2, 1, 300, 1000, 3⟩ Z 1000 = (⟨k, 2, 1, 300, 1000, 3⟩, [], 42) := by
  have ca : chC ⟨k, 1, 2, 300, -1, -1⟩ = 0 := ch_ok ok (by decide) (by decide)
  obtain ⟨X, x1, x2, x3, x4⟩ := ch_word (sf := false) (l := true) (d := [120]) (now := 1000) (tk := 1) ca rk (by decide) (by decide) (by decide)
  obtain ⟨Y, y1, y2, y3, y4⟩ := ch_word (sf := true) (l := true) (d := [121]) (now := 1000) (tk := 3) ca rk (by decide) (by decide) (by decide)
  obtain ⟨Z, z1, z2, z3, z4⟩ := ch_word (sf := true) (l := true) (d := [122]) (now := 1000) (tk := 2) ca rk (by decide) (by decide) (by decide)
  have x5 := (x4 k).trans (if_pos rfl)
  have y5 := (y4 k).trans (if_pos rfl)
  have z5 := (z4 k).trans (if_pos rfl)
  refine ⟨X, Y, Z, ⟨x1, y1, z1⟩, x2, y2, z2, ?_, ?_, ?_⟩
  · exact (chR_7 (c := ⟨k, 2, 1, 300, -1, -1⟩) (ch_ok ok (by decide) (by decide)) x3 (by rw [x5]) (by rw [x5]) (by rw [x5]; dsimp only; decide) (by rw [x5]; dsimp only; decide)).trans (by rw [x5])
  · exact (chR_7 (c := ⟨k, 2, 1, 300, 1000, 1⟩) (ch_ok ok (by decide) (by decide)) y3 (by rw [y5]) (by rw [y5]) (by rw [y5]; dsimp only; decide) (by rw [y5]; dsimp only; decide)).trans (by rw [y5])
  · exact (chR_6 (c := ⟨k, 2, 1, 300, 1000, 3⟩) (ch_ok ok (by decide) (by decide)) z3 (by rw [z5]) (by rw [z5]) (by rw [z5]; dsimp only; decide) (by rw [z5]; dsimp only; decide))
structure WD where
  bk : Bool
  sf : Bool
  li : Bool
  d : List UInt8
  nw : Int
  tk : Int
  a : Int
  ky : Int
  how : Int
def w0 : WD := ⟨false, false, false, [], 0, 0, 0, 0, 0⟩
def wR (s : WD) : List L := [.b s.bk, .b s.sf, .b s.li, .sl (s.d.map u8) s.d.length, .i .u8 s.nw, .i .u8 s.tk, .i .u8 s.a, .i .u8 s.ky, .i .u16 s.how]
theorem wR_len (s : WD) : (wR s).length = 9 := rfl
def wSm (s : WD) : Prop := (0 ≤ s.nw ∧ s.nw ≤ 255) ∧ (0 ≤ s.tk ∧ s.tk ≤ 255) ∧ (0 ≤ s.a ∧ s.a ≤ 255) ∧ (0 ≤ s.ky ∧ s.ky ≤ 255) ∧ (0 ≤ s.how ∧ s.how ≤ 65535)
/-- who sends -/
def sC (a b : CH) (bk : Bool) (ky : Int) : CH :=
  if bk = true then (if ky % 16 = 15 then ⟨sessN 3, b.mi, b.pe, b.sk, b.lt, b.lk⟩ else b) else (if ky % 16 = 15 then ⟨sessN 3, a.mi, a.pe, a.sk, a.lt, a.lk⟩ else a)
theorem sC_1 {a b : CH} {ky : Int} (h : ky % 16 = 15) : sC a b true ky = ⟨sessN 3, b.mi, b.pe, b.sk, b.lt, b.lk⟩ := by rw [sC, if_pos rfl, if_pos h]
theorem sC_2 {a b : CH} {ky : Int} (h : ¬ ky % 16 = 15) : sC a b true ky = b := by rw [sC, if_pos rfl, if_neg h]
theorem sC_3 {a b : CH} {ky : Int} (h : ky % 16 = 15) : sC a b false ky = ⟨sessN 3, a.mi, a.pe, a.sk, a.lt, a.lk⟩ := by rw [sC, if_neg (by decide), if_pos h]
theorem sC_4 {a b : CH} {ky : Int} (h : ¬ ky % 16 = 15) : sC a b false ky = a := by rw [sC, if_neg (by decide), if_neg h]
end Go.Sx

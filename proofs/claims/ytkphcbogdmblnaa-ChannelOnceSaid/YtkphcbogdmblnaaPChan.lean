/-
  What conversations are, as plain functions: for every input.
-/
import Derived.Test.YtkphcbogdmblnaaPProt
import Derived.Test.YtkphcbogdmblnaaPRow
set_option linter.all false
namespace Go.Sx
theorem mk6_madeC {l : Bool} {k : Int} {x : PrT} {E : List UInt8} (h : prN l x = (E, 0)) (ho : keyOk k = true) (hE : E.length ≤ 1000) : mk6 l k (prN l x) = (msg6 l (boxB 5 k E), 0) := by
  have e : sealS 5 k (prN l x) = (boxB 5 k E, 0) := by rw [h, sealS_yes rfl, makeS_ok (by omega) ho (by dsimp only; omega)]
  rw [mk6_ok (by rw [e]), e]
theorem mk7_madeC {l : Bool} {k : Int} {x : PrT} {E : List UInt8} (h : prN l x = (E, 0)) (ho : keyOk k = true) (hE : E.length ≤ 1000) : mk7 l k (prN l x) = (msg7 l E (boxB 6 k E), 0) := by
  have e : sealS 6 k (prN l x) = (boxB 6 k E, 0) := by rw [h, sealS_yes rfl, makeS_ok (by omega) ho (by dsimp only; omega)]
  rw [mk7_ok (by rw [e]), e, h]
theorem openS_madeC {l : Bool} {k k' : Int} {x : PrT} {E : List UInt8} (h : prN l x = (E, 0)) (hk : 0 ≤ k ∧ k ≤ 18446744073709551615) (ho : keyOk k = true) (hE : E.length ≤ 1000) : openS (msg7 l E (boxB 6 k E)) k' = if k = k' then (x, 0) else (pr0, 41) := by
  have hl := boxB_len 6 k E
  have p := parts_msg7 (l := l) (t := E) (x := boxB 6 k E) hE (by omega)
  by_cases h1 : k = k'
  · subst h1
    have e := boxO_boxB (kd := 6) (by omega) hk ho hE
    rw [if_pos rfl, openS_c (by rw [p]) (by rw [p]) (by rw [p]; simp only; rw [e]) (by rw [p]; simp only; rw [e]), p]
    simp only
    have t := prD_trip h
    rw [cont_yes (by rw [t]), t]
  · rw [if_neg h1, openS_m (by rw [p]) (by rw [p]) (.inl (by rw [p]; simp only; rw [boxO_other (by omega) hk ho hE h1]))]
theorem openP_madeC {l : Bool} {k k' : Int} {x : PrT} {E : List UInt8} (h : prN l x = (E, 0)) (hk : 0 ≤ k ∧ k ≤ 18446744073709551615) (ho : keyOk k = true) (hE : E.length ≤ 1000) : openP (msg6 l (boxB 5 k E)) k' = if k = k' then (x, 0) else (pr0, 41) := by
  have hl := boxB_len 5 k E
  have p := parts_msg6 (l := l) (x := boxB 5 k E) (by omega)
  by_cases h1 : k = k'
  · subst h1
    have e := boxO_boxB (kd := 5) (by omega) hk ho hE
    rw [if_pos rfl, openP_c (by rw [p]) (by rw [p]) (by rw [p]; simp only; rw [e]), p]
    simp only
    have t := prD_trip h
    rw [e]
    simp only
    rw [cont_yes (by rw [t]), t]
  · rw [if_neg h1, openP_m (by rw [p]) (by rw [p]) (by rw [p]; simp only; rw [boxO_other (by omega) hk ho hE h1])]
theorem openP_7C {l : Bool} {k : Int} {t x : List UInt8} (ht : t.length ≤ 1000) (hx : x.length ≤ 1012) : openP (msg7 l t x) k = (pr0, 40) := by
  have p := parts_msg7 (l := l) ht hx
  rw [openP_t (by rw [p]) (by rw [p]; simp)]
theorem openS_6C {l : Bool} {k : Int} {x : List UInt8} (hx : x.length ≤ 1012) : openS (msg6 l x) k = (pr0, 40) := by
  have p := parts_msg6 (l := l) hx
  rw [openS_t (by rw [p]) (by rw [p]; simp)]
structure CH where
  s : Int
  mi : Int
  pe : Int
  sk : Int
  lt : Int
  lk : Int
def ch0 : CH := ⟨0, 0, 0, 0, 0, 0⟩
def chEnds (s mi pe sk : Int) : Int := if keyOk s = false then 10 else if ¬ ((0 ≤ mi ∧ mi ≤ 4294967295) ∧ (0 ≤ pe ∧ pe ≤ 4294967295) ∧ mi ≠ pe ∧ (0 ≤ sk ∧ sk ≤ 4294967295)) then 104 else 0
theorem chEnds_1 {s mi pe sk : Int} (h : keyOk s = false) : chEnds s mi pe sk = 10 := by rw [chEnds, if_pos h]
theorem chEnds_2 {s mi pe sk : Int} (h : keyOk s = true) (h2 : ¬ ((0 ≤ mi ∧ mi ≤ 4294967295) ∧ (0 ≤ pe ∧ pe ≤ 4294967295) ∧ mi ≠ pe ∧ (0 ≤ sk ∧ sk ≤ 4294967295))) : chEnds s mi pe sk = 104 := by rw [chEnds, if_neg (by rw [h]; decide), if_pos h2]
theorem chEnds_3 {s mi pe sk : Int} (h : keyOk s = true) (h2 : (0 ≤ mi ∧ mi ≤ 4294967295) ∧ (0 ≤ pe ∧ pe ≤ 4294967295) ∧ mi ≠ pe ∧ (0 ≤ sk ∧ sk ≤ 4294967295)) : chEnds s mi pe sk = 0 := by rw [chEnds, if_neg (by rw [h]; decide), if_neg (fun hh => hh h2)]
def chO (s mi pe sk : Int) : CH × Int := if chEnds s mi pe sk = 0 then (⟨s, mi, pe, sk, -1, -1⟩, 0) else (ch0, chEnds s mi pe sk)
theorem chO_ok {s mi pe sk : Int} (h : chEnds s mi pe sk = 0) : chO s mi pe sk = (⟨s, mi, pe, sk, -1, -1⟩, 0) := by rw [chO, if_pos h]
theorem chO_no {s mi pe sk : Int} (h : ¬ chEnds s mi pe sk = 0) : chO s mi pe sk = (ch0, chEnds s mi pe sk) := by rw [chO, if_neg h]
theorem chO_e (s mi pe sk : Int) : (chO s mi pe sk).2 = chEnds s mi pe sk := by
  unfold chO
  split
  · rename_i h; exact h.symm
  · rfl
def chC (c : CH) : Int := if chEnds c.s c.mi c.pe c.sk ≠ 0 then chEnds c.s c.mi c.pe c.sk else if ¬ ((-1 ≤ c.lt ∧ c.lt ≤ 4294967295) ∧ (-1 ≤ c.lk ∧ c.lk ≤ 199)) then 104 else 0
theorem chC_1 {c : CH} (h : ¬ chEnds c.s c.mi c.pe c.sk = 0) : chC c = chEnds c.s c.mi c.pe c.sk := by rw [chC, if_pos h]
theorem chC_2 {c : CH} (h : chEnds c.s c.mi c.pe c.sk = 0) (h2 : ¬ ((-1 ≤ c.lt ∧ c.lt ≤ 4294967295) ∧ (-1 ≤ c.lk ∧ c.lk ≤ 199))) : chC c = 104 := by rw [chC, if_neg (fun hh => hh h), if_pos h2]
theorem chC_3 {c : CH} (h : chEnds c.s c.mi c.pe c.sk = 0) (h2 : (-1 ≤ c.lt ∧ c.lt ≤ 4294967295) ∧ (-1 ≤ c.lk ∧ c.lk ≤ 199)) : chC c = 0 := by rw [chC, if_neg (fun hh => hh h), if_neg (fun hh => hh h2)]
theorem chC_is {c : CH} (h : chC c = 0) : chEnds c.s c.mi c.pe c.sk = 0 ∧ ((-1 ≤ c.lt ∧ c.lt ≤ 4294967295) ∧ (-1 ≤ c.lk ∧ c.lk ≤ 199)) := by
  unfold chC at h
  split at h
  · rename_i h1; exact absurd h h1
  · rename_i h1
    split at h
    · cases h
    · rename_i h2; exact ⟨Decidable.not_not.mp h1, Decidable.not_not.mp h2⟩
def chS (c : CH) (sf : Bool) (d : List UInt8) (now tk : Int) (l : Bool) : List UInt8 × Int :=
  if chC c ≠ 0 then ([], 108) else if sf = true then mk7 l c.s (prN l (d, tk, c.mi, now)) else mk6 l c.s (prN l (d, tk, c.mi, now))
theorem chS_1 {c : CH} {sf : Bool} {d : List UInt8} {now tk : Int} {l : Bool} (h : ¬ chC c = 0) : chS c sf d now tk l = ([], 108) := by rw [chS, if_pos h]
theorem chS_2 {c : CH} {d : List UInt8} {now tk : Int} {l : Bool} (h : chC c = 0) : chS c true d now tk l = mk7 l c.s (prN l (d, tk, c.mi, now)) := by rw [chS, if_neg (fun hh => hh h), if_pos rfl]
theorem chS_3 {c : CH} {d : List UInt8} {now tk : Int} {l : Bool} (h : chC c = 0) : chS c false d now tk l = mk6 l c.s (prN l (d, tk, c.mi, now)) := by rw [chS, if_neg (fun hh => hh h), if_neg (by decide)]
theorem chS_len (c : CH) (sf : Bool) (d : List UInt8) (now tk : Int) (l : Bool) : (chS c sf d now tk l).1.length ≤ 2018 := by
  unfold chS
  split
  · simp
  · split
    · exact mk7_len (by have := prN_len l (d, tk, c.mi, now); omega)
    · exact Nat.le_trans mk6_len (by omega)
def openX (b : List UInt8) (k : Int) : PrT × Int := if (openP b k).2 = 40 then openS b k else openP b k
theorem openX_1 {b : List UInt8} {k : Int} (h : (openP b k).2 = 40) : openX b k = openS b k := by rw [openX, if_pos h]
theorem openX_2 {b : List UInt8} {k : Int} (h : ¬ (openP b k).2 = 40) : openX b k = openP b k := by rw [openX, if_neg h]
def nearS (a b s : Int) : Bool := decide ((0 ≤ a ∧ a ≤ 4294967295) ∧ (0 ≤ b ∧ b ≤ 4294967295) ∧ (0 ≤ s ∧ s ≤ 4294967295) ∧ a - b ≤ s ∧ b - a ≤ s)
/-- what is read: the channel behind it, the data, the error -/
def chR (c : CH) (b : List UInt8) (now : Int) : CH × List UInt8 × Int :=
  if chC c ≠ 0 then (c, [], 108) else
  if (partsS b).2.2.2.2 ≠ 0 then (c, [], (partsS b).2.2.2.2) else
  if (openX b c.s).2 ≠ 0 then (c, [], 41) else
  if (openX b c.s).1.2.2.1 ≠ c.pe then (c, [], 38) else
  if nearS (openX b c.s).1.2.2.2 now c.sk = false then (c, [], 37) else
  if (openX b c.s).1.2.2.2 < c.lt ∨ (openX b c.s).1.2.2.2 = c.lt ∧ (openX b c.s).1.2.1 ≤ c.lk then (c, [], 42) else
  (⟨c.s, c.mi, c.pe, c.sk, (openX b c.s).1.2.2.2, (openX b c.s).1.2.1⟩, (openX b c.s).1.1, 0)
section
variable {c : CH} {b : List UInt8} {now : Int}
theorem chR_1 (h : ¬ chC c = 0) : chR c b now = (c, [], 108) := by rw [chR, if_pos h]
theorem chR_2 (h : chC c = 0) (h2 : ¬ (partsS b).2.2.2.2 = 0) : chR c b now = (c, [], (partsS b).2.2.2.2) := by rw [chR, if_neg (fun hh => hh h), if_pos h2]
theorem chR_3 (h : chC c = 0) (h2 : (partsS b).2.2.2.2 = 0) (h3 : ¬ (openX b c.s).2 = 0) : chR c b now = (c, [], 41) := by rw [chR, if_neg (fun hh => hh h), if_neg (fun hh => hh h2), if_pos h3]
theorem chR_4 (h : chC c = 0) (h2 : (partsS b).2.2.2.2 = 0) (h3 : (openX b c.s).2 = 0) (h4 : ¬ (openX b c.s).1.2.2.1 = c.pe) : chR c b now = (c, [], 38) := by rw [chR, if_neg (fun hh => hh h), if_neg (fun hh => hh h2), if_neg (fun hh => hh h3), if_pos h4]
theorem chR_5 (h : chC c = 0) (h2 : (partsS b).2.2.2.2 = 0) (h3 : (openX b c.s).2 = 0) (h4 : (openX b c.s).1.2.2.1 = c.pe) (h5 : nearS (openX b c.s).1.2.2.2 now c.sk = false) : chR c b now = (c, [], 37) := by rw [chR, if_neg (fun hh => hh h), if_neg (fun hh => hh h2), if_neg (fun hh => hh h3), if_neg (fun hh => hh h4), if_pos h5]
theorem chR_6 (h : chC c = 0) (h2 : (partsS b).2.2.2.2 = 0) (h3 : (openX b c.s).2 = 0) (h4 : (openX b c.s).1.2.2.1 = c.pe) (h5 : nearS (openX b c.s).1.2.2.2 now c.sk = true) (h6 : (openX b c.s).1.2.2.2 < c.lt ∨ (openX b c.s).1.2.2.2 = c.lt ∧ (openX b c.s).1.2.1 ≤ c.lk) : chR c b now = (c, [], 42) := by rw [chR, if_neg (fun hh => hh h), if_neg (fun hh => hh h2), if_neg (fun hh => hh h3), if_neg (fun hh => hh h4), if_neg (by rw [h5]; decide), if_pos h6]
theorem chR_7 (h : chC c = 0) (h2 : (partsS b).2.2.2.2 = 0) (h3 : (openX b c.s).2 = 0) (h4 : (openX b c.s).1.2.2.1 = c.pe) (h5 : nearS (openX b c.s).1.2.2.2 now c.sk = true) (h6 : ¬ ((openX b c.s).1.2.2.2 < c.lt ∨ (openX b c.s).1.2.2.2 = c.lt ∧ (openX b c.s).1.2.1 ≤ c.lk)) : chR c b now = (⟨c.s, c.mi, c.pe, c.sk, (openX b c.s).1.2.2.2, (openX b c.s).1.2.1⟩, (openX b c.s).1.1, 0) := by rw [chR, if_neg (fun hh => hh h), if_neg (fun hh => hh h2), if_neg (fun hh => hh h3), if_neg (fun hh => hh h4), if_neg (by rw [h5]; decide), if_neg h6]
end
end Go.Sx

/-
  Plain functions and laws of them: for every input.
-/
import Derived.Test.YtdpbmmmdmecfdaaGreatDoorSxLib
import Derived.Lib.BytesEntry
import Derived.Lib.IndexLaws
import Derived.Test.YtdpbmmmdmecfdaaGreatDoorSxC
import Derived.Lib.ItoaNum
import Derived.Lib.ParseIntB
import Derived.Lib.Split
set_option linter.all false
/-
  What the fields of messages are, as plain functions: for every input.
-/
namespace Go.Sx

def padN (n : Nat) : Nat := (8 - n % 8) % 8
def padS (b : List UInt8) : List UInt8 := b ++ List.replicate (padN b.length) 0
@[simp] theorem padS_len (b : List UInt8) : (padS b).length = b.length + padN b.length := by simp [padS]

theorem indexByte_at : ∀ (l : List UInt8) (c : UInt8) (k : Nat), k < l.length → l.getD k 0 = c → (∀ i, i < k → l.getD i 0 ≠ c) → Lib.indexByte l c = k
  | [], c, k, h, _, _ => by simp at h
  | x :: l, c, 0, _, h, _ => by simp at h; simp [Lib.indexByte, h]
  | x :: l, c, k + 1, h1, h2, h3 => by
    have hx : x ≠ c := by simpa using h3 0 (by omega)
    have ih := indexByte_at l c k (by simpa using h1) (by simpa using h2) (fun i hi => by simpa using h3 (i + 1) (by omega))
    unfold Lib.indexByte
    rw [ih]
    simp [hx]
    try omega
theorem indexByte_bounds (l : List UInt8) (c : UInt8) : -1 ≤ Lib.indexByte l c ∧ Lib.indexByte l c < l.length := by
  refine ⟨Lib.indexByte_ge l c, ?_⟩
  by_cases h : Lib.indexByte l c < 0
  · omega
  · obtain ⟨h1, _⟩ := Lib.indexByte_some (l := l) (c := c) (o := (Lib.indexByte l c).toNat) (by omega)
    obtain ⟨h2, _⟩ := List.getElem?_eq_some_iff.mp h1
    omega
theorem indexByte_no : ∀ (l : List UInt8) (c : UInt8), (∀ i, i < l.length → l.getD i 0 ≠ c) → Lib.indexByte l c = -1
  | [], c, _ => rfl
  | x :: l, c, h => by
    have hx : x ≠ c := by simpa using h 0 (by simp)
    have ih := indexByte_no l c (fun i hi => by simpa using h (i + 1) (by simpa using hi))
    unfold Lib.indexByte
    rw [ih]
    simp [hx]

end Go.Sx

/-
  Lists that are looked through, and what the names of principals are, as plain functions: for every input.
-/
namespace Go.Sx

theorem all_step {p : UInt8 → Bool} {s : List UInt8} {j : Nat} (hj : j < s.length) (h : (s.take j).all p = true) (hp : p (s.getD j 0) = true) : (s.take (j + 1)).all p = true := by
  rw [List.take_succ_eq_append_getElem hj, List.all_append, h]
  rw [List.getD_eq_getElem?_getD, List.getElem?_eq_getElem hj] at hp
  simpa using hp
theorem all_bad {p : UInt8 → Bool} {s : List UInt8} {j : Nat} (hj : j < s.length) (hp : p (s.getD j 0) = false) : s.all p = false := by
  rw [List.all_eq_false]
  refine ⟨s[j], List.getElem_mem hj, ?_⟩
  rw [List.getD_eq_getElem?_getD, List.getElem?_eq_getElem hj] at hp
  simpa using hp
theorem all_done {p : UInt8 → Bool} {s : List UInt8} {j : Nat} (hj : s.length ≤ j) (h : (s.take j).all p = true) : s.all p = true := by
  rwa [List.take_of_length_le hj] at h

def okB (w : List UInt8) (x : UInt8) : Bool := decide (33 ≤ x.toNat) && decide (x.toNat ≤ 126) && decide (Lib.indexByte w x < 0)
def printS (s w : List UInt8) : Bool := s.all (okB w)
theorem okB_yes {w : List UInt8} {x : UInt8} (h1 : 33 ≤ x.toNat) (h2 : x.toNat ≤ 126) (h3 : Lib.indexByte w x < 0) : okB w x = true := by simp [okB, h1, h2, h3]
theorem okB_no {w : List UInt8} {x : UInt8} (h : x.toNat < 33 ∨ 126 < x.toNat ∨ 0 ≤ Lib.indexByte w x) : okB w x = false := by
  unfold okB
  rcases h with h | h | h
  · rw [decide_eq_false (by omega)]; rfl
  · rw [decide_eq_false (p := x.toNat ≤ 126) (by omega)]; simp
  · rw [decide_eq_false (p := Lib.indexByte w x < 0) (by omega)]; simp

theorem u8_eq {x y : UInt8} (h : (x.toNat : Int) = (y.toNat : Int)) : x = y := UInt8.toNat_inj.mp (by omega)
theorem indexByte_hit {w : List UInt8} {c : UInt8} {k : Nat} (hk : k < w.length) (h : (c.toNat : Int) = ((w.getD k 0).toNat : Int)) : 0 ≤ Lib.indexByte w c := by
  have hb := indexByte_bounds w c
  by_cases h0 : Lib.indexByte w c = -1
  · exfalso
    have := Lib.indexByte_none h0 k
    rw [List.getElem?_eq_getElem hk] at this
    apply this
    rw [u8_eq h, List.getD_eq_getElem?_getD, List.getElem?_eq_getElem hk]
    rfl
  · omega
theorem miss_step {w : List UInt8} {c : UInt8} {k : Nat} (h : ∀ i, i < k → w.getD i 0 ≠ c) (h0 : ¬ (c.toNat : Int) = ((w.getD k 0).toNat : Int)) : ∀ i, i < k + 1 → w.getD i 0 ≠ c := by
  intro i hi
  by_cases e : i = k
  · subst e
    intro he
    rw [he] at h0
    exact h0 rfl
  · exact h i (by omega)
theorem miss_all {w : List UInt8} {c : UInt8} {k : Nat} (h : ∀ i, i < k → w.getD i 0 ≠ c) (hk : w.length ≤ k) : Lib.indexByte w c < 0 := by
  rw [indexByte_no w c fun i hi => h i (by omega)]
  omega
/-- the place of a byte, or the length -/
def placeS (s : List UInt8) (c : UInt8) : Int := if Lib.indexByte s c < 0 then s.length else Lib.indexByte s c
theorem place_at {s : List UInt8} {c : UInt8} {k : Nat} (hk : k < s.length) (h : ∀ i, i < k → s.getD i 0 ≠ c) (h0 : ((s.getD k 0).toNat : Int) = (c.toNat : Int)) : placeS s c = k := by
  rw [placeS, indexByte_at s c k hk (u8_eq h0) h, if_neg (by omega)]
theorem place_no {s : List UInt8} {c : UInt8} {k : Nat} (hk : s.length ≤ k) (h : ∀ i, i < k → s.getD i 0 ≠ c) : placeS s c = s.length := by
  rw [placeS, if_pos (miss_all h hk)]

def nameS (s : List UInt8) : Bool := decide (s ≠ []) && (decide (s.length ≤ 39) && printS s [46, 64])
def instS (s : List UInt8) : Bool := decide (s.length ≤ 39) && printS s [64]
def realmS (s : List UInt8) : Bool := decide (s ≠ []) && instS s
def validS (x y z : List UInt8) : Bool := nameS x && (instS y && realmS z)

def frontS (s : List UInt8) (c : UInt8) : List UInt8 := s.take (placeS s c).toNat
def behindS (s : List UInt8) (c : UInt8) : List UInt8 := s.drop ((placeS s c).toNat + 1)
def foundS (s : List UInt8) (c : UInt8) : Bool := decide (placeS s c < s.length)
theorem cut_no {s : List UInt8} {c : UInt8} (h : Lib.indexByte s c < 0) : frontS s c = s ∧ behindS s c = [] ∧ foundS s c = false := by
  have e : placeS s c = s.length := by rw [placeS, if_pos h]
  refine ⟨?_, ?_, ?_⟩
  · rw [frontS, e, Int.toNat_natCast, List.take_length]
  · rw [behindS, e, Int.toNat_natCast, List.drop_of_length_le (by omega)]
  · rw [foundS, e]; simp
theorem cut_yes {s : List UInt8} {c : UInt8} (h : 0 ≤ Lib.indexByte s c) : placeS s c = Lib.indexByte s c ∧ foundS s c = true := by
  have e : placeS s c = Lib.indexByte s c := by rw [placeS, if_neg (by omega)]
  have := indexByte_bounds s c
  exact ⟨e, by rw [foundS, e]; exact decide_eq_true (by omega)⟩
abbrev cmpB := Lib.compareBytes
theorem cmp_zero : ∀ a b : List UInt8, cmpB a b = 0 ↔ a = b
  | [], [] => by simp [cmpB, Lib.compareBytes]
  | [], _ :: _ => by simp [cmpB, Lib.compareBytes]
  | _ :: _, [] => by simp [cmpB, Lib.compareBytes]
  | a :: x, b :: y => by
    have ih := cmp_zero x y
    unfold cmpB at ih ⊢
    unfold Lib.compareBytes
    by_cases h1 : a < b
    · rw [if_pos h1]
      have : a ≠ b := fun e => by subst e; exact UInt8.lt_irrefl _ h1
      simp [this]
    · rw [if_neg h1]
      by_cases h2 : b < a
      · rw [if_pos h2]
        have : a ≠ b := fun e => by subst e; exact UInt8.lt_irrefl _ h2
        simp [this]
      · rw [if_neg h2, ih]
        have : a = b := UInt8.le_antisymm (UInt8.not_lt.mp h2) (UInt8.not_lt.mp h1)
        simp [this]
theorem cmp_anti : ∀ a b : List UInt8, cmpB b a = - cmpB a b
  | [], [] => by simp [cmpB, Lib.compareBytes]
  | [], _ :: _ => by simp [cmpB, Lib.compareBytes]
  | _ :: _, [] => by simp [cmpB, Lib.compareBytes]
  | a :: x, b :: y => by
    have ih := cmp_anti x y
    unfold cmpB at ih ⊢
    unfold Lib.compareBytes
    by_cases h1 : a < b
    · have h2 : ¬ b < a := UInt8.lt_asymm h1
      simp [h1, h2]
    · by_cases h2 : b < a
      · simp [h1, h2]
      · simp [h1, h2, ih]
theorem cmp_less : ∀ a b : List UInt8, Op.bytesLess a b = decide (cmpB a b < 0)
  | [], [] => by simp [cmpB, Lib.compareBytes, Op.bytesLess]
  | [], _ :: _ => by simp [cmpB, Lib.compareBytes, Op.bytesLess]
  | _ :: _, [] => by simp [cmpB, Lib.compareBytes, Op.bytesLess]
  | a :: x, b :: y => by
    have ih := cmp_less x y
    unfold cmpB at ih ⊢
    unfold Lib.compareBytes Op.bytesLess
    rw [ih]
    by_cases h1 : a < b
    · simp [h1]
    · by_cases h2 : b < a
      · have : a ≠ b := fun e => by subst e; exact UInt8.lt_irrefl _ h2
        simp [h1, h2, this]
      · have : a = b := UInt8.le_antisymm (UInt8.not_lt.mp h2) (UInt8.not_lt.mp h1)
        simp [this]
end Go.Sx

/-
  The names, keys and numbers that the laws' data are made of, as plain functions: for every input.
-/
namespace Go.Sx

/-- the number that a source hands out at its place k -/
def nx (l : List UInt8) (k : Nat) (n : Int) : Int := ((l.getD k 0).toNat : Int) % n
/-- where a source stands behind k numbers -/
def atS (l : List UInt8) (k : Nat) : Int := ((min k l.length : Nat) : Int)
theorem nx_bounds (l : List UInt8) (k : Nat) {n : Int} (h : 0 < n) : 0 ≤ nx l k n ∧ nx l k n < n := ⟨Int.emod_nonneg _ (by omega), Int.emod_lt_of_pos _ h⟩
theorem nx_end {l : List UInt8} {k : Nat} {n : Int} (h : l.length ≤ k) : nx l k n = 0 := by
  rw [nx, List.getD_eq_getElem?_getD, List.getElem?_eq_none h]
  simp

def realmN (n : Int) : List UInt8 := if n % 3 = 0 then [65, 84, 72] else if n % 3 = 1 then [66, 79, 83] else [67, 65, 77]
def userN (n : Int) : List UInt8 := if n % 3 = 0 then [97, 110, 110] else if n % 3 = 1 then [98, 111, 98] else [99, 97, 116]
def serviceN (n : Int) : List UInt8 := if n % 3 = 0 then [109, 97, 105, 108] else if n % 3 = 1 then [110, 102, 115] else [107, 114, 98, 116, 103, 116]
def serviceI (n : Int) : List UInt8 := if n % 3 = 0 then [] else if n % 3 = 1 then [104, 111, 109, 101] else [65, 84, 72]
theorem user_valid (n m : Int) : validS (userN n) [] (realmN m) = true := by
  unfold userN realmN
  split
  · split
    · decide +kernel
    · split <;> decide +kernel
  · split
    · split
      · decide +kernel
      · split <;> decide +kernel
    · split
      · decide +kernel
      · split <;> decide +kernel
theorem realm_valid (m : Int) : realmS (realmN m) = true := by
  unfold realmN
  split
  · decide +kernel
  · split <;> decide +kernel
theorem service_valid (n : Int) : nameS (serviceN n) = true ∧ instS (serviceI n) = true := by
  unfold serviceN serviceI
  split
  · decide +kernel
  · split <;> decide +kernel
theorem name_len {s : List UInt8} (h : nameS s = true) : s.length ≤ 39 := by
  unfold nameS at h
  simp only [Bool.and_eq_true, decide_eq_true_eq] at h
  exact h.2.1
theorem inst_len {s : List UInt8} (h : instS s = true) : s.length ≤ 39 := by
  unfold instS at h
  simp only [Bool.and_eq_true, decide_eq_true_eq] at h
  exact h.1
theorem put_u8 (b : List UInt8) (k : Nat) (x : UInt8) (h : k < b.length) : putAt (b.map u8) k [L.i .u8 (x.toNat : Int)] = (b.set k x).map u8 := by
  unfold putAt
  rw [List.set_eq_take_append_cons_drop, if_pos h]
  simp [List.map_take, List.map_drop, u8]
theorem bitK_byte {op : BinOp} {a b : Int} {K : Int → Prop} (hk : K ((byteOf (bitN op .u8 a b)).toNat : Int)) : bitK op .u8 a b K := ⟨by rw [← byteOf_toNat]; exact hk⟩
theorem shlK_byte {a b : Int} {K : Int → Prop} (h : 0 ≤ b) (hk : K ((byteOf (a * 2 ^ (min b.toNat IntKind.u8.bits))).toNat : Int)) : shlK .u8 a b K := ⟨h, by rw [← byteOf_toNat]; exact hk⟩
theorem remK_at {a b : Int} (c : Int) {K : Int → Prop} (e : b = c) (h : 0 ≤ a ∧ 0 < c) (hk : K (a % c)) : remK a b K := by
  subst e
  exact remK_pos h hk
end Go.Sx

/-
  What was written is read as it was: plain functions, for every input.
-/
namespace Go.Sx

/-- the reader of the document's answer: where it stands, and whether it is bad -/
def mvA (k : Int) (bad : Bool) (next e : Int) : Int := if bad = true ∨ e ≠ 0 then k else next
def mvB (bad : Bool) (e : Int) : Bool := bad || decide (e ≠ 0)
@[simp] theorem mvA_ok (k n : Int) : mvA k false n 0 = n := by simp [mvA]
@[simp] theorem mvB_ok : mvB false 0 = false := by simp [mvB]
end Go.Sx

/-
  What keys are, as plain functions: for every input.
-/
namespace Go.Sx

def keyTop (k : Int) : Int := k / 72057594037927936
def keyLow (k : Int) : Int := k % 72057594037927936
def keyOk (k : Int) : Bool := decide ((keyTop k = 1 ∨ keyTop k = 2) ∧ 1 ≤ keyLow k ∧ keyLow k ≤ 4294967295)
def classS (k : Int) : Int := if keyOk k = true then keyTop k else 0
def serialS (k : Int) : Int := if keyOk k = true then keyLow k else 0
theorem keyOk_yes {k : Int} (h : (keyTop k = 1 ∨ keyTop k = 2) ∧ 1 ≤ keyLow k ∧ keyLow k ≤ 4294967295) : keyOk k = true := decide_eq_true h
theorem keyOk_is {k : Int} (h : keyOk k = true) : (keyTop k = 1 ∨ keyTop k = 2) ∧ 1 ≤ keyLow k ∧ keyLow k ≤ 4294967295 := of_decide_eq_true h
theorem key_parts (k : Int) : k = keyTop k * 72057594037927936 + keyLow k ∧ 0 ≤ keyLow k ∧ keyLow k < 72057594037927936 := by
  unfold keyTop keyLow
  omega
theorem top_bounds {k : Int} (h : 0 ≤ k ∧ k ≤ 18446744073709551615) : 0 ≤ keyTop k ∧ keyTop k ≤ 255 := by
  unfold keyTop
  omega

theorem shrK_56 {k b : Int} {K : Int → Prop} (h : b = 56) (hk : K (keyTop k)) : shrK .u64 k b K := by
  subst h
  refine shrK_intro (m := 72057594037927936) (by omega) rfl ?_
  rw [Int.fdiv_eq_ediv_of_nonneg _ (by omega)]
  exact hk
theorem bitN_and56 {k : Int} (h : 0 ≤ k ∧ k ≤ 18446744073709551615) : bitN .and .u64 k 72057594037927935 = keyLow k := by
  obtain ⟨n, rfl⟩ := Int.eq_ofNat_of_zero_le h.1
  unfold bitN
  show ((BitVec.ofInt 64 (n : Int) &&& BitVec.ofInt 64 72057594037927935).toNat : Int) = _
  rw [BitVec.ofInt_natCast, BitVec.toNat_and, BitVec.toNat_ofNat, Nat.mod_eq_of_lt (by omega)]
  have h2 : (BitVec.ofInt 64 72057594037927935).toNat = 2 ^ 56 - 1 := by decide
  rw [h2, Nat.and_two_pow_sub_one_eq_mod]
  unfold keyLow
  omega
theorem bitK_and56 {k m : Int} {K : Int → Prop} (h : 0 ≤ k ∧ k ≤ 18446744073709551615) (hm : m = 72057594037927935) (hk : K (keyLow k)) : bitK .and .u64 k m K := by
  subst hm
  have := key_parts k
  exact ⟨by rw [bitN_and56 h, wrap_u64 (by omega)]; exact hk⟩
theorem bitN_or56 {c s : Int} (hc : 0 ≤ c ∧ c ≤ 255) (hs : 0 ≤ s ∧ s < 72057594037927936) : bitN .or .u64 (c * 72057594037927936) s = c * 72057594037927936 + s := by
  obtain ⟨n, rfl⟩ := Int.eq_ofNat_of_zero_le hc.1
  obtain ⟨y, rfl⟩ := Int.eq_ofNat_of_zero_le hs.1
  unfold bitN
  have h1 : ((n : Int) * 72057594037927936) = ((n * 72057594037927936 : Nat) : Int) := by omega
  show ((BitVec.ofInt 64 ((n : Int) * 72057594037927936) ||| BitVec.ofInt 64 (y : Int)).toNat : Int) = _
  rw [h1, BitVec.ofInt_natCast, BitVec.ofInt_natCast, BitVec.toNat_or, BitVec.toNat_ofNat, BitVec.toNat_ofNat, Nat.mod_eq_of_lt (by omega), Nat.mod_eq_of_lt (by omega)]
  have h2 : n * 72057594037927936 ||| y = n * 72057594037927936 + y := by
    have := Nat.two_pow_add_eq_or_of_lt (i := 56) (b := y) (by omega) n
    rw [Nat.mul_comm] at this
    exact this.symm
  rw [h2]
  omega
theorem bitK_or56 {a s : Int} (c : Int) {K : Int → Prop} (ha : a = c * 72057594037927936) (hc : 0 ≤ c ∧ c ≤ 255) (hs : 0 ≤ s ∧ s < 72057594037927936) (hk : K (c * 72057594037927936 + s)) : bitK .or .u64 a s K := by
  subst ha
  exact ⟨by rw [bitN_or56 hc hs, wrap_u64 (by omega)]; exact hk⟩
theorem shlK_56 {c b : Int} {K : Int → Prop} (h : b = 56) (hc : 0 ≤ c ∧ c ≤ 255) (hk : K (c * 72057594037927936)) : shlK .u64 c b K := by
  subst h
  exact shlK_intro (m := c * 72057594037927936) (by omega) rfl (wrapK_u64 (by omega) hk)
def makeK (c s : Int) : Int := if (c = 1 ∨ c = 2) ∧ 1 ≤ s ∧ s ≤ 4294967295 then c * 72057594037927936 + s else 0
theorem makeK_key {k : Int} (h : keyOk k = true) : makeK (keyTop k) (keyLow k) = k := by
  have h1 := keyOk_is h
  have h2 := key_parts k
  rw [makeK, if_pos h1]
  omega
theorem makeK_not {k : Int} (hk : ¬ k = 0) (h : keyOk k = false) : ¬ makeK (keyTop k) (keyLow k) = k := by
  have h1 : ¬ ((keyTop k = 1 ∨ keyTop k = 2) ∧ 1 ≤ keyLow k ∧ keyLow k ≤ 4294967295) := of_decide_eq_false h
  rw [makeK, if_neg h1]
  omega
def longK (n : Int) : Int := 72057594037927936 + (1 + n)
theorem long_ok {n : Int} (h : 0 ≤ n ∧ n ≤ 1000000) : keyOk (longK n) = true ∧ keyTop (longK n) = 1 ∧ classS (longK n) = 1 := by
  have h1 : keyTop (longK n) = 1 := by unfold keyTop longK; omega
  have h2 : keyOk (longK n) = true := keyOk_yes ⟨.inl h1, by unfold keyLow longK; omega, by unfold keyLow longK; omega⟩
  exact ⟨h2, h1, by rw [classS, if_pos h2, h1]⟩
end Go.Sx

/-
  Slices of structs: rows of leaves, one behind the other; the first error of a list; plain functions, for every input.
-/
namespace Go.Sx
def flat {α : Type} (f : α → List L) (l : List α) : List L := (l.map f).flatten
section
variable {α : Type} {f : α → List L} {sz : Nat}
theorem flat_cons (x : α) (l : List α) : flat f (x :: l) = f x ++ flat f l := by simp [flat]
theorem flat_append (a b : List α) : flat f (a ++ b) = flat f a ++ flat f b := by simp [flat]
theorem flat_one (x : α) : flat f [x] = f x := by simp [flat]
theorem flat_len (hf : ∀ x, (f x).length = sz) : ∀ l : List α, (flat f l).length = l.length * sz
  | [] => by simp [flat]
  | x :: l => by rw [flat_cons, List.length_append, hf, flat_len hf l, List.length_cons, Nat.succ_mul]; omega
theorem flat_drop (hf : ∀ x, (f x).length = sz) : ∀ (l : List α) (j : Nat), (flat f l).drop (j * sz) = flat f (l.drop j)
  | l, 0 => by simp
  | [], j + 1 => by simp [flat]
  | x :: l, j + 1 => by
    rw [flat_cons, List.drop_succ_cons, ← flat_drop hf l j, show (j + 1) * sz = sz + j * sz by rw [Nat.succ_mul]; omega, ← List.drop_drop]
    congr 1
    rw [← hf x, List.drop_left]
theorem flat_take (hf : ∀ x, (f x).length = sz) : ∀ (l : List α) (j : Nat), (flat f l).take (j * sz) = flat f (l.take j)
  | l, 0 => by simp [flat]
  | [], j + 1 => by simp [flat]
  | x :: l, j + 1 => by
    rw [flat_cons, List.take_succ_cons, flat_cons, ← flat_take hf l j, show (j + 1) * sz = sz + j * sz by rw [Nat.succ_mul]; omega]
    rw [List.take_append, List.take_of_length_le (by rw [hf]; omega), hf, show sz + j * sz - sz = j * sz by omega]
theorem drop_getD_cons {l : List α} {j : Nat} (d : α) (h : j < l.length) : l.drop j = l.getD j d :: l.drop (j + 1) := by
  rw [List.drop_eq_getElem_cons h, List.getD_eq_getElem?_getD, List.getElem?_eq_getElem h]; rfl
theorem flat_at (hf : ∀ x, (f x).length = sz) {l : List α} {j : Nat} (d : α) (h : j < l.length) : (flat f l).drop (j * sz) = f (l.getD j d) ++ flat f (l.drop (j + 1)) := by
  rw [flat_drop hf, drop_getD_cons d h, flat_cons]
theorem take_getD {l : List α} {j i : Nat} {d : α} (h : i < j) : (l.take j).getD i d = l.getD i d := by
  rw [List.getD_eq_getElem?_getD, List.getD_eq_getElem?_getD, List.getElem?_take, if_pos h]
theorem app_getD {a b : List α} {i : Nat} {d : α} (h : i < a.length) : (a ++ b).getD i d = a.getD i d := by
  rw [List.getD_eq_getElem?_getD, List.getD_eq_getElem?_getD, List.getElem?_append_left h]
theorem app_getD' {a b : List α} {i : Nat} {d : α} (h : a.length ≤ i) : (a ++ b).getD i d = b.getD (i - a.length) d := by
  rw [List.getD_eq_getElem?_getD, List.getD_eq_getElem?_getD, List.getElem?_append_right h]
/-- the place of the first element of a kind, or the length -/
theorem find_at {p : α → Bool} : ∀ {l : List α} {j : Nat} (d : α), j < l.length → (∀ i, i < j → p (l.getD i d) = false) → p (l.getD j d) = true → l.findIdx p = j
  | [], j, d, h, _, _ => by simp at h
  | x :: l, 0, d, _, _, h => by
    have h : p x = true := by simpa using h
    rw [List.findIdx_cons, h]; rfl
  | x :: l, j + 1, d, h1, h2, h3 => by
    have hx : p x = false := by simpa using h2 0 (by omega)
    have ih := find_at (p := p) (l := l) (j := j) d (by simpa using h1) (fun i hi => by simpa using h2 (i + 1) (by omega)) (by simpa using h3)
    rw [List.findIdx_cons, hx, ih]; rfl
theorem find_no {p : α → Bool} : ∀ {l : List α} (d : α), (∀ i, i < l.length → p (l.getD i d) = false) → l.findIdx p = l.length
  | [], d, _ => rfl
  | x :: l, d, h => by
    have hx : p x = false := by simpa using h 0 (by simp)
    have ih := find_no (p := p) (l := l) d (fun i hi => by simpa using h (i + 1) (by simpa using hi))
    rw [List.findIdx_cons, hx, ih]; rfl
theorem find_hit {p : α → Bool} {l : List α} (d : α) (h : l.findIdx p < l.length) : p (l.getD (l.findIdx p) d) = true := by
  rw [List.getD_eq_getElem?_getD, List.getElem?_eq_getElem h]
  exact List.findIdx_getElem (w := h)
theorem find_miss {p : α → Bool} {l : List α} {i : Nat} (d : α) (h : i < l.findIdx p) : p (l.getD i d) = false := by
  have hl : i < l.length := Nat.lt_of_lt_of_le h List.findIdx_le_length
  have := List.not_of_lt_findIdx h
  rw [List.getD_eq_getElem?_getD, List.getElem?_eq_getElem hl]
  simpa using this
end
/-- the first number of some that is not 0 -/
def firstE (f : Nat → Int) : Nat → Int
  | 0 => 0
  | n + 1 => if firstE f n ≠ 0 then firstE f n else f n
theorem firstE_ok {f : Nat → Int} : ∀ {n : Nat}, (∀ i, i < n → f i = 0) → firstE f n = 0
  | 0, _ => rfl
  | n + 1, h => by
    have := firstE_ok (f := f) (n := n) fun i hi => h i (by omega)
    rw [firstE, if_neg (by simp [this])]
    exact h n (by omega)
theorem firstE_at {f : Nat → Int} {j : Nat} : ∀ {n : Nat}, j < n → (∀ i, i < j → f i = 0) → f j ≠ 0 → firstE f n = f j
  | 0, h, _, _ => by omega
  | n + 1, h, h1, h2 => by
    by_cases e : j = n
    · subst e
      rw [firstE, if_neg (by simp [firstE_ok h1])]
    · have := firstE_at (n := n) (by omega) h1 h2
      rw [firstE, this, if_pos h2]
theorem firstE_is {f : Nat → Int} : ∀ {n : Nat}, firstE f n = 0 → ∀ i, i < n → f i = 0
  | 0, _, i, hi => by omega
  | n + 1, h, i, hi => by
    rw [firstE] at h
    split at h
    · rename_i hh; exact absurd h hh
    · rename_i hh
      by_cases e : i = n
      · subst e; exact h
      · exact firstE_is (Decidable.not_not.mp hh) i (by omega)
theorem zero_next {f : Nat → Int} {j : Nat} (h : ∀ i, i < j → f i = 0) (h0 : f j = 0) : ∀ i, i < j + 1 → f i = 0 := by
  intro i hi
  by_cases e : i = j
  · subst e; exact h0
  · exact h i (by omega)
end Go.Sx

/-
  What authenticators are, as plain functions: for every input.
-/
namespace Go.Sx

end Go.Sx

/-
  What tickets are, as plain functions: for every input.
-/
namespace Go.Sx

def tickR (ad lf is : Int) : Prop := (0 ≤ ad ∧ ad ≤ 4294967295) ∧ (0 ≤ lf ∧ lf ≤ 255) ∧ (0 ≤ is ∧ is ≤ 4294967295)
instance (ad lf is : Int) : Decidable (tickR ad lf is) := by unfold tickR; infer_instance
end Go.Sx

/-
  What the headers of messages are, as plain functions: for every input.
-/
namespace Go.Sx

def readS (b : List UInt8) : Int × Bool × Int :=
  if b.length < 2 then (0, false, 101) else
  if (b.getD 0 0).toNat ≠ 4 then (0, false, 39) else
  if 1 ≤ (b.getD 1 0).toNat / 2 ∧ (b.getD 1 0).toNat / 2 ≤ 10 then (((b.getD 1 0).toNat : Int) / 2, ((b.getD 1 0).toNat : Int) % 2 == 1, 0) else (0, false, 40)

/-- which of some types a message has -/
def isS (b : List UInt8) (ks : List Int) : Bool × Int :=
  if (readS b).2.2 ≠ 0 then (false, (readS b).2.2) else if (readS b).1 ∈ ks then ((readS b).2.1, 0) else (false, 40)

end Go.Sx

/-
  What stands in some bytes from an index on, and what is read there: plain functions, for every input.
-/
namespace Go.Sx
end Go.Sx

/-
  What was read without an error stood there: plain functions, for every input.
-/
namespace Go.Sx
end Go.Sx

/-
  What databases are, as plain functions: for every input.
-/
namespace Go.Sx
structure DE where
  x : List UInt8
  y : List UInt8
  k : Int
  kv : Int
  ex : Int
  ml : Int
  atr : Int
  fl : Int
  un : Int
def de0 : DE := ⟨[], [], 0, 0, 0, 0, 0, 0, 0⟩
def deR (s : DE) : List L := [.s s.x, .s s.y, .i .u64 s.k, .i .i64 s.kv, .i .i64 s.ex, .i .i64 s.ml, .i .i64 s.atr, .i .i64 s.fl, .i .i64 s.un]
theorem deR_len (s : DE) : (deR s).length = 9 := rfl
/-- an entry that the machine may hold, with short texts -/
def deSm (B : Nat) (s : DE) : Prop := s.x.length ≤ B ∧ s.y.length ≤ B ∧ (0 ≤ s.k ∧ s.k ≤ 18446744073709551615)
/-- what an entry's numbers may be -/
def deN (s : DE) : Prop := ((0 ≤ s.kv ∧ s.kv ≤ 255) ∧ (0 ≤ s.ex ∧ s.ex ≤ 4294967295) ∧ (0 ≤ s.un ∧ s.un ≤ 4294967295)) ∧ (0 ≤ s.ml ∧ s.ml ≤ 255) ∧ (0 ≤ s.atr ∧ s.atr ≤ 3) ∧ (0 ≤ s.fl ∧ s.fl ≤ 20)
instance (s : DE) : Decidable (deN s) := by unfold deN; infer_instance
def deC (s : DE) : Int :=
  if nameS s.x = false ∨ instS s.y = false then 103 else
  if s.k ≠ 0 ∧ keyOk s.k = false then 10 else
  if ¬ deN s then 104 else 0
theorem deC_1 {s : DE} (h : nameS s.x = false ∨ instS s.y = false) : deC s = 103 := by rw [deC, if_pos h]
theorem deC_2 {s : DE} (h : nameS s.x = true) (h' : instS s.y = true) (h2 : s.k ≠ 0 ∧ keyOk s.k = false) : deC s = 10 := by rw [deC, if_neg (by rw [h, h']; decide), if_pos h2]
theorem deC_3 {s : DE} (h : nameS s.x = true) (h' : instS s.y = true) (h2 : s.k = 0 ∨ keyOk s.k = true) (h3 : ¬ deN s) : deC s = 104 := by
  rw [deC, if_neg (by rw [h, h']; decide), if_neg (fun hh => by rcases h2 with h | h; exact hh.1 h; rw [h] at hh; cases hh.2), if_pos h3]
theorem deC_4 {s : DE} (h : nameS s.x = true) (h' : instS s.y = true) (h2 : s.k = 0 ∨ keyOk s.k = true) (h3 : deN s) : deC s = 0 := by
  rw [deC, if_neg (by rw [h, h']; decide), if_neg (fun hh => by rcases h2 with h | h; exact hh.1 h; rw [h] at hh; cases hh.2), if_neg (fun hh => hh h3)]
theorem deC_is {s : DE} (h : deC s = 0) : nameS s.x = true ∧ instS s.y = true ∧ (s.k = 0 ∨ keyOk s.k = true) ∧ deN s := by
  unfold deC at h
  split at h
  · cases h
  · rename_i h1
    split at h
    · cases h
    · rename_i h2
      split at h
      · cases h
      · rename_i h3
        refine ⟨?_, ?_, ?_, Decidable.not_not.mp h3⟩
        · cases e : nameS s.x with
          | true => rfl
          | false => exact absurd (.inl e) h1
        · cases e : instS s.y with
          | true => rfl
          | false => exact absurd (.inr e) h1
        · by_cases e : s.k = 0
          · exact .inl e
          · cases e2 : keyOk s.k with
            | true => exact .inr rfl
            | false => exact absurd ⟨e, e2⟩ h2
/-- how entries compare -/
def deO (s t : DE) : Int := if cmpB s.x t.x ≠ 0 then cmpB s.x t.x else cmpB s.y t.y
theorem deO_lt {s t : DE} : deO s t < 0 ↔ Op.bytesLess s.x t.x = true ∨ s.x = t.x ∧ Op.bytesLess s.y t.y = true := by
  rw [cmp_less, cmp_less, decide_eq_true_iff, decide_eq_true_iff, ← cmp_zero]
  unfold deO
  split <;> omega
theorem deO_zero {s t : DE} : deO s t = 0 ↔ s.x = t.x ∧ s.y = t.y := by
  rw [← cmp_zero, ← cmp_zero]
  unfold deO
  split <;> omega
theorem deO_anti (s t : DE) : deO t s = - deO s t := by
  have h1 := cmp_anti s.x t.x
  have h2 := cmp_anti s.y t.y
  unfold deO
  split <;> split <;> omega
/-- the error of an entry, given the one ahead of it -/
def deE (l : List DE) (i : Nat) : Int := if deC (l.getD i de0) ≠ 0 then deC (l.getD i de0) else if 0 < i ∧ deO (l.getD i de0) (l.getD (i - 1) de0) < 0 then 110 else 0
theorem deE_1 {l : List DE} {i : Nat} (h : ¬ deC (l.getD i de0) = 0) : deE l i = deC (l.getD i de0) := by rw [deE, if_pos h]
theorem deE_2 {l : List DE} {i : Nat} (h : deC (l.getD i de0) = 0) (h2 : 0 < i ∧ deO (l.getD i de0) (l.getD (i - 1) de0) < 0) : deE l i = 110 := by rw [deE, if_neg (fun hh => hh h), if_pos h2]
theorem deE_3 {l : List DE} {i : Nat} (h : deC (l.getD i de0) = 0) (h2 : ¬ (0 < i ∧ deO (l.getD i de0) (l.getD (i - 1) de0) < 0)) : deE l i = 0 := by rw [deE, if_neg (fun hh => hh h), if_neg h2]
/-- the error of a database -/
def dbC (r : List UInt8) (l : List DE) : Int := if realmS r = false then 103 else if 60 < l.length then 106 else firstE (deE l) l.length
theorem dbC_1 {r : List UInt8} {l : List DE} (h : realmS r = false) : dbC r l = 103 := by rw [dbC, if_pos h]
theorem dbC_2 {r : List UInt8} {l : List DE} (h : realmS r = true) (h2 : 60 < l.length) : dbC r l = 106 := by rw [dbC, if_neg (by rw [h]; decide), if_pos h2]
theorem dbC_at {r : List UInt8} {l : List DE} {i : Nat} {e : Int} (h : realmS r = true) (h2 : ¬ 60 < l.length) (hi : i < l.length) (h0 : ∀ j, j < i → deE l j = 0) (he : deE l i = e) (hn : e ≠ 0) : dbC r l = e := by
  rw [dbC, if_neg (by rw [h]; decide), if_neg h2, firstE_at hi h0 (by rw [he]; exact hn), he]
theorem dbC_ok {r : List UInt8} {l : List DE} (h : realmS r = true) (h2 : ¬ 60 < l.length) (h0 : ∀ j, j < l.length → deE l j = 0) : dbC r l = 0 := by
  rw [dbC, if_neg (by rw [h]; decide), if_neg h2, firstE_ok h0]
theorem dbC_is {r : List UInt8} {l : List DE} (h : dbC r l = 0) : realmS r = true ∧ l.length ≤ 60 ∧ ∀ j, j < l.length → deE l j = 0 := by
  unfold dbC at h
  split at h
  · cases h
  · rename_i h1
    split at h
    · cases h
    · exact ⟨by simpa using h1, by omega, firstE_is h⟩
/-- where an entry is: how many have the name, and the last one of them -/
def deIs (x y : List UInt8) (s : DE) : Bool := s.x == x && s.y == y
theorem deIs_yes {x y : List UInt8} {s : DE} (h1 : s.x = x) (h2 : s.y = y) : deIs x y s = true := by simp [deIs, h1, h2]
theorem deIs_no {x y : List UInt8} {s : DE} (h : ¬ (s.x = x ∧ s.y = y)) : deIs x y s = false := by
  rw [Bool.eq_false_iff]
  intro hh
  simp only [deIs, Bool.and_eq_true, beq_iff_eq] at hh
  exact h hh
/-- the index of the last one of the name among the first n, and how many there are -/
def dbK (x y : List UInt8) (l : List DE) : Nat → Int × Nat
  | 0 => (0, 0)
  | n + 1 => if deIs x y (l.getD n de0) = true then ((n : Int), (dbK x y l n).2 + 1) else dbK x y l n
theorem dbK_yes {x y : List UInt8} {l : List DE} {n : Nat} (h : deIs x y (l.getD n de0) = true) : dbK x y l (n + 1) = ((n : Int), (dbK x y l n).2 + 1) := by rw [dbK, if_pos h]
theorem dbK_no {x y : List UInt8} {l : List DE} {n : Nat} (h : deIs x y (l.getD n de0) = false) : dbK x y l (n + 1) = dbK x y l n := by rw [dbK, if_neg (by rw [h]; decide)]
theorem dbK_mono {x y : List UInt8} {l : List DE} : ∀ {n m : Nat}, n ≤ m → (dbK x y l n).2 ≤ (dbK x y l m).2
  | 0, 0, _ => Nat.le_refl _
  | n + 1, 0, h => absurd h (by omega)
  | n, m + 1, h => by
    rcases Nat.lt_or_ge n (m + 1) with h1 | h1
    · have ih := dbK_mono (x := x) (y := y) (l := l) (n := n) (m := m) (by omega)
      rw [dbK]
      split
      · dsimp only; omega
      · exact ih
    · have e : n = m + 1 := by omega
      rw [e]
      exact Nat.le_refl _
def dbF (x y : List UInt8) (l : List DE) : Int × Int := if (dbK x y l l.length).2 = 0 then (0, 8) else if 1 < (dbK x y l l.length).2 then (0, 9) else ((dbK x y l l.length).1, 0)
theorem dbF_no {x y : List UInt8} {l : List DE} (h : (dbK x y l l.length).2 = 0) : dbF x y l = (0, 8) := by rw [dbF, if_pos h]
theorem dbF_many {x y : List UInt8} {l : List DE} (h : 1 < (dbK x y l l.length).2) : dbF x y l = (0, 9) := by rw [dbF, if_neg (by omega), if_pos h]
theorem dbF_one {x y : List UInt8} {l : List DE} (h : (dbK x y l l.length).2 = 1) : dbF x y l = ((dbK x y l l.length).1, 0) := by rw [dbF, if_neg (by omega), if_neg (by omega)]
/-- a second one of the name -/
theorem dbF_two {x y : List UInt8} {l : List DE} {j : Nat} (hj : j < l.length) (h : (dbK x y l j).2 = 1) (h2 : deIs x y (l.getD j de0) = true) : dbF x y l = (0, 9) := by
  refine dbF_many ?_
  have := dbK_mono (x := x) (y := y) (l := l) (n := j + 1) (m := l.length) (by omega)
  rw [dbK_yes h2] at this
  dsimp only at this
  omega
end Go.Sx

/-
  Databases with an entry more, or with another one in a place, as plain functions: for every input.
-/
namespace Go.Sx
def deV (s : DE) : Prop := deC s = 0
theorem deV_small {s : DE} (h : deV s) : deSm 255 s ∧ deN s := by
  obtain ⟨h1, h2, h3, h4⟩ := deC_is h
  have l1 := name_len h1
  have l2 := inst_len h2
  refine ⟨⟨by omega, by omega, ?_⟩, h4⟩
  rcases h3 with h3 | h3
  · rw [h3]; decide
  · have hk := keyOk_is h3
    have hk2 := key_parts s.k
    omega
theorem de_grow {A B : Nat} (hAB : A ≤ B) {s : DE} (h : deSm A s) : deSm B s := by
  obtain ⟨h1, h2, h3⟩ := h
  exact ⟨by omega, by omega, h3⟩
/-- no entry comes before the one ahead of it -/
def srt (l : List DE) : Prop := ∀ i, i + 1 < l.length → 0 ≤ deO (l.getD (i + 1) de0) (l.getD i de0)
theorem dbC_mk {r : List UInt8} {l : List DE} (h : realmS r = true) (h2 : l.length ≤ 60) (h3 : ∀ s ∈ l, deV s) (h4 : srt l) : dbC r l = 0 := by
  refine dbC_ok h (by omega) fun i hi => ?_
  have h5 := h3 _ (getD_mem (d := de0) hi)
  refine deE_3 h5 fun hh => ?_
  have h6 := h4 (i - 1) (by omega)
  rw [show i - 1 + 1 = i by omega] at h6
  omega
theorem dbC_un {r : List UInt8} {l : List DE} (h : dbC r l = 0) : realmS r = true ∧ l.length ≤ 60 ∧ (∀ s ∈ l, deV s) ∧ srt l := by
  obtain ⟨h1, h2, h3⟩ := dbC_is h
  refine ⟨h1, h2, fun s hs => ?_, fun i hi => ?_⟩
  · obtain ⟨j, hj, rfl⟩ := mem_getD de0 hs
    have := h3 j hj
    by_cases e : deC (l.getD j de0) = 0
    · exact e
    · rw [deE_1 e] at this; exact this
  · have := h3 (i + 1) hi
    by_cases e : deC (l.getD (i + 1) de0) = 0
    · by_cases e2 : 0 < i + 1 ∧ deO (l.getD (i + 1) de0) (l.getD (i + 1 - 1) de0) < 0
      · rw [deE_2 e e2] at this; cases this
      · rw [show i + 1 - 1 = i by omega] at e2; omega
    · rw [deE_1 e] at this; exact absurd this e
/-- where an entry goes, and the entries with it -/
def posD (e : DE) (l : List DE) : Nat := l.findIdx fun s => decide (0 < deO s e)
theorem posD_le (e : DE) (l : List DE) : posD e l ≤ l.length := List.findIdx_le_length
theorem posD_at {e : DE} {l : List DE} {j : Nat} (h : j < l.length) (h1 : ∀ i, i < j → ¬ 0 < deO (l.getD i de0) e) (h2 : 0 < deO (l.getD j de0) e) : posD e l = j :=
  find_at de0 h (fun i hi => decide_eq_false (h1 i hi)) (decide_eq_true h2)
theorem posD_no {e : DE} {l : List DE} (h1 : ∀ i, i < l.length → ¬ 0 < deO (l.getD i de0) e) : posD e l = l.length :=
  find_no de0 (fun i hi => decide_eq_false (h1 i hi))
theorem posD_hit {e : DE} {l : List DE} (h : posD e l < l.length) : 0 < deO (l.getD (posD e l) de0) e := by
  have := find_hit (p := fun s => decide (0 < deO s e)) de0 h
  exact of_decide_eq_true this
theorem posD_miss {e : DE} {l : List DE} {i : Nat} (h : i < posD e l) : ¬ 0 < deO (l.getD i de0) e := by
  have := find_miss (p := fun s => decide (0 < deO s e)) (l := l) (i := i) de0 h
  exact of_decide_eq_false this
def insD (e : DE) (l : List DE) : List DE := l.take (posD e l) ++ [e] ++ l.drop (posD e l)
theorem insD_len (e : DE) (l : List DE) : (insD e l).length = l.length + 1 := by
  have := posD_le e l
  simp [insD]; omega
theorem insD_mem {e : DE} {l : List DE} {s : DE} (h : s ∈ insD e l) : s = e ∨ s ∈ l := by
  rw [insD, List.mem_append, List.mem_append] at h
  rcases h with (h | h) | h
  · exact .inr (List.mem_of_mem_take h)
  · exact .inl (by simpa using h)
  · exact .inr (List.mem_of_mem_drop h)
theorem insD_get (e : DE) (l : List DE) (i : Nat) : (insD e l).getD i de0 = if i < posD e l then l.getD i de0 else if i = posD e l then e else l.getD (i - 1) de0 := by
  have hp := posD_le e l
  have ht : (l.take (posD e l)).length = posD e l := by simp; omega
  unfold insD
  split
  · rename_i h
    rw [app_getD (by simp; omega), app_getD (by omega), take_getD h]
  · rename_i h
    split
    · rename_i h2
      rw [app_getD (by simp; omega), app_getD' (by omega), ht, h2]
      simp
    · rename_i h2
      rw [app_getD' (by simp; omega)]
      rw [List.length_append, ht, List.length_singleton, List.getD_eq_getElem?_getD, List.getElem?_drop, ← List.getD_eq_getElem?_getD]
      congr 1; omega
theorem insD_srt {e : DE} {l : List DE} (h : srt l) : srt (insD e l) := by
  intro i hi
  rw [insD_len] at hi
  have hp := posD_le e l
  rw [insD_get, insD_get]
  by_cases h1 : i + 1 < posD e l
  · rw [if_pos h1, if_pos (by omega)]
    exact h i (by omega)
  · rw [if_neg h1]
    by_cases h2 : i + 1 = posD e l
    · rw [if_pos h2, if_pos (by omega)]
      have := posD_miss (e := e) (l := l) (i := i) (by omega)
      rw [deO_anti]; omega
    · rw [if_neg h2, if_neg (by omega)]
      by_cases h3 : i = posD e l
      · rw [if_pos h3, show i + 1 - 1 = posD e l by omega]
        have := posD_hit (e := e) (l := l) (by omega)
        omega
      · rw [if_neg h3, show i + 1 - 1 = i - 1 + 1 by omega]
        exact h (i - 1) (by omega)
theorem insD_ok {r : List UInt8} {e : DE} {l : List DE} (h : dbC r l = 0) (he : deV e) (h2 : l.length < 60) : dbC r (insD e l) = 0 := by
  obtain ⟨h1, _, h3, h4⟩ := dbC_un h
  refine dbC_mk h1 (by rw [insD_len]; omega) (fun s hs => ?_) (insD_srt h4)
  rcases insD_mem hs with rfl | hs
  · exact he
  · exact h3 s hs
abbrev DbT := List UInt8 × List DE
def db0 : DbT := ([], [])
/-- with an entry more -/
def dbA (r : List UInt8) (l : List DE) (e : DE) : DbT × Int := if dbC r l ≠ 0 then (db0, dbC r l) else if deC e ≠ 0 then (db0, deC e) else if 60 ≤ l.length then (db0, 106) else ((r, insD e l), 0)
theorem dbA_1 {r : List UInt8} {l : List DE} {e : DE} (h : ¬ dbC r l = 0) : dbA r l e = (db0, dbC r l) := by rw [dbA, if_pos h]
theorem dbA_2 {r : List UInt8} {l : List DE} {e : DE} (h : dbC r l = 0) (h2 : ¬ deC e = 0) : dbA r l e = (db0, deC e) := by rw [dbA, if_neg (fun hh => hh h), if_pos h2]
theorem dbA_3 {r : List UInt8} {l : List DE} {e : DE} (h : dbC r l = 0) (h2 : deC e = 0) (h3 : 60 ≤ l.length) : dbA r l e = (db0, 106) := by rw [dbA, if_neg (fun hh => hh h), if_neg (fun hh => hh h2), if_pos h3]
theorem dbA_4 {r : List UInt8} {l : List DE} {e : DE} (h : dbC r l = 0) (h2 : deC e = 0) (h3 : ¬ 60 ≤ l.length) : dbA r l e = ((r, insD e l), 0) := by rw [dbA, if_neg (fun hh => hh h), if_neg (fun hh => hh h2), if_neg h3]
section
variable {r : List UInt8} {l : List DE} {i : Int} {e : DE} {k : Int}
end
/-- a database that is too long for the laws -/
def dbLgE (s : DE) : Prop := 100 < s.x.length ∨ 100 < s.y.length
instance (s : DE) : Decidable (dbLgE s) := by unfold dbLgE; infer_instance
def dbLg (r : List UInt8) (l : List DE) : Bool := decide (70 < l.length ∨ 100 < r.length) || l.any fun s => decide (dbLgE s)
theorem dbLg_is {r : List UInt8} {l : List DE} (h : dbLg r l = false) : (l.length ≤ 70 ∧ r.length ≤ 100) ∧ ∀ s ∈ l, s.x.length ≤ 100 ∧ s.y.length ≤ 100 := by
  unfold dbLg at h
  rw [Bool.or_eq_false_iff, decide_eq_false_iff_not, List.any_eq_false] at h
  refine ⟨by omega, fun s hs => ?_⟩
  have := h.2 s hs
  rw [decide_eq_true_eq] at this
  unfold dbLgE at this
  omega
theorem dbLg_long {r : List UInt8} {l : List DE} (h : 70 < l.length ∨ 100 < r.length) : dbLg r l = true := by rw [dbLg, decide_eq_true h]; rfl
theorem dbLg_at {r : List UInt8} {l : List DE} {j : Nat} (h : j < l.length) (h2 : dbLgE (l.getD j de0)) : dbLg r l = true := by
  unfold dbLg
  rw [Bool.or_eq_true]
  right
  rw [List.any_eq_true]
  exact ⟨_, getD_mem (d := de0) h, decide_eq_true h2⟩
theorem dbLg_no {r : List UInt8} {l : List DE} (h : ¬ (70 < l.length ∨ 100 < r.length)) (h2 : ∀ i, i < l.length → ¬ dbLgE (l.getD i de0)) : dbLg r l = false := by
  unfold dbLg
  rw [decide_eq_false h, Bool.false_or, List.any_eq_false]
  intro s hs
  obtain ⟨j, hj, rfl⟩ := mem_getD de0 hs
  rw [decide_eq_true_eq]
  exact h2 j hj
section
variable {x y : List UInt8} {l : List DE} {now bit e1 e2 : Int}
end
end Go.Sx

/-
  The text of a database, and which database a text is, as plain functions: for every input.
-/
set_option linter.all false
namespace Go.Sx
/-- the number that digits spell -/
def numF (acc : Nat) : List UInt8 → Option Nat
  | [] => some acc
  | c :: r => if 48 ≤ c.toNat ∧ c.toNat ≤ 57 then numF (acc * 10 + (c.toNat - 48)) r else none
theorem numF_append (s t : List UInt8) : ∀ acc, numF acc (s ++ t) = (numF acc s).bind fun a => numF a t := by
  induction s with
  | nil => intro acc; rfl
  | cons c r ih =>
    intro acc
    simp only [List.cons_append, numF]
    split
    · exact ih _
    · rfl
theorem numF_le {s : List UInt8} : ∀ {acc n : Nat}, numF acc s = some n → acc * 10 ^ s.length ≤ n ∧ n < (acc + 1) * 10 ^ s.length := by
  induction s with
  | nil => intro acc n h; simp only [numF, Option.some.injEq] at h; subst h; simp
  | cons c r ih =>
    intro acc n h
    simp only [numF] at h
    split at h
    · rename_i hc
      obtain ⟨h1, h2⟩ := ih h
      rw [List.length_cons, Nat.pow_succ]
      generalize 10 ^ r.length = P at *
      constructor
      · refine Nat.le_trans ?_ h1
        rw [Nat.mul_comm P 10, ← Nat.mul_assoc]
        exact Nat.mul_le_mul_right _ (by omega)
      · refine Nat.lt_of_lt_of_le h2 ?_
        rw [Nat.mul_comm P 10, ← Nat.mul_assoc]
        exact Nat.mul_le_mul_right _ (by omega)
    · cases h
theorem numF_ge {s : List UInt8} {acc n : Nat} (h : numF acc s = some n) : acc ≤ n := by
  have := (numF_le h).1
  have h2 : 0 < 10 ^ s.length := Nat.pow_pos (by decide)
  exact Nat.le_trans (Nat.le_mul_of_pos_right _ h2) this
def dg (n : Int) : List UInt8 := Go.Lib.decDigits n.toNat
theorem dig_of {d : Nat} (h : d < 10) : (UInt8.ofNat (48 + d)).toNat = 48 + d := by
  simp only [UInt8.toNat_ofNat']
  omega
theorem numF_dec : ∀ (n : Nat), numF 0 (Go.Lib.decDigits n) = some n := by
  intro n
  induction n using Nat.strongRecOn with
  | _ n ih =>
    rw [Go.Lib.decDigits]
    split
    · rename_i h
      simp only [numF, dig_of h]
      rw [if_pos (by omega)]
      simp
    · rename_i h
      rw [numF_append, ih (n / 10) (by omega)]
      simp only [Option.bind_some, numF, dig_of (Nat.mod_lt n (by decide : 0 < 10))]
      rw [if_pos (by omega)]
      congr 1
      omega
theorem dec_ne (n : Nat) : Go.Lib.decDigits n ≠ [] := by
  rw [Go.Lib.decDigits]
  split <;> simp
theorem dec_lead : ∀ (n : Nat), (Go.Lib.decDigits n).head? = some 48 → n = 0 := by
  intro n
  induction n using Nat.strongRecOn with
  | _ n ih =>
    rw [Go.Lib.decDigits]
    split
    · rename_i h
      intro h1
      simp only [List.head?_cons, Option.some.injEq] at h1
      have := congrArg UInt8.toNat h1
      rw [dig_of h] at this
      have e : (48 : UInt8).toNat = 48 := rfl
      omega
    · rename_i h
      intro h1
      rw [List.head?_append] at h1
      cases hd : (Go.Lib.decDigits (n / 10)).head? with
      | none => exact absurd (List.head?_eq_none_iff.1 hd) (dec_ne _)
      | some z =>
        rw [hd] at h1
        simp only [Option.some_or, Option.some.injEq] at h1
        subst h1
        have := ih (n / 10) (by omega) hd
        omega
theorem dec_ofL : ∀ (k : Nat) (s : List UInt8) (n : Nat), s.length = k → s ≠ [] → ¬ (1 < s.length ∧ s.head? = some 48) → numF 0 s = some n → Go.Lib.decDigits n = s := by
  intro k
  induction k with
  | zero => intro s n hk hn; exact absurd (List.eq_nil_of_length_eq_zero hk) hn
  | succ k ih =>
    intro s n hk hn hl h
    have es := List.dropLast_concat_getLast hn
    generalize hc' : s.getLast hn = c at es
    generalize ht' : s.dropLast = t at es
    subst es
    rw [numF_append] at h
    cases ht : numF 0 t with
    | none => rw [ht] at h; cases h
    | some m =>
      rw [ht] at h
      simp only [Option.bind_some, numF] at h
      split at h
      · rename_i hc
        simp only [Option.some.injEq] at h
        by_cases h0 : t = []
        · subst h0
          simp only [numF, Option.some.injEq] at ht
          subst ht
          rw [Go.Lib.decDigits, dif_pos (by omega)]
          simp only [List.nil_append, List.cons.injEq, and_true]
          refine UInt8.toNat.inj ?_
          rw [dig_of (by omega)]
          omega
        · obtain ⟨a, b, rfl⟩ := List.exists_cons_of_ne_nil h0
          have hh : ¬ a = 48 := fun e => hl ⟨by simp, by simp [e]⟩
          have e := ih (a :: b) m (by simpa using hk) h0 (fun hh' => hh (by simpa using hh'.2)) ht
          have hm : ¬ m = 0 := by
            rintro rfl
            rw [Go.Lib.decDigits, dif_pos (by omega)] at e
            simp only [List.cons.injEq] at e
            exact hh (e.1.symm.trans rfl)
          rw [Go.Lib.decDigits, dif_neg (by omega), show n / 10 = m by omega, e]
          congr 1
          simp only [List.cons.injEq, and_true]
          refine UInt8.toNat.inj ?_
          rw [dig_of (by omega)]
          omega
      · cases h
theorem dec_of {s : List UInt8} {n : Nat} (h1 : s ≠ []) (h2 : ¬ (1 < s.length ∧ s.head? = some 48)) (h3 : numF 0 s = some n) : Go.Lib.decDigits n = s := dec_ofL _ s n rfl h1 h2 h3
theorem dec_num (n : Nat) : ∀ c ∈ Go.Lib.decDigits n, 48 ≤ c.toNat ∧ c.toNat ≤ 57 := by
  induction n using Nat.strongRecOn with
  | _ n ih =>
    rw [Go.Lib.decDigits]
    split
    · rename_i h
      intro c hc
      simp only [List.mem_singleton] at hc
      subst hc
      rw [dig_of h]
      omega
    · rename_i h
      intro c hc
      rw [List.mem_append] at hc
      rcases hc with hc | hc
      · exact ih (n / 10) (by omega) c hc
      · simp only [List.mem_singleton] at hc
        subst hc
        rw [dig_of (Nat.mod_lt n (by decide : 0 < 10))]
        omega
theorem dec_len {n k : Nat} (h : n < 10 ^ k) (hk : 1 ≤ k) : (Go.Lib.decDigits n).length ≤ k := by
  induction k generalizing n with
  | zero => omega
  | succ k ih =>
    rw [Go.Lib.decDigits]
    split
    · simp
    · rename_i h1
      rw [List.length_append]
      have : k ≠ 0 := by rintro rfl; simp at h; omega
      have := ih (n := n / 10) (by rw [Nat.pow_succ] at h; omega) (by omega)
      simp only [List.length_singleton]
      omega
/-- a number as the document reads it -/
def numR (s : List UInt8) : Option Nat := if s = [] ∨ 19 < s.length ∨ (1 < s.length ∧ s.head? = some 48) then none else numF 0 s
theorem numR_is {s : List UInt8} {n : Nat} (h : numR s = some n) : dg (n : Int) = s ∧ s.length ≤ 19 ∧ n < 10 ^ 19 := by
  unfold numR at h
  split at h
  · cases h
  · rename_i h1
    have h2 : ¬ s = [] := fun e => h1 (.inl e)
    have h3 : ¬ 19 < s.length := fun e => h1 (.inr (.inl e))
    have h4 := fun e => h1 (.inr (.inr e))
    refine ⟨?_, by omega, ?_⟩
    · rw [dg, Int.toNat_natCast]
      exact dec_of h2 h4 h
    · have := (numF_le h).2
      rw [Nat.zero_add, Nat.one_mul] at this
      exact Nat.lt_of_lt_of_le this (Nat.pow_le_pow_right (by decide) (by omega))
theorem numR_dg {n : Int} (h : 0 ≤ n ∧ n < 10 ^ 19) : numR (dg n) = some n.toNat := by
  unfold numR dg
  rw [if_neg, numF_dec]
  rintro (h1 | h1 | ⟨h1, h2⟩)
  · exact dec_ne _ h1
  · have := dec_len (n := n.toNat) (k := 19) (by omega) (by decide)
    omega
  · have := dec_lead _ h2
    rw [this] at h1
    rw [Go.Lib.decDigits, dif_pos (by decide)] at h1
    simp at h1
/-- the library's readings of a number -/
theorem parseM_of {M : Nat} (hM : M ≤ 18446744073709551615) {s : List UInt8} : ∀ {acc n : Nat}, numF acc s = some n → n ≤ M → Go.Lib.parseUintM M acc s = .ok n := by
  induction s with
  | nil => intro acc n h _; simp only [numF, Option.some.injEq] at h; subst h; rfl
  | cons c r ih =>
    intro acc n h hn
    simp only [numF] at h
    split at h
    · rename_i hc
      have := numF_ge h
      rw [Go.Lib.parseUintM, if_pos hc, if_neg (by omega), if_neg (by omega)]
      exact ih h hn
    · cases h
theorem parse10_of {s : List UInt8} : ∀ {acc n : Nat}, numF acc s = some n → n < 18446744073709551616 → Go.Lib.parseUint10 acc s = .ok n := by
  induction s with
  | nil => intro acc n h _; simp only [numF, Option.some.injEq] at h; subst h; rfl
  | cons c r ih =>
    intro acc n h hn
    simp only [numF] at h
    split at h
    · rename_i hc
      have := numF_ge h
      rw [Go.Lib.parseUint10, if_pos hc, if_neg (by omega), if_neg (by omega)]
      exact ih h hn
    · cases h
theorem parseU_dg {n : Int} (h : 0 ≤ n ∧ n ≤ 18446744073709551615) : Go.Lib.parseUintB 64 (dg n) = .ok n.toNat := by
  unfold Go.Lib.parseUintB
  rw [if_neg (show ¬ dg n = [] from dec_ne _)]
  exact parseM_of (by decide) (numF_dec _) (by omega)
theorem atoi_dg {n : Int} (h : 0 ≤ n ∧ n ≤ 9223372036854775807) : Go.Lib.atoiAll (dg n) = .ok n := by
  unfold dg
  have h1 := numF_dec n.toNat
  have h2 := dec_num n.toNat
  have h3 := dec_ne n.toNat
  generalize Go.Lib.decDigits n.toNat = s at *
  obtain ⟨c, r, rfl⟩ := List.exists_cons_of_ne_nil h3
  have hc := h2 c (List.mem_cons_self ..)
  unfold Go.Lib.atoiAll
  simp only
  rw [if_neg (by omega)]
  have : Go.Lib.parseMag (c :: r) = .ok n.toNat := by
    unfold Go.Lib.parseMag
    rw [if_neg h3]
    exact parse10_of h1 (by omega)
  rw [this]
  simp only
  rw [if_neg (by omega), if_neg (by omega), if_neg (by omega)]
  congr 1
  omega
end Go.Sx

/-
  Lines and columns of a dump, and what is loaded, as plain functions: for every input.
-/
set_option linter.all false
namespace Go.Sx
/-- a text taken apart at a byte -/
def spl (c : UInt8) : List UInt8 → List (List UInt8)
  | [] => [[]]
  | x :: r => if x = c then [] :: spl c r else
    match spl c r with
    | [] => [[x]]
    | h :: t => (x :: h) :: t
def joi (c : UInt8) : List (List UInt8) → List UInt8
  | [] => []
  | [x] => x
  | x :: y :: r => x ++ c :: joi c (y :: r)
theorem spl_ne (c : UInt8) (s : List UInt8) : spl c s ≠ [] := by
  cases s with
  | nil => simp [spl]
  | cons x r =>
    simp only [spl]
    split
    · simp
    · split <;> simp
theorem joi_cons (c : UInt8) {x : List UInt8} {l : List (List UInt8)} (h : l ≠ []) : joi c (x :: l) = x ++ c :: joi c l := by
  obtain ⟨a, b, rfl⟩ := List.exists_cons_of_ne_nil h
  rfl
theorem joi_spl (c : UInt8) (s : List UInt8) : joi c (spl c s) = s := by
  induction s with
  | nil => rfl
  | cons x r ih =>
    simp only [spl]
    split
    · rename_i h
      rw [joi_cons c (spl_ne c r), ih, h]
      rfl
    · have hn := spl_ne c r
      generalize spl c r = S at *
      obtain ⟨a, b, rfl⟩ := List.exists_cons_of_ne_nil hn
      simp only
      cases b with
      | nil => simp only [joi] at ih ⊢; rw [ih]
      | cons y t => simp only [joi] at ih ⊢; rw [← ih]; rfl
theorem spl_no (c : UInt8) (s : List UInt8) (h : c ∉ s) : spl c s = [s] := by
  induction s with
  | nil => rfl
  | cons x r ih =>
    simp only [List.mem_cons, not_or] at h
    simp only [spl]
    rw [if_neg (fun e => h.1 e.symm), ih h.2]
theorem spl_app (c : UInt8) (s t : List UInt8) (h : c ∉ s) : spl c (s ++ c :: t) = s :: spl c t := by
  induction s with
  | nil => simp [spl]
  | cons x r ih =>
    simp only [List.mem_cons, not_or] at h
    simp only [List.cons_append, spl]
    rw [if_neg (fun e => h.1 e.symm), ih h.2]
theorem spl_joi (c : UInt8) {l : List (List UInt8)} (h : ∀ p ∈ l, c ∉ p) : l ≠ [] → spl c (joi c l) = l := by
  induction l with
  | nil => intro h; exact absurd rfl h
  | cons x r ih =>
    intro _
    cases r with
    | nil => exact spl_no c x (h x (by simp))
    | cons y t =>
      rw [joi_cons c (by simp), spl_app c _ _ (h x (by simp)), ih (fun p hp => h p (by simp [hp])) (by simp)]
/-- a text cut at a byte: what stands ahead of it and behind it -/
def cutc (c : UInt8) : List UInt8 → List UInt8 × List UInt8
  | [] => ([], [])
  | x :: r => if x = c then ([], r) else (x :: (cutc c r).1, (cutc c r).2)
theorem cutc_app (c : UInt8) (s t : List UInt8) (h : c ∉ s) : cutc c (s ++ c :: t) = (s, t) := by
  induction s with
  | nil => simp [cutc]
  | cons x r ih =>
    simp only [List.mem_cons, not_or] at h
    simp only [List.cons_append, cutc]
    rw [if_neg (fun e => h.1 e.symm), ih h.2]
theorem cutc_len (c : UInt8) (s : List UInt8) : (cutc c s).1.length ≤ s.length ∧ (cutc c s).2.length ≤ s.length ∧ (s ≠ [] → (cutc c s).2.length < s.length) := by
  induction s with
  | nil => simp [cutc]
  | cons x r ih =>
    simp only [cutc]
    split
    · simp
    · simp only [List.length_cons]
      refine ⟨by omega, by omega, fun _ => by omega⟩
/-- a line of a dump, and a dump -/
def colE (e : DE) : List (List UInt8) := [e.x, e.y, dg e.k, dg e.kv, dg e.ex, dg e.ml, dg e.atr, dg e.fl, dg e.un]
def lineE (e : DE) : List UInt8 := joi 9 (colE e)
def dumpB (r : List UInt8) (l : List DE) : List UInt8 := joi 10 (r :: (l.map lineE ++ [[]]))
def dumpS (r : List UInt8) (l : List DE) : List UInt8 × Int := if dbC r l = 0 then (dumpB r l, 0) else ([], dbC r l)
/-- how lines come in one after another -/
theorem dumpB_nil (r : List UInt8) : dumpB r [] = r ++ [10] := rfl
theorem joi_lines (c : UInt8) (l : List (List UInt8)) : joi c (l ++ [[]]) = (l.map fun x => x ++ [c]).flatten := by
  induction l with
  | nil => rfl
  | cons x r ih =>
    rw [List.cons_append, joi_cons c (by simp), ih]
    simp
theorem dumpB_eq (r : List UInt8) (l : List DE) : dumpB r l = r ++ [10] ++ (l.map fun e => lineE e ++ [10]).flatten := by
  rw [dumpB, joi_cons 10 (by simp), joi_lines]
  simp [List.map_map, Function.comp_def]
/-- an entry as the document reads it -/
def entR (s : List UInt8) : Option DE :=
  if (spl 9 s).length = 9 then
    match numR ((spl 9 s).getD 2 []), numR ((spl 9 s).getD 3 []), numR ((spl 9 s).getD 4 []), numR ((spl 9 s).getD 5 []), numR ((spl 9 s).getD 6 []), numR ((spl 9 s).getD 7 []), numR ((spl 9 s).getD 8 []) with
    | some k, some a, some b, some c, some d, some f, some g => if a ≤ 4294967295 ∧ b ≤ 4294967295 ∧ c ≤ 4294967295 ∧ d ≤ 4294967295 ∧ f ≤ 4294967295 ∧ g ≤ 4294967295 then some ⟨(spl 9 s).getD 0 [], (spl 9 s).getD 1 [], k, a, b, c, d, f, g⟩ else none
    | _, _, _, _, _, _, _ => none
  else none
theorem entR_is {s : List UInt8} {e : DE} (h : entR s = some e) : lineE e = s := by
  unfold entR at h
  split at h
  · rename_i h9
    have hj := joi_spl 9 s
    generalize spl 9 s = S at *
    match S, h9 with
    | [p0, p1, p2, p3, p4, p5, p6, p7, p8], _ =>
      simp only [List.getD_cons_zero, List.getD_cons_succ] at h
      split at h
      · rename_i k a b c d f g e2 e3 e4 e5 e6 e7 e8
        split at h
        · simp only [Option.some.injEq] at h
          subst h
          rw [lineE, colE, ← hj]
          simp only [(numR_is e2).1, (numR_is e3).1, (numR_is e4).1, (numR_is e5).1, (numR_is e6).1, (numR_is e7).1, (numR_is e8).1]
        · cases h
      · cases h
  · cases h
theorem dg_no {c : UInt8} (hc : c.toNat < 48) (n : Int) : c ∉ dg n := by
  intro h
  have := dec_num n.toNat c h
  omega
theorem print_no {s w : List UInt8} (h : printS s w = true) {c : UInt8} (hc : c.toNat < 33) : c ∉ s := by
  intro hm
  have := List.all_eq_true.1 h c hm
  rw [okB_no (.inl hc)] at this
  cases this
theorem name_no {s : List UInt8} (h : nameS s = true) {c : UInt8} (hc : c.toNat < 33) : c ∉ s := by
  simp only [nameS, Bool.and_eq_true] at h
  exact print_no h.2.2 hc
theorem inst_no {s : List UInt8} (h : instS s = true) {c : UInt8} (hc : c.toNat < 33) : c ∉ s := by
  simp only [instS, Bool.and_eq_true] at h
  exact print_no h.2 hc
theorem realm_no {s : List UInt8} (h : realmS s = true) {c : UInt8} (hc : c.toNat < 33) : c ∉ s := by
  simp only [realmS, Bool.and_eq_true] at h
  exact inst_no h.2 hc
theorem colE_no {e : DE} (h : deV e) {c : UInt8} (hc : c.toNat < 33) : ∀ p ∈ colE e, c ∉ p := by
  obtain ⟨h1, h2, h3, h4⟩ := deC_is h
  intro p hp
  simp only [colE, List.mem_cons, List.not_mem_nil, or_false] at hp
  rcases hp with rfl | rfl | rfl | rfl | rfl | rfl | rfl | rfl | rfl
  · exact name_no h1 hc
  · exact inst_no h2 hc
  all_goals exact dg_no (by omega) _
theorem spl_line {e : DE} (h : deV e) : spl 9 (lineE e) = colE e := spl_joi 9 (colE_no h (by decide)) (by simp [colE])
theorem mem_joi {c d : UInt8} {l : List (List UInt8)} (hd : d ≠ c) (h : ∀ p ∈ l, d ∉ p) : d ∉ joi c l := by
  induction l with
  | nil => simp [joi]
  | cons x r ih =>
    cases r with
    | nil => exact h x (by simp)
    | cons y t =>
      rw [joi_cons c (by simp)]
      intro hm
      rcases List.mem_append.1 hm with hm | hm
      · exact h x (by simp) hm
      · rcases List.mem_cons.1 hm with hm | hm
        · exact hd hm
        · exact ih (fun p hp => h p (by simp [hp])) hm
theorem line_no {e : DE} (h : deV e) : (10 : UInt8) ∉ lineE e := mem_joi (by decide) (colE_no h (by decide))
theorem deV_num {e : DE} (h : deV e) : (0 ≤ e.k ∧ e.k < 10 ^ 19) ∧ (0 ≤ e.kv ∧ e.kv ≤ 4294967295) ∧ (0 ≤ e.ex ∧ e.ex ≤ 4294967295) ∧ (0 ≤ e.ml ∧ e.ml ≤ 4294967295) ∧ (0 ≤ e.atr ∧ e.atr ≤ 4294967295) ∧ (0 ≤ e.fl ∧ e.fl ≤ 4294967295) ∧ (0 ≤ e.un ∧ e.un ≤ 4294967295) := by
  obtain ⟨h1, h2, h3, h4⟩ := deC_is h
  unfold deN at h4
  refine ⟨?_, by omega, by omega, by omega, by omega, by omega, by omega⟩
  rcases h3 with h3 | h3
  · rw [h3]; decide
  · have hk := keyOk_is h3
    have hk2 := key_parts e.k
    omega
theorem entR_line {e : DE} (h : deV e) : entR (lineE e) = some e := by
  obtain ⟨n0, n1, n2, n3, n4, n5, n6⟩ := deV_num h
  have q0 := numR_dg n0
  have q1 := numR_dg (n := e.kv) (by omega)
  have q2 := numR_dg (n := e.ex) (by omega)
  have q3 := numR_dg (n := e.ml) (by omega)
  have q4 := numR_dg (n := e.atr) (by omega)
  have q5 := numR_dg (n := e.fl) (by omega)
  have q6 := numR_dg (n := e.un) (by omega)
  unfold entR
  rw [spl_line h, colE]
  simp only [List.length_cons, List.length_nil, List.getD_cons_zero, List.getD_cons_succ, q0, q1, q2, q3, q4, q5, q6, if_true]
  rw [if_pos (by omega)]
  obtain ⟨x, y, k, kv, ex, ml, atr, fl, un⟩ := e
  simp only at *
  simp only [Option.some.injEq, DE.mk.injEq, true_and]
  omega
/-- an entry as the program reads it -/
def natE : Go.Lib.NumEnd Nat → Option Int | .ok n => some n | _ => none
def intE : Go.Lib.NumEnd Int → Option Int | .ok n => some n | _ => none
def entP (s : List UInt8) : Option DE :=
  if (spl 9 s).length = 9 then
    match natE (Go.Lib.parseUintB 64 ((spl 9 s).getD 2 [])), intE (Go.Lib.atoiAll ((spl 9 s).getD 3 [])), intE (Go.Lib.atoiAll ((spl 9 s).getD 4 [])), intE (Go.Lib.atoiAll ((spl 9 s).getD 5 [])), intE (Go.Lib.atoiAll ((spl 9 s).getD 6 [])), intE (Go.Lib.atoiAll ((spl 9 s).getD 7 [])), intE (Go.Lib.atoiAll ((spl 9 s).getD 8 [])) with
    | some k, some a, some b, some c, some d, some f, some g => some ⟨(spl 9 s).getD 0 [], (spl 9 s).getD 1 [], k, a, b, c, d, f, g⟩
    | _, _, _, _, _, _, _ => none
  else none
theorem entP_line {e : DE} (h : deV e) : entP (lineE e) = some e := by
  obtain ⟨n0, n1, n2, n3, n4, n5, n6⟩ := deV_num h
  have q0 := parseU_dg (n := e.k) (by omega)
  have q1 := atoi_dg (n := e.kv) (by omega)
  have q2 := atoi_dg (n := e.ex) (by omega)
  have q3 := atoi_dg (n := e.ml) (by omega)
  have q4 := atoi_dg (n := e.atr) (by omega)
  have q5 := atoi_dg (n := e.fl) (by omega)
  have q6 := atoi_dg (n := e.un) (by omega)
  unfold entP
  rw [spl_line h, colE]
  simp only [List.length_cons, List.length_nil, List.getD_cons_zero, List.getD_cons_succ, q0, q1, q2, q3, q4, q5, q6, if_true, natE, intE]
  obtain ⟨x, y, k, kv, ex, ml, atr, fl, un⟩ := e
  simp only at *
  simp only [Option.some.injEq, DE.mk.injEq, true_and, and_true]
  omega
/-- the entries of lines -/
def entsR : List (List UInt8) → Option (List DE)
  | [] => some []
  | s :: r => (entR s).bind fun e => (entsR r).bind fun l => some (e :: l)
theorem entsR_is {ls : List (List UInt8)} : ∀ {l : List DE}, entsR ls = some l → l.map lineE = ls := by
  induction ls with
  | nil => intro l h; simp only [entsR, Option.some.injEq] at h; subst h; rfl
  | cons s r ih =>
    intro l h
    simp only [entsR] at h
    cases h1 : entR s with
    | none => rw [h1] at h; cases h
    | some e =>
      rw [h1] at h
      cases h2 : entsR r with
      | none => rw [h2] at h; cases h
      | some l' =>
        rw [h2] at h
        simp only [Option.bind_some, Option.some.injEq] at h
        subst h
        simp [entR_is h1, ih h2]
theorem entsR_lines {l : List DE} (h : ∀ e ∈ l, deV e) : entsR (l.map lineE) = some l := by
  induction l with
  | nil => rfl
  | cons e r ih =>
    simp only [List.map_cons, entsR]
    rw [entR_line (h e (by simp)), ih (fun e he => h e (by simp [he]))]
    rfl
/-- what is loaded, as the document says it -/
def loadR (s : List UInt8) : Option (List UInt8 × List DE) :=
  if 2 ≤ (spl 10 s).length ∧ (spl 10 s).getLast? = some [] then
    (entsR ((spl 10 s).drop 1).dropLast).bind fun l => if dbC ((spl 10 s).getD 0 []) l = 0 then some ((spl 10 s).getD 0 [], l) else none
  else none
theorem loadR_is {s r : List UInt8} {l : List DE} (h : loadR s = some (r, l)) : dbC r l = 0 ∧ dumpB r l = s := by
  unfold loadR at h
  split at h
  · rename_i h2
    obtain ⟨h2, h3⟩ := h2
    have hj := joi_spl 10 s
    generalize spl 10 s = S at *
    match S, h2 with
    | p0 :: p1 :: T, _ =>
      simp only [List.drop_succ_cons, List.drop_zero, List.getD_cons_zero] at h
      cases he : entsR (p1 :: T).dropLast with
      | none => rw [he] at h; cases h
      | some l' =>
        rw [he] at h
        simp only [Option.bind_some] at h
        split at h
        · rename_i hc
          simp only [Option.some.injEq, Prod.mk.injEq] at h
          obtain ⟨rfl, rfl⟩ := h
          refine ⟨hc, ?_⟩
          rw [dumpB, entsR_is he, ← hj]
          congr 2
          rw [List.getLast?_cons_cons] at h3
          have hl : (p1 :: T).getLast (by simp) = [] := by
            rw [List.getLast?_eq_some_getLast (by simp)] at h3
            exact Option.some.inj h3
          rw [← hl]
          exact List.dropLast_concat_getLast (by simp)
        · cases h
  · cases h
theorem loadR_dump {r : List UInt8} {l : List DE} (h : dbC r l = 0) : loadR (dumpB r l) = some (r, l) := by
  obtain ⟨hr, h60, hv, _⟩ := dbC_un h
  have hs : spl 10 (dumpB r l) = r :: (l.map lineE ++ [[]]) := by
    refine spl_joi 10 ?_ (by simp)
    intro p hp
    simp only [List.mem_cons, List.mem_append, List.mem_map, List.not_mem_nil, or_false] at hp
    rcases hp with rfl | ⟨e, he, rfl⟩ | rfl
    · exact realm_no hr (by decide)
    · exact line_no (hv e he)
    · simp
  unfold loadR
  rw [hs]
  simp only [List.drop_succ_cons, List.drop_zero, List.getD_cons_zero, List.dropLast_concat]
  rw [if_pos ⟨by simp, by rw [List.getLast?_cons]; simp⟩, entsR_lines hv]
  simp only [Option.bind_some]
  rw [if_pos h]
/-- the entries that the program reads, at most so many -/
def entsP : Nat → List UInt8 → Option (List DE)
  | 0, _ => some []
  | n + 1, s => if s = [] then some [] else (entP (cutc 10 s).1).bind fun e => (entsP n (cutc 10 s).2).bind fun l => some (e :: l)
theorem entsP_lines : ∀ {n : Nat} {l : List DE}, l.length ≤ n → (∀ e ∈ l, deV e) → entsP n (l.map fun e => lineE e ++ [10]).flatten = some l := by
  intro n
  induction n with
  | zero =>
    intro l hl _
    have h0 : l = [] := List.eq_nil_of_length_eq_zero (by omega)
    subst h0
    rfl
  | succ n ih =>
    intro l hl hv
    cases l with
    | nil => rfl
    | cons e r =>
      have hc : cutc 10 (((e :: r).map fun e => lineE e ++ [10]).flatten) = (lineE e, (r.map fun e => lineE e ++ [10]).flatten) := by
        rw [List.map_cons, List.flatten_cons, List.append_assoc]
        exact cutc_app 10 _ _ (line_no (hv e (by simp)))
      rw [entsP, if_neg (by simp), hc]
      simp only
      rw [entP_line (hv e (by simp)), ih (by simpa using hl) (fun e he => hv e (by simp [he]))]
      rfl
/-- what the program loads -/
def loadP (s : List UInt8) : Option (List UInt8 × List DE) :=
  (entsP 60 (cutc 10 s).2).bind fun l => if dumpS (cutc 10 s).1 l = (s, 0) then some ((cutc 10 s).1, l) else none
theorem loadP_is {s r : List UInt8} {l : List DE} (h : loadP s = some (r, l)) : dbC r l = 0 ∧ dumpB r l = s := by
  unfold loadP at h
  cases he : entsP 60 (cutc 10 s).2 with
  | none => rw [he] at h; cases h
  | some l' =>
    rw [he] at h
    simp only [Option.bind_some] at h
    split at h
    · rename_i hd
      simp only [Option.some.injEq, Prod.mk.injEq] at h
      obtain ⟨rfl, rfl⟩ := h
      unfold dumpS at hd
      split at hd
      · rename_i hc
        exact ⟨hc, (Prod.mk.inj hd).1⟩
      · rename_i hc
        exact absurd (Prod.mk.inj hd).2 hc
    · cases h
theorem loadP_dump {r : List UInt8} {l : List DE} (h : dbC r l = 0) : loadP (dumpB r l) = some (r, l) := by
  obtain ⟨hr, h60, hv, _⟩ := dbC_un h
  have hc : cutc 10 (dumpB r l) = (r, (l.map fun e => lineE e ++ [10]).flatten) := by
    rw [dumpB_eq, List.append_assoc]
    exact cutc_app 10 _ _ (realm_no hr (by decide))
  unfold loadP
  rw [hc]
  simp only
  rw [entsP_lines h60 hv]
  simp only [Option.bind_some]
  rw [if_pos (by rw [dumpS, if_pos h])]
/-- the program loads what the document says -/
theorem load_eq (s : List UInt8) : loadP s = loadR s := by
  cases h : loadP s with
  | some q =>
    obtain ⟨h1, h2⟩ := loadP_is h
    rw [← h2, loadR_dump h1]
  | none =>
    cases h' : loadR s with
    | none => rfl
    | some q =>
      obtain ⟨h1, h2⟩ := loadR_is h'
      rw [← h2, loadP_dump h1] at h
      cases h
end Go.Sx

/-
  The library's cuts and the document's at one byte, as plain functions: for every input.
-/
set_option linter.all false
namespace Go.Sx
open Go.Lib (index occAt count)
theorem index_at {c : UInt8} {a t : List UInt8} (h : c ∉ a) : index (a ++ c :: t) [c] = a.length := by
  refine Go.Lib.index_first (by simp) (by simp [occAt]) fun j hj => ?_
  cases ho : occAt (a ++ c :: t) [c] j with
  | false => rfl
  | true =>
    have := Go.Lib.occAt_head rfl ho
    rw [List.getElem?_append_left hj] at this
    exact absurd (List.mem_of_getElem? this) h
theorem index_no {c : UInt8} {s : List UInt8} (h : c ∉ s) : index s [c] = -1 := by
  refine Go.Lib.index_none fun j hj => ?_
  cases ho : occAt s [c] j with
  | false => rfl
  | true => exact absurd (List.mem_of_getElem? (Go.Lib.occAt_head rfl ho)) h
theorem cutc_no {c : UInt8} {s : List UInt8} (h : c ∉ s) : cutc c s = (s, []) := by
  induction s with
  | nil => rfl
  | cons x r ih =>
    simp only [List.mem_cons, not_or] at h
    simp only [cutc]
    rw [if_neg (fun e => h.1 e.symm), ih h.2]
theorem byte_cases (c : UInt8) (s : List UInt8) : c ∉ s ∨ ∃ a t, s = a ++ c :: t ∧ c ∉ a := by
  by_cases h : c ∈ s
  · exact .inr (List.eq_append_cons_of_mem h)
  · exact .inl h
theorem splitK_spl (c : UInt8) : ∀ (n : Nat) (s : List UInt8), s.length ≤ n → Go.Lib.splitK [c] 0 (count s [c]) s = spl c s := by
  intro n
  induction n with
  | zero =>
    intro s hs
    have : s = [] := List.eq_nil_of_length_eq_zero (by omega)
    subst this
    rw [Go.Lib.count_miss (index_no (by simp))]
    rfl
  | succ n ih =>
    intro s hs
    rcases byte_cases c s with h | ⟨a, t, rfl, h⟩
    · rw [Go.Lib.count_miss (index_no h), spl_no c s h]
      rfl
    · have hi := index_at (c := c) (t := t) h
      have hd : (a ++ c :: t).drop (a.length + [c].length) = t := by
        rw [List.drop_append]
        simp
      rw [Go.Lib.count_hit (by simp) hi, hd, Nat.add_comm, Go.Lib.splitK, if_neg (by rw [hi]; simp), hi, Int.toNat_natCast, hd, spl_app c a t h, ih t (by simp at hs; omega)]
      simp
theorem splitB_spl (c : UInt8) (s : List UInt8) : (Go.Lib.splitB ⟨#[c]⟩ 0 (Go.Lib.countB ⟨⟨s⟩⟩ ⟨#[c]⟩) ⟨⟨s⟩⟩).map (fun b => b.data.toList) = spl c s := by
  rw [Go.Lib.splitB_data]
  exact splitK_spl c _ s (Nat.le_refl _)
theorem spl_snoc_eq (c : UInt8) (s : List UInt8) : spl c (s ++ [c]) = spl c s ++ [[]] := by
  induction s with
  | nil => simp [spl]
  | cons x r ih =>
    have hn := spl_ne c r
    simp only [List.cons_append, spl]
    split
    · rw [ih]; rfl
    · rw [ih]
      obtain ⟨a, b, e⟩ := List.exists_cons_of_ne_nil hn
      rw [e]
      rfl
theorem spl_snoc_ne {c x : UInt8} (hx : ¬ x = c) {s : List UInt8} : ∀ {Q : List (List UInt8)} {z : List UInt8}, spl c s = Q ++ [z] → spl c (s ++ [x]) = Q ++ [z ++ [x]] := by
  induction s with
  | nil =>
    intro Q z h
    simp only [spl] at h
    have : Q = [] ∧ z = [] := by
      cases Q with
      | nil => simp at h; exact ⟨rfl, h⟩
      | cons a b => simp at h
    obtain ⟨rfl, rfl⟩ := this
    simp [spl, hx]
  | cons y r ih =>
    intro Q z h
    simp only [List.cons_append, spl] at h ⊢
    split at h
    · rename_i hy
      rw [if_pos hy]
      cases Q with
      | nil => simp at h; exact absurd h.2 (spl_ne c r)
      | cons a b =>
        simp only [List.cons_append, List.cons.injEq] at h
        rw [ih h.2, ← h.1]
        rfl
    · rename_i hy
      rw [if_neg hy]
      have hn := spl_ne c r
      obtain ⟨a, b, e⟩ := List.exists_cons_of_ne_nil hn
      rw [e] at h
      simp only at h
      cases b with
      | nil =>
        have : Q = [] ∧ z = y :: a := by
          cases Q with
          | nil => simp at h; exact ⟨rfl, h.symm⟩
          | cons a' b' => simp at h
        obtain ⟨rfl, rfl⟩ := this
        rw [ih (Q := []) (z := a) (by rw [e]; rfl)]
        rfl
      | cons a' b' =>
        cases Q with
        | nil => simp at h
        | cons q0 Q' =>
          simp only [List.cons_append, List.cons.injEq] at h
          rw [ih (Q := a :: Q') (z := z) (by rw [e, h.2]; rfl), ← h.1]
          rfl
theorem spl_last (c : UInt8) (s : List UInt8) : ∃ Q z, spl c s = Q ++ [z] := ⟨_, _, (List.dropLast_concat_getLast (spl_ne c s)).symm⟩
theorem spl_len (c : UInt8) (s : List UInt8) : (spl c s).length ≤ s.length + 1 := by
  induction s with
  | nil => simp [spl]
  | cons x r ih =>
    simp only [spl]
    split
    · simp; omega
    · have hn := spl_ne c r
      obtain ⟨a, b, e⟩ := List.exists_cons_of_ne_nil hn
      rw [e] at ih ⊢
      simp at ih ⊢
      omega
theorem spl_part {c : UInt8} {s p : List UInt8} (h : p ∈ spl c s) : p.length ≤ s.length := by
  induction s generalizing p with
  | nil => simp [spl] at h; subst h; simp
  | cons x r ih =>
    simp only [spl] at h
    split at h
    · rcases List.mem_cons.1 h with rfl | h
      · simp
      · have := ih h; simp; omega
    · have hn := spl_ne c r
      obtain ⟨a, b, e⟩ := List.exists_cons_of_ne_nil hn
      rw [e] at h
      simp only at h
      rcases List.mem_cons.1 h with rfl | h
      · have := ih (p := a) (by rw [e]; simp)
        simp; omega
      · have := ih (p := p) (by rw [e]; simp [h])
        simp; omega
theorem numF_snoc {s : List UInt8} {x : UInt8} {n : Nat} (h : numF 0 s = some n) : numF 0 (s ++ [x]) = if 48 ≤ x.toNat ∧ x.toNat ≤ 57 then some (n * 10 + (x.toNat - 48)) else none := by
  rw [numF_append, h]
  rfl
theorem numF_bad {s t : List UInt8} {x : UInt8} (hx : ¬ (48 ≤ x.toNat ∧ x.toNat ≤ 57)) : numF 0 (s ++ x :: t) = none := by
  rw [numF_append]
  cases numF 0 s with
  | none => rfl
  | some a => simp only [Option.bind_some, numF]; rw [if_neg hx]
end Go.Sx

/-
  What caches of credentials are, as plain functions: for every input.
-/
namespace Go.Sx
structure CR where
  x : List UInt8
  y : List UInt8
  z : List UInt8
  k : Int
  lf : Int
  kv : Int
  is : Int
  t : List UInt8
/-- what a valid credential is -/
def crR0 (s : CR) : Prop := (0 ≤ s.lf ∧ s.lf ≤ 255) ∧ (0 ≤ s.kv ∧ s.kv ≤ 255) ∧ (0 ≤ s.is ∧ s.is ≤ 4294967295)
instance (s : CR) : Decidable (crR0 s) := by unfold crR0; infer_instance
end Go.Sx

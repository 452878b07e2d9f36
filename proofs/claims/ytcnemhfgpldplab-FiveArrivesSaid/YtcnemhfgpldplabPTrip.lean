/-
  What was written is read as it was: plain functions, for every input.
-/
import Derived.Test.YtcnemhfgpldplabPData
set_option linter.all false
namespace Go.Sx

theorem byteOf_val (n : Int) : ((byteOf n).toNat : Int) = n % 256 := by
  rw [byteOf_toNat]
  simp [IntKind.wrap, IntKind.bits, IntKind.signed]
theorem digit_val (n : Int) (i : Nat) : ((digit n i).toNat : Int) = n / 256 ^ i % 256 := by
  rw [digit, byteOf_val, Int.fdiv_eq_ediv_of_nonneg _ (by exact Int.pow_nonneg (by omega))]
theorem mid_getD {p d r : List UInt8} {k : Int} {i : Nat} (hk : k = p.length) (hi : i < d.length) : (p ++ d ++ r).getD (k + (i : Int)).toNat 0 = d.getD i 0 := by
  subst hk
  rw [show ((p.length : Int) + (i : Int)).toNat = p.length + i by omega, List.append_assoc, List.getD_eq_getElem?_getD, List.getD_eq_getElem?_getD, List.getElem?_append_right (by omega), List.getElem?_append_left (by omega)]
  congr 2
  omega
theorem getV_mid {l : Bool} {size : Nat} {p d r : List UInt8} {k : Int} (hk : k = p.length) (hd : d.length = size) : getV l size (p ++ d ++ r) k =
    (List.range size).foldl (fun n i => n * 256 + ((d.getD (if l then size - 1 - i else i) 0).toNat : Int)) 0 := by
  unfold getV
  have key : ∀ (q : List Nat) (a : Int), (∀ i ∈ q, i < size) →
      q.foldl (fun n i => n * 256 + (((p ++ d ++ r).getD (k + ((if l then size - 1 - i else i : Nat) : Int)).toNat 0).toNat : Int)) a =
      q.foldl (fun n i => n * 256 + ((d.getD (if l then size - 1 - i else i) 0).toNat : Int)) a := by
    intro q
    induction q with
    | nil => intro a _; rfl
    | cons x q ih =>
      intro a hq
      have hx := hq x (by simp)
      simp only [List.foldl_cons]
      rw [mid_getD hk (by split <;> omega)]
      exact ih _ (fun i hi => hq i (by simp [hi]))
  exact key _ _ (fun i hi => by simpa using hi)
theorem num4 (l : Bool) (n : Int) (h : 0 ≤ n ∧ n ≤ 4294967295) : (List.range 4).foldl (fun m i => m * 256 + (((numS l 4 n).getD (if l then 4 - 1 - i else i) 0).toNat : Int)) 0 = n := by
  have d0 := digit_val n 0
  have d1 := digit_val n 1
  have d2 := digit_val n 2
  have d3 := digit_val n 3
  cases l
  · simp [numS, List.range, List.range.loop] at *
    omega
  · simp [numS, List.range, List.range.loop] at *
    omega
theorem num2 (l : Bool) (n : Int) (h : 0 ≤ n ∧ n ≤ 65535) : (List.range 2).foldl (fun m i => m * 256 + (((numS l 2 n).getD (if l then 2 - 1 - i else i) 0).toNat : Int)) 0 = n := by
  have d0 := digit_val n 0
  have d1 := digit_val n 1
  cases l
  · simp [numS, List.range, List.range.loop] at *
    omega
  · simp [numS, List.range, List.range.loop] at *
    omega
theorem num1 (l : Bool) (n : Int) (h : 0 ≤ n ∧ n ≤ 255) : (List.range 1).foldl (fun m i => m * 256 + (((numS l 1 n).getD (if l then 1 - 1 - i else i) 0).toNat : Int)) 0 = n := by
  have d0 := digit_val n 0
  cases l
  · simp [numS, List.range, List.range.loop] at *
    omega
  · simp [numS, List.range, List.range.loop] at *
    omega
theorem getS4_at {l : Bool} {b p r : List UInt8} {n k : Int} (hb : b = p ++ numS l 4 n ++ r) (hk : k = p.length) (hn : 0 ≤ n ∧ n ≤ 4294967295) : getS l 4 b k = (n, k + 4, 0) := by
  subst hb
  rw [getS_ok (roomS_0 (by omega) (by simp; omega) (by omega) (by simp; omega)), getV_mid hk (by simp), num4 l n hn]
  rfl
theorem getS2_at {l : Bool} {b p r : List UInt8} {n k : Int} (hb : b = p ++ numS l 2 n ++ r) (hk : k = p.length) (hn : 0 ≤ n ∧ n ≤ 65535) : getS l 2 b k = (n, k + 2, 0) := by
  subst hb
  rw [getS_ok (roomS_0 (by omega) (by simp; omega) (by omega) (by simp; omega)), getV_mid hk (by simp), num2 l n hn]
  rfl
theorem getS1_at {l : Bool} {b p r : List UInt8} {n k : Int} (hb : b = p ++ numS l 1 n ++ r) (hk : k = p.length) (hn : 0 ≤ n ∧ n ≤ 255) : getS l 1 b k = (n, k + 1, 0) := by
  subst hb
  rw [getS_ok (roomS_0 (by omega) (by simp; omega) (by omega) (by simp; omega)), getV_mid hk (by simp), num1 l n hn]
  rfl
theorem bytesS_at {b p d r : List UInt8} {k n : Int} (hb : b = p ++ d ++ r) (hk : k = p.length) (hn : n = d.length) : bytesS b k n = (d, k + n, 0) := by
  subst hb; subst hk; subst hn
  rw [bytesS_ok (roomS_0 (by omega) (by simp; omega) (by omega) (by simp; omega))]
  congr 1
  rw [show ((p.length : Int) + (d.length : Int)).toNat = (p ++ d).length by simp; omega, List.take_left, Int.toNat_natCast, List.drop_left]
theorem textS_at {b p s r : List UInt8} {k : Int} (hb : b = p ++ (s ++ [0]) ++ r) (hk : k = p.length) (hs : s.length ≤ 39) (hz : 0 ∉ s) : textS b k = (s, k + s.length + 1, 0) := by
  have hr : roomS b.length k 0 = 0 := by subst hb; exact roomS_0 (by omega) (by simp; omega) (by omega) (by simp; omega)
  have hrest : restS b k = s ++ 0 :: (r.take (39 - s.length)) := by
    subst hb; subst hk
    rw [restS, Int.toNat_natCast, List.append_assoc, List.drop_left, List.append_assoc, List.take_append, List.take_of_length_le (by omega)]
    congr 1
    rw [show 40 - s.length = (39 - s.length) + 1 by omega]
    rfl
  have hi := indexByte_mid s (r.take (39 - s.length)) 0 hz
  rw [textS_yes hr hrest (by omega), hi, Int.toNat_natCast, List.take_left]
def prinS (b : List UInt8) (k : Int) : (List UInt8 × List UInt8 × List UInt8) × Int × Int :=
  if (textS b k).2.2 ≠ 0 then (([], [], []), 0, (textS b k).2.2) else
  if (textS b (textS b k).2.1).2.2 ≠ 0 then (([], [], []), 0, (textS b (textS b k).2.1).2.2) else
  if (textS b (textS b (textS b k).2.1).2.1).2.2 ≠ 0 then (([], [], []), 0, (textS b (textS b (textS b k).2.1).2.1).2.2) else
  if validS (textS b k).1 (textS b (textS b k).2.1).1 (textS b (textS b (textS b k).2.1).2.1).1 = true then
    (((textS b k).1, (textS b (textS b k).2.1).1, (textS b (textS b (textS b k).2.1).2.1).1), (textS b (textS b (textS b k).2.1).2.1).2.1, 0)
  else (([], [], []), 0, 103)
theorem prinS_1 {b : List UInt8} {k : Int} (h : ¬ (textS b k).2.2 = 0) : prinS b k = (([], [], []), 0, (textS b k).2.2) := by rw [prinS, if_pos h]
theorem prinS_2 {b : List UInt8} {k : Int} (h : (textS b k).2.2 = 0) (h2 : ¬ (textS b (textS b k).2.1).2.2 = 0) : prinS b k = (([], [], []), 0, (textS b (textS b k).2.1).2.2) := by rw [prinS, if_neg (by simp [h]), if_pos h2]
theorem prinS_3 {b : List UInt8} {k : Int} (h : (textS b k).2.2 = 0) (h2 : (textS b (textS b k).2.1).2.2 = 0) (h3 : ¬ (textS b (textS b (textS b k).2.1).2.1).2.2 = 0) : prinS b k = (([], [], []), 0, (textS b (textS b (textS b k).2.1).2.1).2.2) := by
  rw [prinS, if_neg (by simp [h]), if_neg (by simp [h2]), if_pos h3]
theorem prinS_4 {b : List UInt8} {k : Int} (h : (textS b k).2.2 = 0) (h2 : (textS b (textS b k).2.1).2.2 = 0) (h3 : (textS b (textS b (textS b k).2.1).2.1).2.2 = 0) (hv : validS (textS b k).1 (textS b (textS b k).2.1).1 (textS b (textS b (textS b k).2.1).2.1).1 = false) : prinS b k = (([], [], []), 0, 103) := by
  rw [prinS, if_neg (by simp [h]), if_neg (by simp [h2]), if_neg (by simp [h3]), if_neg (by simp [hv])]
theorem prinS_5 {b : List UInt8} {k : Int} (h : (textS b k).2.2 = 0) (h2 : (textS b (textS b k).2.1).2.2 = 0) (h3 : (textS b (textS b (textS b k).2.1).2.1).2.2 = 0) (hv : validS (textS b k).1 (textS b (textS b k).2.1).1 (textS b (textS b (textS b k).2.1).2.1).1 = true) : prinS b k = (((textS b k).1, (textS b (textS b k).2.1).1, (textS b (textS b (textS b k).2.1).2.1).1), (textS b (textS b (textS b k).2.1).2.1).2.1, 0) := by
  rw [prinS, if_neg (by simp [h]), if_neg (by simp [h2]), if_neg (by simp [h3]), if_pos hv]
theorem text_next (b : List UInt8) (k : Int) : 0 ≤ (textS b k).2.1 ∧ (textS b k).2.1 ≤ b.length := by
  unfold textS
  split
  · simp
  · rename_i h
    have hr := roomS_ok (Decidable.not_not.mp h)
    split
    · have hi := indexByte_bounds (restS b k) 0
      have hl := rest_len (b := b) (k := k) (by omega)
      simp only
      omega
    · split <;> simp
theorem text_len (b : List UInt8) (k : Int) : (textS b k).1.length ≤ 40 := by
  unfold textS
  split
  · simp
  · split
    · simp [restS]; omega
    · split <;> simp
theorem get_next (l : Bool) (s : Nat) (b : List UInt8) (k : Int) : 0 ≤ (getS l s b k).2.1 ∧ (getS l s b k).2.1 ≤ b.length := by
  unfold getS
  split
  · simp
  · rename_i h
    have hr := roomS_ok (Decidable.not_not.mp h)
    simp only
    omega
theorem bytes_next (b : List UInt8) (k n : Int) : 0 ≤ (bytesS b k n).2.1 ∧ (bytesS b k n).2.1 ≤ b.length := by
  unfold bytesS
  split
  · simp
  · rename_i h
    have hr := roomS_ok (Decidable.not_not.mp h)
    simp only
    omega
theorem prin_next (b : List UInt8) (k : Int) : 0 ≤ (prinS b k).2.1 ∧ (prinS b k).2.1 ≤ b.length := by
  have h := text_next b (textS b (textS b k).2.1).2.1
  unfold prinS
  split
  · simp
  · split
    · simp
    · split
      · simp
      · split
        · simp only; omega
        · simp
theorem prin_len (b : List UInt8) (k : Int) : (prinS b k).1.1.length ≤ 40 ∧ (prinS b k).1.2.1.length ≤ 40 ∧ (prinS b k).1.2.2.length ≤ 40 := by
  have h1 := text_len b k
  have h2 := text_len b (textS b k).2.1
  have h3 := text_len b (textS b (textS b k).2.1).2.1
  unfold prinS
  split
  · simp
  · split
    · simp
    · split
      · simp
      · split
        · exact ⟨h1, h2, h3⟩
        · simp
theorem print_nz {s w : List UInt8} (h : printS s w = true) : 0 ∉ s := by
  intro hm
  have := List.all_eq_true.mp h 0 hm
  unfold okB at this
  simp at this
theorem name_nz {s : List UInt8} (h : nameS s = true) : 0 ∉ s := by
  unfold nameS at h
  simp only [Bool.and_eq_true] at h
  exact print_nz h.2.2
theorem inst_nz {s : List UInt8} (h : instS s = true) : 0 ∉ s := by
  unfold instS at h
  simp only [Bool.and_eq_true] at h
  exact print_nz h.2
theorem realm_nz {s : List UInt8} (h : realmS s = true) : 0 ∉ s := by
  unfold realmS at h
  simp only [Bool.and_eq_true] at h
  exact inst_nz h.2
theorem valid_nz {x y z : List UInt8} (h : validS x y z = true) : 0 ∉ x ∧ 0 ∉ y ∧ 0 ∉ z := by
  unfold validS at h
  simp only [Bool.and_eq_true] at h
  exact ⟨name_nz h.1, inst_nz h.2.1, realm_nz h.2.2⟩
/-- three texts that stand in some bytes -/
theorem prin_texts {b p x y z r : List UInt8} {k : Int} (hb : b = p ++ (x ++ [0] ++ y ++ [0] ++ z ++ [0]) ++ r) (hk : k = p.length) (hv : validS x y z = true) :
    textS b k = (x, k + x.length + 1, 0) ∧ textS b (k + x.length + 1) = (y, k + x.length + 1 + y.length + 1, 0) ∧ textS b (k + x.length + 1 + y.length + 1) = (z, k + x.length + 1 + y.length + 1 + z.length + 1, 0) := by
  obtain ⟨l1, l2, l3⟩ := valid_len hv
  obtain ⟨n1, n2, n3⟩ := valid_nz hv
  exact ⟨textS_at (p := p) (r := y ++ [0] ++ z ++ [0] ++ r) (by rw [hb]; simp) hk l1 n1,
    textS_at (p := p ++ x ++ [0]) (r := z ++ [0] ++ r) (by rw [hb]; simp) (by simp; omega) l2 n2,
    textS_at (p := p ++ x ++ [0] ++ y ++ [0]) (r := r) (by rw [hb]; simp) (by simp; omega) l3 n3⟩
theorem prinS_at {b p x y z r : List UInt8} {k : Int} (hb : b = p ++ (x ++ [0] ++ y ++ [0] ++ z ++ [0]) ++ r) (hk : k = p.length) (hv : validS x y z = true) :
    prinS b k = ((x, y, z), k + x.length + 1 + y.length + 1 + z.length + 1, 0) := by
  obtain ⟨h1, h2, h3⟩ := prin_texts hb hk hv
  rw [prinS_5] <;> simp [h1, h2, h3, hv]

/-- the reader of the document's answer: where it stands, and whether it is bad -/
def mvA (k : Int) (bad : Bool) (next e : Int) : Int := if bad = true ∨ e ≠ 0 then k else next
def mvB (bad : Bool) (e : Int) : Bool := bad || decide (e ≠ 0)
@[simp] theorem mvA_ok (k n : Int) : mvA k false n 0 = n := by simp [mvA]
@[simp] theorem mvB_ok : mvB false 0 = false := by simp [mvB]
theorem mvA_bounds {k n e m : Int} {bad : Bool} (h1 : 0 ≤ k ∧ k ≤ m) (h2 : 0 ≤ n ∧ n ≤ m) : 0 ≤ mvA k bad n e ∧ mvA k bad n e ≤ m := by
  unfold mvA
  split <;> omega
end Go.Sx

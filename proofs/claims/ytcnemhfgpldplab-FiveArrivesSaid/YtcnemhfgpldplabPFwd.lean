/-
  What was read without an error stood there: plain functions, for every input.
-/
import Derived.Test.YtcnemhfgpldplabPRow
import Derived.Test.YtcnemhfgpldplabPSfx
set_option linter.all false
namespace Go.Sx
/-- the bytes ahead of K -/
def Pfx (b : List UInt8) (K : Int) (p : List UInt8) : Prop := ∃ r, b = p ++ r ∧ K = p.length
theorem pfx_0 (b : List UInt8) : Pfx b 0 [] := ⟨b, rfl, rfl⟩
theorem pfx_end {b p : List UInt8} {K : Int} (h : Pfx b K p) (hK : ¬ K < b.length) : b = p := by
  obtain ⟨r, h1, h2⟩ := h
  have : r = [] := List.eq_nil_of_length_eq_zero (by rw [h1, List.length_append] at hK; omega)
  rw [h1, this, List.append_nil]
theorem indexByte_hits {l : List UInt8} {c : UInt8} (h : 0 ≤ Lib.indexByte l c) : (Lib.indexByte l c).toNat < l.length ∧ l.getD (Lib.indexByte l c).toNat 0 = c := by
  obtain ⟨h1, _⟩ := Lib.indexByte_some (l := l) (c := c) (o := (Lib.indexByte l c).toNat) (by omega)
  obtain ⟨h2, h3⟩ := List.getElem?_eq_some_iff.mp h1
  exact ⟨h2, by rw [List.getD_eq_getElem?_getD, h1]; rfl⟩
theorem fwd_text {b p : List UInt8} {K : Int} (h : (textS b K).2.2 = 0) (hp : Pfx b K p) : Pfx b (textS b K).2.1 (p ++ (textS b K).1 ++ [0]) := by
  obtain ⟨r, h1, h2⟩ := hp
  have hroom : roomS b.length K 0 = 0 := by rw [h1, h2]; exact roomS_0 (by omega) (by simp; omega) (by omega) (by simp; omega)
  have hrest : restS b K = r.take 40 := by rw [restS, h1, h2, Int.toNat_natCast, List.drop_left]
  by_cases hi : 0 ≤ Lib.indexByte (r.take 40) 0
  · rw [textS_yes hroom hrest hi]
    obtain ⟨g1, g2⟩ := indexByte_hits hi
    generalize hI : (Lib.indexByte (r.take 40) 0).toNat = i at *
    have hr : i < r.length ∧ i < 40 := by simp at g1; omega
    have h0 : r.getD i 0 = 0 := (take_getD hr.2).symm.trans g2
    have e := drop_getD_cons 0 hr.1
    rw [h0] at e
    refine ⟨r.drop (i + 1), ?_, ?_⟩
    · show b = p ++ (r.take 40).take i ++ [0] ++ r.drop (i + 1)
      rw [h1, List.take_take, show min i 40 = i by omega]
      conv => lhs; rw [← List.take_append_drop i r, e]
      simp
    · show K + Lib.indexByte (r.take 40) 0 + 1 = _
      rw [h2]
      simp
      omega
  · exfalso
    by_cases h40 : (r.take 40).length = 40
    · rw [textS_long hroom hrest (by omega) h40] at h; cases h
    · rw [textS_end hroom hrest (by omega) h40] at h; cases h
theorem text_fits {b : List UInt8} {K : Int} (h : (textS b K).2.2 = 0) : roomS b.length K 0 = 0 := by
  by_cases hr : roomS b.length K 0 = 0
  · exact hr
  · rw [textS_no hr] at h; exact absurd h hr
theorem text_more {b : List UInt8} {K : Int} (h : (textS b K).2.2 = 0) : K < (textS b K).2.1 := by
  have hr := text_fits h
  by_cases hi : 0 ≤ Lib.indexByte (restS b K) 0
  · rw [textS_yes hr rfl hi]; show K < K + _ + 1; omega
  · by_cases h40 : (restS b K).length = 40
    · rw [textS_long hr rfl (by omega) h40] at h; cases h
    · rw [textS_end hr rfl (by omega) h40] at h; cases h
theorem fwd_bytes {b p : List UInt8} {K n : Int} (h : (bytesS b K n).2.2 = 0) (hp : Pfx b K p) : Pfx b (bytesS b K n).2.1 (p ++ (bytesS b K n).1) ∧ ((bytesS b K n).1.length : Int) = n := by
  obtain ⟨r, h1, h2⟩ := hp
  by_cases hr : roomS b.length K n = 0
  · have hk := roomS_ok hr
    have hl := bytesS_len hr
    rw [bytesS_ok hr] at hl ⊢
    refine ⟨⟨r.drop n.toNat, ?_, ?_⟩, by rw [hl]; omega⟩
    · show b = p ++ (b.take (K + n).toNat).drop K.toNat ++ r.drop n.toNat
      rw [h1, h2, Int.toNat_natCast, show ((p.length : Int) + n).toNat = p.length + n.toNat by omega, List.take_append, List.take_of_length_le (by omega), show p.length + n.toNat - p.length = n.toNat by omega, List.drop_left, List.append_assoc, List.take_append_drop]
    · show K + n = _
      rw [List.length_append, hl, h2]; omega
  · rw [bytesS_no hr] at h; exact absurd h hr
theorem bytes_more {b : List UInt8} {K n : Int} (h : (bytesS b K n).2.2 = 0) : (bytesS b K n).2.1 = K + n ∧ 0 ≤ n ∧ (bytesS b K n).1.length = n.toNat := by
  by_cases hr : roomS b.length K n = 0
  · have hk := roomS_ok hr
    have hl := bytesS_len hr
    rw [bytesS_ok hr] at hl ⊢
    exact ⟨rfl, hk.2.2.1, hl⟩
  · rw [bytesS_no hr] at h; exact absurd h hr
theorem get_more {l : Bool} {s : Nat} {b : List UInt8} {K : Int} (h : (getS l s b K).2.2 = 0) : (getS l s b K).2.1 = K + s ∧ roomS b.length K s = 0 := by
  by_cases hr : roomS b.length K s = 0
  · rw [getS_ok hr]; exact ⟨rfl, hr⟩
  · rw [getS_no hr] at h; exact absurd h hr
theorem back1 (l : Bool) {d : List UInt8} (h : d.length = 1) : numS l 1 ((List.range 1).foldl (fun n i => n * 256 + ((d.getD (if l then 1 - 1 - i else i) 0).toNat : Int)) 0) = d := by
  match d, h with
  | [a], _ =>
    have ha := byte_lt a
    have e : digit (0 * 256 + (a.toNat : Int)) 0 = a := by
      apply u8_eq; rw [digit_val]; omega
    cases l <;> simp [numS, List.range, List.range.loop] at * <;> exact e
theorem back2 (l : Bool) {d : List UInt8} (h : d.length = 2) : numS l 2 ((List.range 2).foldl (fun n i => n * 256 + ((d.getD (if l then 2 - 1 - i else i) 0).toNat : Int)) 0) = d := by
  match d, h with
  | [a, c], _ =>
    have ha := byte_lt a
    have hc := byte_lt c
    have key : ∀ x y : UInt8, x.toNat < 256 → y.toNat < 256 → digit ((x.toNat : Int) * 256 + (y.toNat : Int)) 0 = y ∧ digit ((x.toNat : Int) * 256 + (y.toNat : Int)) 1 = x := fun x y hx hy =>
      ⟨u8_eq (by rw [digit_val]; omega), u8_eq (by rw [digit_val]; omega)⟩
    cases l
    · simp [numS, List.range, List.range.loop] at *
      exact ⟨(key a c ha hc).2, (key a c ha hc).1⟩
    · simp [numS, List.range, List.range.loop] at *
      exact ⟨(key c a hc ha).1, (key c a hc ha).2⟩
theorem back4 (l : Bool) {d : List UInt8} (h : d.length = 4) : numS l 4 ((List.range 4).foldl (fun n i => n * 256 + ((d.getD (if l then 4 - 1 - i else i) 0).toNat : Int)) 0) = d := by
  match d, h with
  | [a, c, e, f], _ =>
    have ha := byte_lt a
    have hc := byte_lt c
    have he := byte_lt e
    have hf := byte_lt f
    have key : ∀ x y z u : UInt8, x.toNat < 256 → y.toNat < 256 → z.toNat < 256 → u.toNat < 256 → digit ((((x.toNat : Int) * 256 + (y.toNat : Int)) * 256 + (z.toNat : Int)) * 256 + (u.toNat : Int)) 0 = u ∧ digit ((((x.toNat : Int) * 256 + (y.toNat : Int)) * 256 + (z.toNat : Int)) * 256 + (u.toNat : Int)) 1 = z ∧ digit ((((x.toNat : Int) * 256 + (y.toNat : Int)) * 256 + (z.toNat : Int)) * 256 + (u.toNat : Int)) 2 = y ∧ digit ((((x.toNat : Int) * 256 + (y.toNat : Int)) * 256 + (z.toNat : Int)) * 256 + (u.toNat : Int)) 3 = x := fun x y z u hx hy hz hu =>
      ⟨u8_eq (by rw [digit_val]; omega), u8_eq (by rw [digit_val]; omega), u8_eq (by rw [digit_val]; omega), u8_eq (by rw [digit_val]; omega)⟩
    cases l
    · obtain ⟨k0, k1, k2, k3⟩ := key a c e f ha hc he hf
      simp [numS, List.range, List.range.loop] at *
      exact ⟨k3, k2, k1, k0⟩
    · obtain ⟨k0, k1, k2, k3⟩ := key f e c a hf he hc ha
      simp [numS, List.range, List.range.loop] at *
      exact ⟨k0, k1, k2, k3⟩
theorem fwd_get {l : Bool} {s : Nat} {b p : List UInt8} {K : Int} (hs : ∀ d : List UInt8, d.length = s → numS l s ((List.range s).foldl (fun n i => n * 256 + ((d.getD (if l then s - 1 - i else i) 0).toNat : Int)) 0) = d) (h : (getS l s b K).2.2 = 0) (hp : Pfx b K p) : Pfx b (getS l s b K).2.1 (p ++ numS l s (getS l s b K).1) := by
  have hr := (get_more h).2
  have hb : (bytesS b K s).2.2 = 0 := by rw [bytesS_ok hr]
  have hl := bytesS_len hr
  have e := fwd_bytes hb hp
  have e1 : (getS l s b K).2.1 = (bytesS b K s).2.1 := by rw [(get_more h).1, (bytes_more hb).1]
  have e2 : numS l s (getS l s b K).1 = (bytesS b K s).1 := by
    rw [getS_cut hr]
    have := hs (bytesS b K s).1 (by rw [hl]; omega)
    rw [bytesS_ok hr] at this ⊢
    exact this
  rw [e1, e2]; exact e.1
theorem fold_range (s : Nat) (f : Nat → UInt8) : 0 ≤ (List.range s).foldl (fun (n : Int) i => n * 256 + ((f i).toNat : Int)) 0 ∧ (List.range s).foldl (fun (n : Int) i => n * 256 + ((f i).toNat : Int)) 0 < 256 ^ s := by
  induction s with
  | zero => simp
  | succ s ih =>
    rw [List.range_succ, List.foldl_append]
    simp only [List.foldl_cons, List.foldl_nil]
    have := byte_lt (f s)
    have h2 : (256 : Int) ^ (s + 1) = 256 ^ s * 256 := Int.pow_succ _ _
    generalize (List.range s).foldl (fun (n : Int) i => n * 256 + ((f i).toNat : Int)) 0 = q at *
    generalize (256 : Int) ^ s = r at *
    omega
theorem get_range (l : Bool) (s : Nat) (b : List UInt8) (K : Int) : 0 ≤ (getS l s b K).1 ∧ (getS l s b K).1 < 256 ^ s := by
  by_cases hr : roomS b.length K s = 0
  · rw [getS_ok hr]; exact fold_range s _
  · rw [getS_no hr]
    exact ⟨by simp, Int.pow_pos (by decide)⟩
theorem get1_range (l : Bool) (b : List UInt8) (K : Int) : 0 ≤ (getS l 1 b K).1 ∧ (getS l 1 b K).1 ≤ 255 := by
  have := get_range l 1 b K
  omega
theorem get2_range (l : Bool) (b : List UInt8) (K : Int) : 0 ≤ (getS l 2 b K).1 ∧ (getS l 2 b K).1 ≤ 65535 := by
  have := get_range l 2 b K
  omega
theorem get4_range (l : Bool) (b : List UInt8) (K : Int) : 0 ≤ (getS l 4 b K).1 ∧ (getS l 4 b K).1 ≤ 4294967295 := by
  have := get_range l 4 b K
  omega
theorem key_back {d : List UInt8} (h : (readK d).2 = true) : keyB (readK d).1 = d := by
  have hl : d.length = 8 ∧ keyOk (keyV d) = true := by
    unfold readK at h
    split at h
    · assumption
    · cases h
  rw [readK_ok hl.1 hl.2]
  show keyB (keyV d) = d
  match d, hl.1 with
  | [a0, a1, a2, a3, a4, a5, a6, a7], _ =>
    have h0 := byte_lt a0
    have h1 := byte_lt a1
    have h2 := byte_lt a2
    have h3 := byte_lt a3
    have h4 := byte_lt a4
    have h5 := byte_lt a5
    have h6 := byte_lt a6
    have h7 := byte_lt a7
    have e : ∀ i (x : UInt8), keyV [a0, a1, a2, a3, a4, a5, a6, a7] / 256 ^ i % 256 = (x.toNat : Int) → digit (keyV [a0, a1, a2, a3, a4, a5, a6, a7]) i = x := fun i x hx => u8_eq (by rw [digit_val, hx])
    unfold keyB
    rw [e 7 a0 (by simp [keyV]; omega), e 6 a1 (by simp [keyV]; omega), e 5 a2 (by simp [keyV]; omega), e 4 a3 (by simp [keyV]; omega), e 3 a4 (by simp [keyV]; omega), e 2 a5 (by simp [keyV]; omega), e 1 a6 (by simp [keyV]; omega), e 0 a7 (by simp [keyV]; omega)]
theorem keyOk_0 : keyOk 0 = false := by decide
theorem key_ok {d : List UInt8} (h : keyOk (readK d).1 = true) : (readK d).2 = true := by
  unfold readK at h ⊢
  split
  · rfl
  · rename_i hh
    rw [if_neg hh] at h
    rw [keyOk_0] at h
    cases h
end Go.Sx

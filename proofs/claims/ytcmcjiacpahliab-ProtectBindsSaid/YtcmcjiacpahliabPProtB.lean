/-
  Safe messages in which something was changed: plain functions, for every input.
-/
import Derived.Test.YtcmcjiacpahliabPProt
set_option linter.all false
set_option linter.all false
namespace Go.Sx
theorem xor_ne {x y : UInt8} (h : byteOf (bitN .xor .u8 (x.toNat : Int) (y.toNat : Int)) = x) : y = 0 := by
  have e : byteOf (bitN .xor .u8 (x.toNat : Int) (y.toNat : Int)) = x ^^^ y := by
    apply UInt8.toNat_inj.mp
    have h1 := byteOf_toNat (bitN .xor .u8 (x.toNat : Int) (y.toNat : Int))
    have h2 : bitN .xor .u8 (x.toNat : Int) (y.toNat : Int) = ((x.toNat ^^^ y.toNat : Nat) : Int) := by
      have hx := byte_lt x
      have hy := byte_lt y
      show (((BitVec.ofInt 8 (x.toNat : Int)) ^^^ (BitVec.ofInt 8 (y.toNat : Int))).toNat : Int) = _
      rw [BitVec.toNat_xor, BitVec.toNat_ofInt, BitVec.toNat_ofInt]
      congr 2 <;> omega
    have h3 : (x.toNat ^^^ y.toNat) < 256 := Nat.xor_lt_two_pow (n := 8) (byte_lt x) (byte_lt y)
    rw [h2, wrap_u8 (by omega)] at h1
    rw [UInt8.toNat_xor, h2]
    omega
  rw [e] at h
  have h1 := congrArg (fun z => x ^^^ z) h
  simp only [UInt8.xor_self] at h1
  rw [← UInt8.xor_assoc, UInt8.xor_self, UInt8.zero_xor] at h1
  exact h1
theorem openS_text {l : Bool} {k : Int} {E E' : List UInt8} (hk : 0 ≤ k ∧ k ≤ 18446744073709551615) (ho : keyOk k = true) (hE : E.length ≤ 1000) (hl' : E'.length = E.length) (hne : ¬ E = E') : openS (msg7 l E' (boxB 6 k E)) k = (pr0, 41) := by
  have hl := boxB_len 6 k E
  have p := parts_msg7 (l := l) (t := E') (x := boxB 6 k E) (by omega) (by omega)
  have e := boxO_boxB (kd := 6) (by omega) hk ho hE
  exact openS_m (by rw [p]) (by rw [p]) (.inr (by rw [p]; simp only; rw [e]; exact hne))
theorem msg7_set {l : Bool} {t x : List UInt8} {i : Nat} {v : UInt8} (hi : i < t.length) : (msg7 l t x).set (4 + i) v = msg7 l (t.set i v) x := by
  have h2 := putS_len2 (k := 7) (l := l) (by decide) (by decide)
  have e : msg7 l t x = (putS 7 l ++ numS l 2 (t.length : Int)) ++ (t ++ (numS l 2 (x.length : Int) ++ x)) := by simp [msg7]
  have e' : msg7 l (t.set i v) x = (putS 7 l ++ numS l 2 (t.length : Int)) ++ (t.set i v ++ (numS l 2 (x.length : Int) ++ x)) := by simp [msg7]
  have hp : (putS 7 l ++ numS l 2 (t.length : Int)).length = 4 := by simp [h2]
  rw [e, e', List.set_append_right _ _ (by omega), hp, List.set_append_left _ _ (by omega)]
  congr 3
  omega
theorem msg7_at {l : Bool} {t x : List UInt8} {i : Nat} (hi : i < t.length) : (msg7 l t x).getD (4 + i) 0 = t.getD i 0 := by
  have h2 := putS_len2 (k := 7) (l := l) (by decide) (by decide)
  have e : msg7 l t x = (putS 7 l ++ numS l 2 (t.length : Int)) ++ (t ++ (numS l 2 (x.length : Int) ++ x)) := by simp [msg7]
  have hp : (putS 7 l ++ numS l 2 (t.length : Int)).length = 4 := by simp [h2]
  rw [e, List.getD_eq_getElem?_getD, List.getD_eq_getElem?_getD, List.getElem?_append_right (by omega), List.getElem?_append_left (by omega), hp]
  congr 2
  omega
theorem set_ne {t : List UInt8} {i : Nat} {v : UInt8} (hi : i < t.length) (hv : ¬ v = t.getD i 0) : ¬ t = t.set i v := by
  intro h
  apply hv
  have := congrArg (fun z => z.getD i 0) h
  simp only [List.getD_eq_getElem?_getD, List.getElem?_set_self hi] at this
  rw [List.getD_eq_getElem?_getD, this]
  rfl
theorem msg7_flip {l : Bool} {t x : List UInt8} : (msg7 l t x).set 1 (byteOf (bitN .xor .u8 (((msg7 l t x).getD 1 0).toNat : Int) 1)) = putS 7 (!l) ++ (numS l 2 (t.length : Int) ++ (t ++ (numS l 2 (x.length : Int) ++ x))) := by
  have e : msg7 l t x = putS 7 l ++ (numS l 2 (t.length : Int) ++ (t ++ (numS l 2 (x.length : Int) ++ x))) := by simp [msg7]
  rw [e]
  generalize numS l 2 (t.length : Int) ++ (t ++ (numS l 2 (x.length : Int) ++ x)) = r
  rw [putS_yes (by decide) (by decide), putS_yes (by decide) (by decide)]
  cases l
  · show (4 : UInt8) :: byteOf (bitN .xor .u8 ((byteOf 14).toNat : Int) 1) :: r = 4 :: byteOf 15 :: r
    rw [show byteOf (bitN .xor .u8 ((byteOf 14).toNat : Int) 1) = byteOf 15 by decide]
  · show (4 : UInt8) :: byteOf (bitN .xor .u8 ((byteOf 15).toNat : Int) 1) :: r = 4 :: byteOf 14 :: r
    rw [show byteOf (bitN .xor .u8 ((byteOf 15).toNat : Int) 1) = byteOf 14 by decide]
theorem openS_flip {l : Bool} {k : Int} {x : PrT} {E r : List UInt8} {n : Int} (h : prN l x = (E, 0)) : ¬ (openS (putS 7 (!l) ++ (numS l 2 n ++ (E ++ r))) k).2 = 0 := by
  intro ho
  generalize hb : putS 7 (!l) ++ (numS l 2 n ++ (E ++ r)) = b at ho
  have hr := readS_head hb.symm (by decide) (by decide)
  have hi := isS_ok hr (ks := [6, 7]) (by decide)
  have hp : partsS b = part7 (!l) b := by rw [partsS_7 (by rw [hi]) (by rw [hr]), hi]
  by_cases hc : (nextS (!l) b 2 1000).2.2 = true ∧ (nextS (!l) b (nextS (!l) b 2 1000).2.1 1012).2.2 = true ∧ (nextS (!l) b (nextS (!l) b 2 1000).2.1 1012).2.1 = b.length
  · have hq := part7_ok hc.1 hc.2.1 hc.2.2
    obtain ⟨g0, g1, g2, g3⟩ := nextS_is hc.1
    rw [hq] at hp
    by_cases h2 : (boxO (partsS b).2.2.1 6 k).2 = true ∧ (boxO (partsS b).2.2.1 6 k).1 = (partsS b).2.1
    · rw [openS_c (by rw [hp]) (by rw [hp]) h2.1 h2.2, hp] at ho
      simp only at ho
      by_cases h3 : (prD (!l) (nextS (!l) b 2 1000).1).2 = 0
      · obtain ⟨s, hs⟩ := pr_head (prD_is h3)
        obtain ⟨s', hs'⟩ := pr_head h
        have hroom : roomS b.length 2 2 = 0 := by
          by_cases hz : roomS b.length 2 2 = 0
          · exact hz
          · have := getS_no (l := !l) (size := 2) (b := b) (k := 2) hz
            rw [this] at g0
            exact absurd g0 hz
        have hget := getS_ok (l := !l) (size := 2) (b := b) (k := 2) hroom
        have hn : (getS (!l) 2 b 2).2.1 = 4 := by rw [hget]; rfl
        rw [g3] at hs
        simp only at hs
        rw [hn] at hs g2
        generalize (getS (!l) 2 b 2).1 = N at *
        have hroom2 : roomS b.length 4 N = 0 := by
          by_cases hz : roomS b.length 4 N = 0
          · exact hz
          · rw [bytesS_no hz] at g2
            exact absurd g2 hz
        rw [bytesS_ok hroom2] at hs
        simp only at hs
        rw [List.drop_take] at hs
        have hd : b.drop (4 : Int).toNat = numS false 1 (ordN l) ++ (s' ++ r) := by
          have h2' := putS_len2 (k := 7) (l := !l) (by decide) (by decide)
          rw [← hb, hs', show (4 : Int).toNat = (putS 7 (!l) ++ numS l 2 n).length by simp [h2'], ← List.append_assoc, List.drop_left]
          simp
        rw [hd] at hs
        generalize (4 + N).toNat - (4 : Int).toNat = c at hs
        have : digit (ordN l) 0 = digit (ordN !l) 0 := by
          cases c with
          | zero => simp [numS, List.range, List.range.loop] at hs
          | succ c =>
            simp [numS, List.range, List.range.loop] at hs
            exact hs.1
        have := digit_ord this
        cases l <;> cases this
      · rw [cont_no h3] at ho
        cases ho
    · rw [openS_m (by rw [hp]) (by rw [hp]) (by
        by_cases h3 : (boxO (partsS b).2.2.1 6 k).2 = true
        · exact .inr (fun h4 => h2 ⟨h3, h4⟩)
        · exact .inl (by simpa using h3))] at ho
      cases ho
  · have hq : part7 (!l) b = pt0 100 := by rw [part7, if_neg hc]
    rw [hq] at hp
    rw [openS_e (by rw [hp]; simp [pt0]), hp] at ho
    cases ho
end Go.Sx

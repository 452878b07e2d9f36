/-
  What the symbols of the runs stand for, and that the rules hold.
-/
import Derived.Test.YtihnbghdddbimaaGreatDoorSxE
set_option linter.all false
namespace Go.Sx
/-- the inputs of the law -/
structure In13 where
  c0 : Int
  c1 : Int
  c2 : Int
  c3 : Int
  c4 : Int
  ord : Int
  skew : Int
  size : Int
  life : Int
  flaw : Int
  who : Int
  what : Int
  apart : Int
  hc0 : 0 ≤ c0 ∧ c0 ≤ 255
  hc1 : 0 ≤ c1 ∧ c1 ≤ 255
  hc2 : 0 ≤ c2 ∧ c2 ≤ 255
  hc3 : 0 ≤ c3 ∧ c3 ≤ 255
  hc4 : 0 ≤ c4 ∧ c4 ≤ 255
  hord : 0 ≤ ord ∧ ord ≤ 255
  hskew : 0 ≤ skew ∧ skew ≤ 255
  hsize : 0 ≤ size ∧ size ≤ 255
  hlife : 0 ≤ life ∧ life ≤ 255
  hflaw : 0 ≤ flaw ∧ flaw ≤ 255
  hwho : 0 ≤ who ∧ who ≤ 255
  hwhat : 0 ≤ what ∧ what ≤ 255
  hapart : 0 ≤ apart ∧ apart ≤ 255
def s0 (i : In13) : Int := i.c0
theorem b0 (i : In13) : 0 ≤ s0 i ∧ s0 i ≤ 255 := i.hc0
def s1 (i : In13) : Int := i.c1
theorem b1 (i : In13) : 0 ≤ s1 i ∧ s1 i ≤ 255 := i.hc1
def s2 (i : In13) : Int := i.c2
theorem b2 (i : In13) : 0 ≤ s2 i ∧ s2 i ≤ 255 := i.hc2
def s3 (i : In13) : Int := i.c3
theorem b3 (i : In13) : 0 ≤ s3 i ∧ s3 i ≤ 255 := i.hc3
def s4 (i : In13) : Int := i.c4
theorem b4 (i : In13) : 0 ≤ s4 i ∧ s4 i ≤ 255 := i.hc4
def s5 (i : In13) : Int := i.ord
theorem b5 (i : In13) : 0 ≤ s5 i ∧ s5 i ≤ 255 := i.hord
def s6 (i : In13) : Int := i.skew
theorem b6 (i : In13) : 0 ≤ s6 i ∧ s6 i ≤ 255 := i.hskew
def s7 (i : In13) : Int := i.size
theorem b7 (i : In13) : 0 ≤ s7 i ∧ s7 i ≤ 255 := i.hsize
def s8 (i : In13) : Int := i.life
theorem b8 (i : In13) : 0 ≤ s8 i ∧ s8 i ≤ 255 := i.hlife
def s9 (i : In13) : Int := i.flaw
theorem b9 (i : In13) : 0 ≤ s9 i ∧ s9 i ≤ 255 := i.hflaw
def s10 (i : In13) : Int := i.who
theorem b10 (i : In13) : 0 ≤ s10 i ∧ s10 i ≤ 255 := i.hwho
def s11 (i : In13) : Int := i.what
theorem b11 (i : In13) : 0 ≤ s11 i ∧ s11 i ≤ 255 := i.hwhat
def s12 (i : In13) : Int := i.apart
theorem b12 (i : In13) : 0 ≤ s12 i ∧ s12 i ≤ 255 := i.hapart
def s13 (i : In13) : Int := 300 + s6 i
theorem e13 (i : In13) : s13 i = 300 + s6 i := rfl
theorem b13 (i : In13) : 300 ≤ s13 i ∧ s13 i ≤ 555 := by
  rw [e13]; have := b6 i; omega
def s14 (i : In13) : Int := s7 i % 33
theorem e14 (i : In13) : s14 i = s7 i % 33 := rfl
theorem b14 (i : In13) : 0 ≤ s14 i ∧ s14 i ≤ 32 := by
  rw [e14]; have := b7 i; omega
def s15 (i : In13) : Int := 8 + s14 i
theorem e15 (i : In13) : s15 i = 8 + s14 i := rfl
theorem b15 (i : In13) : 8 ≤ s15 i ∧ s15 i ≤ 40 := by
  rw [e15]; have := b14 i; omega
def s16 (i : In13) : Int := s8 i % 236
theorem e16 (i : In13) : s16 i = s8 i % 236 := rfl
theorem b16 (i : In13) : 0 ≤ s16 i ∧ s16 i ≤ 235 := by
  rw [e16]; have := b8 i; omega
def s17 (i : In13) : Int := 20 + s16 i
theorem e17 (i : In13) : s17 i = 20 + s16 i := rfl
theorem b17 (i : In13) : 20 ≤ s17 i ∧ s17 i ≤ 255 := by
  rw [e17]; have := b16 i; omega
def s18 (i : In13) : Int := 100000 + s0 i
theorem e18 (i : In13) : s18 i = 100000 + s0 i := rfl
theorem b18 (i : In13) : 100000 ≤ s18 i ∧ s18 i ≤ 100255 := by
  rw [e18]; have := b0 i; omega
def s19 (i : In13) : Int := 100000 + s1 i
theorem e19 (i : In13) : s19 i = 100000 + s1 i := rfl
theorem b19 (i : In13) : 100000 ≤ s19 i ∧ s19 i ≤ 100255 := by
  rw [e19]; have := b1 i; omega
def s20 (i : In13) : Int := s5 i / 2
theorem e20 (i : In13) : s20 i = s5 i / 2 := rfl
theorem b20 (i : In13) : 0 ≤ s20 i ∧ s20 i ≤ 127 := by
  rw [e20]; have := b5 i; omega
def s21 (i : In13) : Int := s20 i % 2
theorem e21 (i : In13) : s21 i = s20 i % 2 := rfl
theorem b21 (i : In13) : 0 ≤ s21 i ∧ s21 i ≤ 1 := by
  rw [e21]; have := b20 i; omega
def s22 (i : In13) : Int := if s21 i = 1 then 1 else 0
theorem e22 (i : In13) : s22 i = if s21 i = 1 then 1 else 0 := rfl
theorem b22 (i : In13) : 0 ≤ s22 i ∧ s22 i ≤ 1 := by
  rw [e22]; have := b21 i; split <;> omega
def s23 (i : In13) : Int := 100000 + s2 i
theorem e23 (i : In13) : s23 i = 100000 + s2 i := rfl
theorem b23 (i : In13) : 100000 ≤ s23 i ∧ s23 i ≤ 100255 := by
  rw [e23]; have := b2 i; omega
def s24 (i : In13) : Int := 100000 + s3 i
theorem e24 (i : In13) : s24 i = 100000 + s3 i := rfl
theorem b24 (i : In13) : 100000 ≤ s24 i ∧ s24 i ≤ 100255 := by
  rw [e24]; have := b3 i; omega
def s25 (i : In13) : Int := 100000 + s4 i
theorem e25 (i : In13) : s25 i = 100000 + s4 i := rfl
theorem b25 (i : In13) : 100000 ≤ s25 i ∧ s25 i ≤ 100255 := by
  rw [e25]; have := b4 i; omega
def s26 (i : In13) : Int := s5 i / 4
theorem e26 (i : In13) : s26 i = s5 i / 4 := rfl
theorem b26 (i : In13) : 0 ≤ s26 i ∧ s26 i ≤ 63 := by
  rw [e26]; have := b5 i; omega
def s27 (i : In13) : Int := s5 i / 8
theorem e27 (i : In13) : s27 i = s5 i / 8 := rfl
theorem b27 (i : In13) : 0 ≤ s27 i ∧ s27 i ≤ 31 := by
  rw [e27]; have := b5 i; omega
def s28 (i : In13) : Int := s27 i % 2
theorem e28 (i : In13) : s28 i = s27 i % 2 := rfl
theorem b28 (i : In13) : 0 ≤ s28 i ∧ s28 i ≤ 1 := by
  rw [e28]; have := b27 i; omega
def s29 (i : In13) : Int := if s28 i = 1 then 1 else 0
theorem e29 (i : In13) : s29 i = if s28 i = 1 then 1 else 0 := rfl
theorem b29 (i : In13) : 0 ≤ s29 i ∧ s29 i ≤ 1 := by
  rw [e29]; have := b28 i; split <;> omega
def s30 (i : In13) : Int := s5 i / 16
theorem e30 (i : In13) : s30 i = s5 i / 16 := rfl
theorem b30 (i : In13) : 0 ≤ s30 i ∧ s30 i ≤ 15 := by
  rw [e30]; have := b5 i; omega
def s31 (i : In13) : Int := s30 i % 2
theorem e31 (i : In13) : s31 i = s30 i % 2 := rfl
theorem b31 (i : In13) : 0 ≤ s31 i ∧ s31 i ≤ 1 := by
  rw [e31]; have := b30 i; omega
def s32 (i : In13) : Int := if s31 i = 1 then 1 else 0
theorem e32 (i : In13) : s32 i = if s31 i = 1 then 1 else 0 := rfl
theorem b32 (i : In13) : 0 ≤ s32 i ∧ s32 i ≤ 1 := by
  rw [e32]; have := b31 i; split <;> omega
def s33 (i : In13) : Int := s5 i / 32
theorem e33 (i : In13) : s33 i = s5 i / 32 := rfl
theorem b33 (i : In13) : 0 ≤ s33 i ∧ s33 i ≤ 7 := by
  rw [e33]; have := b5 i; omega
def s34 (i : In13) : Int := s33 i % 2
theorem e34 (i : In13) : s34 i = s33 i % 2 := rfl
theorem b34 (i : In13) : 0 ≤ s34 i ∧ s34 i ≤ 1 := by
  rw [e34]; have := b33 i; omega
def s35 (i : In13) : Int := if s34 i = 1 then 1 else 0
theorem e35 (i : In13) : s35 i = if s34 i = 1 then 1 else 0 := rfl
theorem b35 (i : In13) : 0 ≤ s35 i ∧ s35 i ≤ 1 := by
  rw [e35]; have := b34 i; split <;> omega
def s36 (i : In13) : Int := if s24 i > s23 i then s24 i else s23 i
theorem e36 (i : In13) : s36 i = if s24 i > s23 i then s24 i else s23 i := rfl
theorem b36 (i : In13) : 100000 ≤ s36 i ∧ s36 i ≤ 100255 := by
  rw [e36]; have := b23 i; have := b24 i; split <;> omega
def s37 (i : In13) : Int := if s25 i > s36 i then s25 i else s36 i
theorem e37 (i : In13) : s37 i = if s25 i > s36 i then s25 i else s36 i := rfl
theorem b37 (i : In13) : 100000 ≤ s37 i ∧ s37 i ≤ 100255 := by
  rw [e37]; have := b36 i; have := b25 i; split <;> omega
def s38 (i : In13) : Int := if s18 i > s37 i then s18 i else s37 i
theorem e38 (i : In13) : s38 i = if s18 i > s37 i then s18 i else s37 i := rfl
theorem b38 (i : In13) : 100000 ≤ s38 i ∧ s38 i ≤ 100255 := by
  rw [e38]; have := b37 i; have := b18 i; split <;> omega
def s39 (i : In13) : Int := if s19 i > s38 i then s19 i else s38 i
theorem e39 (i : In13) : s39 i = if s19 i > s38 i then s19 i else s38 i := rfl
theorem b39 (i : In13) : 100000 ≤ s39 i ∧ s39 i ≤ 100255 := by
  rw [e39]; have := b38 i; have := b19 i; split <;> omega
def s40 (i : In13) : Int := s39 i + 100000
theorem e40 (i : In13) : s40 i = s39 i + 100000 := rfl
theorem b40 (i : In13) : 200000 ≤ s40 i ∧ s40 i ≤ 200255 := by
  rw [e40]; have := b39 i; omega
def s41 (i : In13) : Int := s12 i / 4
theorem e41 (i : In13) : s41 i = s12 i / 4 := rfl
theorem b41 (i : In13) : 0 ≤ s41 i ∧ s41 i ≤ 63 := by
  rw [e41]; have := b12 i; omega
def s42 (i : In13) : Int := s40 i + s41 i
theorem e42 (i : In13) : s42 i = s40 i + s41 i := rfl
theorem b42 (i : In13) : 200000 ≤ s42 i ∧ s42 i ≤ 200318 := by
  rw [e42]; have := b40 i; have := b41 i; omega
def s43 (i : In13) : Int := s12 i * 2
theorem e43 (i : In13) : s43 i = s12 i * 2 := rfl
theorem b43 (i : In13) : 0 ≤ s43 i ∧ s43 i ≤ 510 := by
  rw [e43]; have := b12 i; omega
def s44 (i : In13) : Int := s43 i / 4
theorem e44 (i : In13) : s44 i = s43 i / 4 := rfl
theorem b44 (i : In13) : 0 ≤ s44 i ∧ s44 i ≤ 127 := by
  rw [e44]; have := b43 i; omega
def s45 (i : In13) : Int := s40 i + s44 i
theorem e45 (i : In13) : s45 i = s40 i + s44 i := rfl
theorem b45 (i : In13) : 200000 ≤ s45 i ∧ s45 i ≤ 200382 := by
  rw [e45]; have := b40 i; have := b44 i; omega
def s46 (i : In13) : Int := s12 i * 3
theorem e46 (i : In13) : s46 i = s12 i * 3 := rfl
theorem b46 (i : In13) : 0 ≤ s46 i ∧ s46 i ≤ 765 := by
  rw [e46]; have := b12 i; omega
def s47 (i : In13) : Int := s46 i / 4
theorem e47 (i : In13) : s47 i = s46 i / 4 := rfl
theorem b47 (i : In13) : 0 ≤ s47 i ∧ s47 i ≤ 191 := by
  rw [e47]; have := b46 i; omega
def s48 (i : In13) : Int := s40 i + s47 i
theorem e48 (i : In13) : s48 i = s40 i + s47 i := rfl
theorem b48 (i : In13) : 200000 ≤ s48 i ∧ s48 i ≤ 200446 := by
  rw [e48]; have := b40 i; have := b47 i; omega
def s49 (i : In13) : Int := s12 i * 4
theorem e49 (i : In13) : s49 i = s12 i * 4 := rfl
theorem b49 (i : In13) : 0 ≤ s49 i ∧ s49 i ≤ 1020 := by
  rw [e49]; have := b12 i; omega
def s50 (i : In13) : Int := s40 i + s12 i
theorem e50 (i : In13) : s50 i = s40 i + s12 i := rfl
theorem b50 (i : In13) : 200000 ≤ s50 i ∧ s50 i ≤ 200510 := by
  rw [e50]; have := b40 i; have := b12 i; omega
def s51 (i : In13) : Int := s11 i % 2
theorem e51 (i : In13) : s51 i = s11 i % 2 := rfl
theorem b51 (i : In13) : 0 ≤ s51 i ∧ s51 i ≤ 1 := by
  rw [e51]; have := b11 i; omega
def s52 (i : In13) : Int := s40 i % 256
theorem e52 (i : In13) : s52 i = s40 i % 256 := rfl
theorem b52 (i : In13) : 0 ≤ s52 i ∧ s52 i ≤ 255 := by
  rw [e52]; have := b40 i; omega
def s53 (i : In13) : Int := s40 i / 256
theorem e53 (i : In13) : s53 i = s40 i / 256 := rfl
theorem b53 (i : In13) : 781 ≤ s53 i ∧ s53 i ≤ 782 := by
  rw [e53]; have := b40 i; omega
def s54 (i : In13) : Int := s53 i % 256
theorem e54 (i : In13) : s54 i = s53 i % 256 := rfl
theorem b54 (i : In13) : 0 ≤ s54 i ∧ s54 i ≤ 255 := by
  rw [e54]; have := b53 i; omega
def s55 (i : In13) : Int := 4 + s51 i
theorem e55 (i : In13) : s55 i = 4 + s51 i := rfl
theorem b55 (i : In13) : 4 ≤ s55 i ∧ s55 i ≤ 5 := by
  rw [e55]; have := b51 i; omega
def s56 (i : In13) : Int := s53 i * 256
theorem e56 (i : In13) : s56 i = s53 i * 256 := rfl
theorem b56 (i : In13) : 199936 ≤ s56 i ∧ s56 i ≤ 200192 := by
  rw [e56]; have := b53 i; omega
def s57 (i : In13) : Int := s40 i - s48 i
theorem e57 (i : In13) : s57 i = s40 i - s48 i := rfl
theorem b57 (i : In13) : -446 ≤ s57 i ∧ s57 i ≤ 255 := by
  rw [e57]; have := b40 i; have := b48 i; omega
def s58 (i : In13) : Int := s40 i + 1
theorem e58 (i : In13) : s58 i = s40 i + 1 := rfl
theorem b58 (i : In13) : 200001 ≤ s58 i ∧ s58 i ≤ 200256 := by
  rw [e58]; have := b40 i; omega
def s59 (i : In13) : Int := s58 i % 256
theorem e59 (i : In13) : s59 i = s58 i % 256 := rfl
theorem b59 (i : In13) : 0 ≤ s59 i ∧ s59 i ≤ 255 := by
  rw [e59]; have := b58 i; omega
def s60 (i : In13) : Int := s58 i / 256
theorem e60 (i : In13) : s60 i = s58 i / 256 := rfl
theorem b60 (i : In13) : 781 ≤ s60 i ∧ s60 i ≤ 782 := by
  rw [e60]; have := b58 i; omega
def s61 (i : In13) : Int := s60 i % 256
theorem e61 (i : In13) : s61 i = s60 i % 256 := rfl
theorem b61 (i : In13) : 0 ≤ s61 i ∧ s61 i ≤ 255 := by
  rw [e61]; have := b60 i; omega
def s62 (i : In13) : Int := s60 i * 256
theorem e62 (i : In13) : s62 i = s60 i * 256 := rfl
theorem b62 (i : In13) : 199936 ≤ s62 i ∧ s62 i ≤ 200192 := by
  rw [e62]; have := b60 i; omega
def s63 (i : In13) : Int := if s17 i < 200 then s17 i else 200
theorem e63 (i : In13) : s63 i = if s17 i < 200 then s17 i else 200 := rfl
theorem b63 (i : In13) : 20 ≤ s63 i ∧ s63 i ≤ 200 := by
  rw [e63]; have := b17 i; split <;> omega
def s64 (i : In13) : Int := s63 i + 1
theorem e64 (i : In13) : s64 i = s63 i + 1 := rfl
theorem b64 (i : In13) : 21 ≤ s64 i ∧ s64 i ≤ 201 := by
  rw [e64]; have := b63 i; omega
def s65 (i : In13) : Int := 300 * s64 i
theorem e65 (i : In13) : s65 i = 300 * s64 i := rfl
theorem b65 (i : In13) : 6300 ≤ s65 i ∧ s65 i ≤ 60300 := by
  rw [e65]; have := b64 i; omega
def s66 (i : In13) : Int := s48 i + s65 i
theorem e66 (i : In13) : s66 i = s48 i + s65 i := rfl
theorem b66 (i : In13) : 206300 ≤ s66 i ∧ s66 i ≤ 260746 := by
  rw [e66]; have := b48 i; have := b65 i; omega
def s67 (i : In13) : Int := s48 i % 256
theorem e67 (i : In13) : s67 i = s48 i % 256 := rfl
theorem b67 (i : In13) : 0 ≤ s67 i ∧ s67 i ≤ 255 := by
  rw [e67]; have := b48 i; omega
def s68 (i : In13) : Int := s48 i / 256
theorem e68 (i : In13) : s68 i = s48 i / 256 := rfl
theorem b68 (i : In13) : 781 ≤ s68 i ∧ s68 i ≤ 782 := by
  rw [e68]; have := b48 i; omega
def s69 (i : In13) : Int := s68 i % 256
theorem e69 (i : In13) : s69 i = s68 i % 256 := rfl
theorem b69 (i : In13) : 0 ≤ s69 i ∧ s69 i ≤ 255 := by
  rw [e69]; have := b68 i; omega
def s70 (i : In13) : Int := s68 i * 256
theorem e70 (i : In13) : s70 i = s68 i * 256 := rfl
theorem b70 (i : In13) : 199936 ≤ s70 i ∧ s70 i ≤ 200192 := by
  rw [e70]; have := b68 i; omega
def s71 (i : In13) : Int := s26 i % 2
theorem e71 (i : In13) : s71 i = s26 i % 2 := rfl
theorem b71 (i : In13) : 0 ≤ s71 i ∧ s71 i ≤ 1 := by
  rw [e71]; have := b26 i; omega
def s72 (i : In13) : Int := if s71 i = 1 then 1 else 0
theorem e72 (i : In13) : s72 i = if s71 i = 1 then 1 else 0 := rfl
theorem b72 (i : In13) : 0 ≤ s72 i ∧ s72 i ≤ 1 := by
  rw [e72]; have := b71 i; split <;> omega
def s73 (i : In13) : Int := s42 i % 256
theorem e73 (i : In13) : s73 i = s42 i % 256 := rfl
theorem b73 (i : In13) : 0 ≤ s73 i ∧ s73 i ≤ 255 := by
  rw [e73]; have := b42 i; omega
def s74 (i : In13) : Int := s42 i / 256
theorem e74 (i : In13) : s74 i = s42 i / 256 := rfl
theorem b74 (i : In13) : 781 ≤ s74 i ∧ s74 i ≤ 782 := by
  rw [e74]; have := b42 i; omega
def s75 (i : In13) : Int := s74 i % 256
theorem e75 (i : In13) : s75 i = s74 i % 256 := rfl
theorem b75 (i : In13) : 0 ≤ s75 i ∧ s75 i ≤ 255 := by
  rw [e75]; have := b74 i; omega
def s76 (i : In13) : Int := s74 i * 256
theorem e76 (i : In13) : s76 i = s74 i * 256 := rfl
theorem b76 (i : In13) : 199936 ≤ s76 i ∧ s76 i ≤ 200192 := by
  rw [e76]; have := b74 i; omega
def s77 (i : In13) : Int := s42 i - s48 i
theorem e77 (i : In13) : s77 i = s42 i - s48 i := rfl
theorem b77 (i : In13) : -446 ≤ s77 i ∧ s77 i ≤ 318 := by
  rw [e77]; have := b42 i; have := b48 i; omega
def s78 (i : In13) : Int := s48 i - s42 i
theorem e78 (i : In13) : s78 i = s48 i - s42 i := rfl
theorem b78 (i : In13) : -318 ≤ s78 i ∧ s78 i ≤ 446 := by
  rw [e78]; have := b48 i; have := b42 i; omega
def s79 (i : In13) : Int := s42 i + 1
theorem e79 (i : In13) : s79 i = s42 i + 1 := rfl
theorem b79 (i : In13) : 200001 ≤ s79 i ∧ s79 i ≤ 200319 := by
  rw [e79]; have := b42 i; omega
def s80 (i : In13) : Int := s79 i % 256
theorem e80 (i : In13) : s80 i = s79 i % 256 := rfl
theorem b80 (i : In13) : 0 ≤ s80 i ∧ s80 i ≤ 255 := by
  rw [e80]; have := b79 i; omega
def s81 (i : In13) : Int := s79 i / 256
theorem e81 (i : In13) : s81 i = s79 i / 256 := rfl
theorem b81 (i : In13) : 781 ≤ s81 i ∧ s81 i ≤ 782 := by
  rw [e81]; have := b79 i; omega
def s82 (i : In13) : Int := s81 i % 256
theorem e82 (i : In13) : s82 i = s81 i % 256 := rfl
theorem b82 (i : In13) : 0 ≤ s82 i ∧ s82 i ≤ 255 := by
  rw [e82]; have := b81 i; omega
def s83 (i : In13) : Int := s81 i * 256
theorem e83 (i : In13) : s83 i = s81 i * 256 := rfl
theorem b83 (i : In13) : 199936 ≤ s83 i ∧ s83 i ≤ 200192 := by
  rw [e83]; have := b81 i; omega
def s84 (i : In13) : Int := s5 i % 2
theorem e84 (i : In13) : s84 i = s5 i % 2 := rfl
theorem b84 (i : In13) : 0 ≤ s84 i ∧ s84 i ≤ 1 := by
  rw [e84]; have := b5 i; omega
def s85 (i : In13) : Int := if s84 i = 1 then 1 else 0
theorem e85 (i : In13) : s85 i = if s84 i = 1 then 1 else 0 := rfl
theorem b85 (i : In13) : 0 ≤ s85 i ∧ s85 i ≤ 1 := by
  rw [e85]; have := b84 i; split <;> omega
def s86 (i : In13) : Int := 2 + s51 i
theorem e86 (i : In13) : s86 i = 2 + s51 i := rfl
theorem b86 (i : In13) : 2 ≤ s86 i ∧ s86 i ≤ 3 := by
  rw [e86]; have := b51 i; omega
def s87 (i : In13) : Int := 4 + s86 i
theorem e87 (i : In13) : s87 i = 4 + s86 i := rfl
theorem b87 (i : In13) : 6 ≤ s87 i ∧ s87 i ≤ 7 := by
  rw [e87]; have := b86 i; omega
def s88 (i : In13) : Int := s40 i - s50 i
theorem e88 (i : In13) : s88 i = s40 i - s50 i := rfl
theorem b88 (i : In13) : -510 ≤ s88 i ∧ s88 i ≤ 255 := by
  rw [e88]; have := b40 i; have := b50 i; omega
def s89 (i : In13) : Int := s50 i + s65 i
theorem e89 (i : In13) : s89 i = s50 i + s65 i := rfl
theorem b89 (i : In13) : 206300 ≤ s89 i ∧ s89 i ≤ 260810 := by
  rw [e89]; have := b50 i; have := b65 i; omega
def s90 (i : In13) : Int := s50 i % 256
theorem e90 (i : In13) : s90 i = s50 i % 256 := rfl
theorem b90 (i : In13) : 0 ≤ s90 i ∧ s90 i ≤ 255 := by
  rw [e90]; have := b50 i; omega
def s91 (i : In13) : Int := s50 i / 256
theorem e91 (i : In13) : s91 i = s50 i / 256 := rfl
theorem b91 (i : In13) : 781 ≤ s91 i ∧ s91 i ≤ 783 := by
  rw [e91]; have := b50 i; omega
def s92 (i : In13) : Int := s91 i % 256
theorem e92 (i : In13) : s92 i = s91 i % 256 := rfl
theorem b92 (i : In13) : 0 ≤ s92 i ∧ s92 i ≤ 255 := by
  rw [e92]; have := b91 i; omega
def s93 (i : In13) : Int := s91 i * 256
theorem e93 (i : In13) : s93 i = s91 i * 256 := rfl
theorem b93 (i : In13) : 199936 ≤ s93 i ∧ s93 i ≤ 200448 := by
  rw [e93]; have := b91 i; omega
def s94 (i : In13) : Int := s42 i - s50 i
theorem e94 (i : In13) : s94 i = s42 i - s50 i := rfl
theorem b94 (i : In13) : -510 ≤ s94 i ∧ s94 i ≤ 318 := by
  rw [e94]; have := b42 i; have := b50 i; omega
def s95 (i : In13) : Int := s50 i - s42 i
theorem e95 (i : In13) : s95 i = s50 i - s42 i := rfl
theorem b95 (i : In13) : -318 ≤ s95 i ∧ s95 i ≤ 510 := by
  rw [e95]; have := b50 i; have := b42 i; omega
noncomputable def rhoN (A B Y : List Int) (m : Nat) : Int := sel (Nat.ble 4722366482869645213696 m) (Y.getD (m - 4722366482869645213696) 0) (sel (Nat.ble 2361183241434822606848 m) (B.getD (m - 2361183241434822606848) 0) (sel (Nat.ble 1180591620717411303424 m) (A.getD (m - 1180591620717411303424) 0) (.ofNat m)))
noncomputable def rhoS (A B Y : List Int) (n : Int) : Int := Int.rec (motive := fun _ => Int) (fun m => rhoN A B Y m) (fun m => .negSucc m) n
def syA (i : In13) : List Int := [s13 i, s18 i, s19 i, s23 i, s24 i, s25 i, s36 i, s37 i, s38 i, s39 i, s40 i, s42 i, s43 i, s45 i, s46 i, s48 i, s49 i, s50 i, s53 i, s56 i, s57 i, s58 i, s60 i, s62 i, s65 i, s66 i, s68 i, s70 i, s74 i, s76 i, s77 i, s78 i, s79 i, s81 i, s83 i, s88 i, s89 i, s91 i, s93 i, s94 i, s95 i]
def syB (i : In13) : List Int := [s0 i, s1 i, s2 i, s3 i, s4 i, s5 i, s6 i, s7 i, s8 i, s9 i, s10 i, s11 i, s12 i, s14 i, s15 i, s16 i, s17 i, s20 i, s21 i, s26 i, s27 i, s28 i, s30 i, s31 i, s33 i, s34 i, s41 i, s44 i, s47 i, s51 i, s52 i, s54 i, s55 i, s59 i, s61 i, s63 i, s64 i, s67 i, s69 i, s71 i, s73 i, s75 i, s80 i, s82 i, s84 i, s86 i, s87 i, s90 i, s92 i]
def syY (i : In13) : List Int := [s22 i, s29 i, s32 i, s35 i, s72 i, s85 i]
noncomputable def rho (i : In13) : Int → Int := rhoS (syA i) (syB i) (syY i)
theorem sel_no {α : Type} {a m : Nat} (h : m < a) (x y : α) : sel (Nat.ble a m) x y = y := by
  have : Nat.ble a m = false := by
    cases q : Nat.ble a m with
    | false => rfl
    | true => have := Nat.le_of_ble_eq_true q; omega
  rw [this]; rfl
theorem sel_yes {α : Type} {a m : Nat} (h : a ≤ m) (x y : α) : sel (Nat.ble a m) x y = x := by rw [Nat.ble_eq_true_of_le h]; rfl
theorem getD_in {l : List Int} (h : ∀ x ∈ l, 0 ≤ x ∧ x ≤ 255) (n : Nat) : 0 ≤ l.getD n 0 ∧ l.getD n 0 ≤ 255 := by
  rw [List.getD_eq_getElem?_getD]
  cases q : l[n]? with
  | none => exact ⟨by decide, by decide⟩
  | some x => exact h x (List.mem_of_getElem? q)
theorem rho_n (i : In13) (n : Int) (h : isS n = false) : rho i n = n := by
  cases n with
  | negSucc m => rfl
  | ofNat m =>
    have h1 : m < 1180591620717411303424 := by
      by_cases q : 1180591620717411303424 ≤ m
      · have : isS (.ofNat m) = true := Nat.ble_eq_true_of_le q
        rw [this] at h; cases h
      · omega
    show rhoN (syA i) (syB i) (syY i) m = .ofNat m
    unfold rhoN
    rw [sel_no (by omega), sel_no (by omega), sel_no h1]
theorem inOfB (i : In13) : ∀ x ∈ syB i, 0 ≤ x ∧ x ≤ 255 := by
  intro x hx
  simp only [syB, List.mem_cons, List.not_mem_nil, or_false] at hx
  rcases hx with rfl | rfl | rfl | rfl | rfl | rfl | rfl | rfl | rfl | rfl | rfl | rfl | rfl | rfl | rfl | rfl | rfl | rfl | rfl | rfl | rfl | rfl | rfl | rfl | rfl | rfl | rfl | rfl | rfl | rfl | rfl | rfl | rfl | rfl | rfl | rfl | rfl | rfl | rfl | rfl | rfl | rfl | rfl | rfl | rfl | rfl | rfl | rfl | rfl
  · have := b0 i; omega
  · have := b1 i; omega
  · have := b2 i; omega
  · have := b3 i; omega
  · have := b4 i; omega
  · have := b5 i; omega
  · have := b6 i; omega
  · have := b7 i; omega
  · have := b8 i; omega
  · have := b9 i; omega
  · have := b10 i; omega
  · have := b11 i; omega
  · have := b12 i; omega
  · have := b14 i; omega
  · have := b15 i; omega
  · have := b16 i; omega
  · have := b17 i; omega
  · have := b20 i; omega
  · have := b21 i; omega
  · have := b26 i; omega
  · have := b27 i; omega
  · have := b28 i; omega
  · have := b30 i; omega
  · have := b31 i; omega
  · have := b33 i; omega
  · have := b34 i; omega
  · have := b41 i; omega
  · have := b44 i; omega
  · have := b47 i; omega
  · have := b51 i; omega
  · have := b52 i; omega
  · have := b54 i; omega
  · have := b55 i; omega
  · have := b59 i; omega
  · have := b61 i; omega
  · have := b63 i; omega
  · have := b64 i; omega
  · have := b67 i; omega
  · have := b69 i; omega
  · have := b71 i; omega
  · have := b73 i; omega
  · have := b75 i; omega
  · have := b80 i; omega
  · have := b82 i; omega
  · have := b84 i; omega
  · have := b86 i; omega
  · have := b87 i; omega
  · have := b90 i; omega
  · have := b92 i; omega
theorem inOfY (i : In13) : ∀ x ∈ syY i, 0 ≤ x ∧ x ≤ 255 := by
  intro x hx
  simp only [syY, List.mem_cons, List.not_mem_nil, or_false] at hx
  rcases hx with rfl | rfl | rfl | rfl | rfl | rfl
  · have := b22 i; omega
  · have := b29 i; omega
  · have := b32 i; omega
  · have := b35 i; omega
  · have := b72 i; omega
  · have := b85 i; omega
theorem rho_b (i : In13) (n : Int) (h : 2361183241434822606848 ≤ n) : 0 ≤ rho i n ∧ rho i n ≤ 255 := by
  cases n with
  | negSucc m => omega
  | ofNat m =>
    have h : 2361183241434822606848 ≤ m := by have : (2361183241434822606848 : Int) ≤ (m : Int) := h; omega
    show 0 ≤ rhoN (syA i) (syB i) (syY i) m ∧ rhoN (syA i) (syB i) (syY i) m ≤ 255
    unfold rhoN
    by_cases q : 4722366482869645213696 ≤ m
    · rw [sel_yes q]; exact getD_in (inOfY i) _
    · rw [sel_no (by omega), sel_yes h]; exact getD_in (inOfB i) _
theorem bn_inj {op op' : BinOp} (h : bnO op = bnO op') : op = op' := by cases op <;> cases op' <;> first | rfl | cases h
theorem kn_inj {k k' : IntKind} (h : kn k = kn k') : k = k' := by cases k <;> cases k' <;> first | rfl | cases h
theorem bn_lt (op : BinOp) : bnO op < 17 := by cases op <;> decide
theorem kn_lt (k : IntKind) : kn k < 8 := by cases k <;> decide
theorem bk_inj {op op' : BinOp} {k k' : IntKind} (h : bnO op * 10 + kn k = bnO op' * 10 + kn k') : op = op' ∧ k = k' := by
  have := kn_lt k; have := kn_lt k'
  exact ⟨bn_inj (by omega), kn_inj (by omega)⟩
theorem RlOk.ofAr {ρ : Int → Int} {n : Nat} {a b r : Int} {t : Bool} (op : BinOp) (k : IntKind) (hn : n = bnO op * 10 + kn k) (hc : isCmp op = false) (h : arI op k (ρ a) (ρ b) (ρ r)) : RlOk ρ ⟨n, a, b, r, t⟩ := by
  subst hn
  have := bn_lt op; have := kn_lt k
  refine ⟨fun op' k' e hc' => ?_, fun op' k' e _ => ?_, fun k' e => ?_, fun k' e => ?_, fun k' e => ?_, fun k' e => ?_⟩
  · obtain ⟨rfl, rfl⟩ := bk_inj e; rw [hc] at hc'; cases hc'
  · obtain ⟨rfl, rfl⟩ := bk_inj e; exact h
  all_goals (have := kn_lt k'; have e : bnO op * 10 + kn k = _ := e; omega)
theorem RlOk.ofCm {ρ : Int → Int} {n : Nat} {a b r : Int} {t : Bool} (op : BinOp) (k : IntKind) (hn : n = bnO op * 10 + kn k) (hc : isCmp op = true) (h : cmV ρ r t = cmI op (ρ a) (ρ b)) : RlOk ρ ⟨n, a, b, r, t⟩ := by
  subst hn
  have := bn_lt op; have := kn_lt k
  refine ⟨fun op' k' e _ => ?_, fun op' k' e hc' => ?_, fun k' e => ?_, fun k' e => ?_, fun k' e => ?_, fun k' e => ?_⟩
  · obtain ⟨rfl, rfl⟩ := bk_inj e; exact h
  · obtain ⟨rfl, rfl⟩ := bk_inj e; rw [hc] at hc'; cases hc'
  all_goals (have := kn_lt k'; have e : bnO op * 10 + kn k = _ := e; omega)
theorem RlOk.ofCv {ρ : Int → Int} {n : Nat} {a b r : Int} {t : Bool} (k : IntKind) (hn : n = 180 + kn k) (h : k.wrap (ρ a) = ρ r) : RlOk ρ ⟨n, a, b, r, t⟩ := by
  subst hn
  have := kn_lt k
  refine ⟨fun op' k' e _ => ?_, fun op' k' e _ => ?_, fun k' e => ?_, fun k' e => ?_, fun k' e => ?_, fun k' e => ?_⟩
  · have := bn_lt op'; have := kn_lt k'; have e : 180 + kn k = _ := e; omega
  · have := bn_lt op'; have := kn_lt k'; have e : 180 + kn k = _ := e; omega
  · have := kn_lt k'; have e : 180 + kn k = _ := e; omega
  · have e : 180 + kn k = 180 + kn k' := e; rw [← kn_inj (show kn k = kn k' by omega)]; exact h
  all_goals (have := kn_lt k'; have e : 180 + kn k = _ := e; omega)
theorem RlOk.ofMx {ρ : Int → Int} {n : Nat} {a b r : Int} {t : Bool} (k : IntKind) (hn : n = 300 + kn k) (h : (if ρ b > ρ a then ρ b else ρ a) = ρ r) : RlOk ρ ⟨n, a, b, r, t⟩ := by
  subst hn
  have := kn_lt k
  refine ⟨fun op' k' e _ => ?_, fun op' k' e _ => ?_, fun k' e => ?_, fun k' e => ?_, fun k' e => ?_, fun k' e => ?_⟩
  · have := bn_lt op'; have := kn_lt k'; have e : 300 + kn k = _ := e; omega
  · have := bn_lt op'; have := kn_lt k'; have e : 300 + kn k = _ := e; omega
  · have := kn_lt k'; have e : 300 + kn k = _ := e; omega
  · have := kn_lt k'; have e : 300 + kn k = _ := e; omega
  · exact h
  · have := kn_lt k'; have e : 300 + kn k = _ := e; omega
theorem RlOk.ofMi {ρ : Int → Int} {n : Nat} {a b r : Int} {t : Bool} (k : IntKind) (hn : n = 310 + kn k) (h : (if ρ b < ρ a then ρ b else ρ a) = ρ r) : RlOk ρ ⟨n, a, b, r, t⟩ := by
  subst hn
  have := kn_lt k
  refine ⟨fun op' k' e _ => ?_, fun op' k' e _ => ?_, fun k' e => ?_, fun k' e => ?_, fun k' e => ?_, fun k' e => ?_⟩
  · have := bn_lt op'; have := kn_lt k'; have e : 310 + kn k = _ := e; omega
  · have := bn_lt op'; have := kn_lt k'; have e : 310 + kn k = _ := e; omega
  · have := kn_lt k'; have e : 310 + kn k = _ := e; omega
  · have := kn_lt k'; have e : 310 + kn k = _ := e; omega
  · have := kn_lt k'; have e : 310 + kn k = _ := e; omega
  · exact h
theorem ww8 (n : Int) : IntKind.u8.wrap n = n % 256 := by simp [IntKind.wrap, IntKind.bits, IntKind.signed]
theorem and1 {x : Int} (h : 0 ≤ x ∧ x ≤ 255) : IntKind.u8.wrap (bitN .and .u8 x 1) = x % 2 := by
  obtain ⟨m, rfl⟩ : ∃ m : Nat, x = (m : Int) := ⟨x.toNat, by omega⟩
  have e : bitN .and .u8 (m : Int) 1 = ((m % 2 : Nat) : Int) := by
    show (((BitVec.ofInt 8 (m : Int) &&& BitVec.ofInt 8 1).toNat : Nat) : Int) = _
    rw [BitVec.toNat_and]
    have h1 : (BitVec.ofInt 8 (m : Int)).toNat = m := by rw [BitVec.ofInt_natCast, BitVec.toNat_ofNat]; omega
    have h2 : (BitVec.ofInt 8 1).toNat = 1 := by decide
    rw [h1, h2, Nat.and_one_is_mod]
  rw [e, ww8]
  omega
theorem or8 {x y r : Int} (q : Int) (h : x = q * 256) (hq : 0 ≤ q ∧ q ≤ 36028797018963) (hy : 0 ≤ y ∧ y ≤ 255) (hr : x + y = r) : IntKind.i64.wrap (bitN .or .i64 x y) = r := by
  subst h
  rw [bitN_or rfl (by omega) hy, wrap_i64 (by omega)]; exact hr
theorem sr {a r : Int} (n : Nat) {d : Int} (hd : (2 : Int) ^ (min ((n : Int)).toNat IntKind.i64.bits) = d) (h0 : 0 < d) (h : a / d = r) : arI .shr .i64 a (n : Int) r := by
  refine ⟨by omega, ?_⟩
  rw [hd, Int.fdiv_eq_ediv_of_nonneg _ (by omega)]; exact h
theorem sr8 {a r : Int} (n : Nat) {d : Int} (hd : (2 : Int) ^ (min ((n : Int)).toNat IntKind.u8.bits) = d) (h0 : 0 < d) (h : a / d = r) : arI .shr .u8 a (n : Int) r := by
  refine ⟨by omega, ?_⟩
  rw [hd, Int.fdiv_eq_ediv_of_nonneg _ (by omega)]; exact h
theorem sl8 {a r : Int} (hb : 0 ≤ a ∧ a ≤ 36028797018963) (h : a * 256 = r) : arI .shl .i64 a 8 r := by
  refine ⟨by omega, ?_⟩
  rw [show (2 : Int) ^ (min ((8 : Int)).toNat IntKind.i64.bits) = 256 from rfl, wrap_i64 (by omega)]; exact h

def rg0 : List Rl := [⟨183, 2361183241434822606854, 0, 2361183241434822606854, false⟩,
  ⟨3, 300, 2361183241434822606854, 1180591620717411303424, false⟩,
  ⟨183, 2361183241434822606855, 0, 2361183241434822606855, false⟩,
  ⟨43, 2361183241434822606855, 33, 2361183241434822606861, false⟩,
  ⟨3, 8, 2361183241434822606861, 2361183241434822606862, false⟩,
  ⟨183, 2361183241434822606856, 0, 2361183241434822606856, false⟩,
  ⟨43, 2361183241434822606856, 236, 2361183241434822606863, false⟩,
  ⟨3, 20, 2361183241434822606863, 2361183241434822606864, false⟩,
  ⟨183, 2361183241434822606848, 0, 2361183241434822606848, false⟩,
  ⟨3, 100000, 2361183241434822606848, 1180591620717411303425, false⟩,
  ⟨104, 2361183241434822606853, 0, 2361183241434822606853, false⟩,
  ⟨183, 2361183241434822606849, 0, 2361183241434822606849, false⟩,
  ⟨3, 100000, 2361183241434822606849, 1180591620717411303426, false⟩,
  ⟨104, 2361183241434822606853, 1, 2361183241434822606865, false⟩,
  ⟨183, 2361183241434822606850, 0, 2361183241434822606850, false⟩,
  ⟨3, 100000, 2361183241434822606850, 1180591620717411303427, false⟩,
  ⟨183, 2361183241434822606851, 0, 2361183241434822606851, false⟩,
  ⟨3, 100000, 2361183241434822606851, 1180591620717411303428, false⟩,
  ⟨183, 2361183241434822606852, 0, 2361183241434822606852, false⟩,
  ⟨3, 100000, 2361183241434822606852, 1180591620717411303429, false⟩,
  ⟨104, 2361183241434822606853, 2, 2361183241434822606867, false⟩,
  ⟨104, 2361183241434822606853, 3, 2361183241434822606868, false⟩,
  ⟨104, 2361183241434822606853, 4, 2361183241434822606870, false⟩,
  ⟨104, 2361183241434822606853, 5, 2361183241434822606872, false⟩,
  ⟨163, 2361183241434822606864, 0, 0, true⟩,
  ⟨143, 2361183241434822606864, 255, 0, true⟩,
  ⟨163, 2361183241434822606862, 1, 0, true⟩,
  ⟨143, 2361183241434822606862, 40, 0, true⟩,
  ⟨153, 0, 2361183241434822606862, 0, false⟩,
  ⟨163, 1180591620717411303424, 0, 0, true⟩,
  ⟨143, 1180591620717411303424, 4294967295, 0, true⟩,
  ⟨163, 1180591620717411303425, 0, 0, true⟩,
  ⟨143, 1180591620717411303425, 4294967295, 0, true⟩,
  ⟨163, 1180591620717411303426, 0, 0, true⟩,
  ⟨143, 1180591620717411303426, 4294967295, 0, true⟩,
  ⟨163, 1180591620717411303427, 0, 0, true⟩,
  ⟨143, 1180591620717411303427, 4294967295, 0, true⟩,
  ⟨163, 1180591620717411303428, 0, 0, true⟩,
  ⟨143, 1180591620717411303428, 4294967295, 0, true⟩,
  ⟨163, 1180591620717411303429, 0, 0, true⟩,
  ⟨143, 1180591620717411303429, 4294967295, 0, true⟩,
  ⟨303, 0, 1180591620717411303427, 1180591620717411303427, false⟩,
  ⟨303, 1180591620717411303427, 1180591620717411303428, 1180591620717411303430, false⟩,
  ⟨303, 1180591620717411303430, 1180591620717411303429, 1180591620717411303431, false⟩,
  ⟨303, 1180591620717411303425, 0, 1180591620717411303425, false⟩,
  ⟨303, 1180591620717411303431, 1180591620717411303425, 1180591620717411303432, false⟩,
  ⟨303, 1180591620717411303432, 0, 1180591620717411303432, false⟩,
  ⟨303, 1180591620717411303426, 0, 1180591620717411303426, false⟩,
  ⟨303, 1180591620717411303432, 1180591620717411303426, 1180591620717411303433, false⟩,
  ⟨303, 1180591620717411303433, 0, 1180591620717411303433, false⟩,
  ⟨3, 1180591620717411303433, 100000, 1180591620717411303434, false⟩,
  ⟨183, 2361183241434822606860, 0, 2361183241434822606860, false⟩,
  ⟨23, 2361183241434822606860, 0, 0, false⟩,
  ⟨3, 1180591620717411303434, 0, 1180591620717411303434, false⟩,
  ⟨163, 1180591620717411303434, 0, 0, true⟩,
  ⟨143, 1180591620717411303434, 4294967295, 0, true⟩,
  ⟨23, 2361183241434822606860, 1, 2361183241434822606860, false⟩,
  ⟨33, 2361183241434822606860, 4, 2361183241434822606874, false⟩,
  ⟨3, 1180591620717411303434, 2361183241434822606874, 1180591620717411303435, false⟩,
  ⟨163, 1180591620717411303435, 0, 0, true⟩,
  ⟨143, 1180591620717411303435, 4294967295, 0, true⟩,
  ⟨23, 2361183241434822606860, 2, 1180591620717411303436, false⟩,
  ⟨33, 1180591620717411303436, 4, 2361183241434822606875, false⟩,
  ⟨3, 1180591620717411303434, 2361183241434822606875, 1180591620717411303437, false⟩,
  ⟨163, 1180591620717411303437, 0, 0, true⟩,
  ⟨143, 1180591620717411303437, 4294967295, 0, true⟩,
  ⟨23, 2361183241434822606860, 3, 1180591620717411303438, false⟩,
  ⟨33, 1180591620717411303438, 4, 2361183241434822606876, false⟩,
  ⟨3, 1180591620717411303434, 2361183241434822606876, 1180591620717411303439, false⟩,
  ⟨163, 1180591620717411303439, 0, 0, true⟩,
  ⟨143, 1180591620717411303439, 4294967295, 0, true⟩,
  ⟨23, 2361183241434822606860, 4, 1180591620717411303440, false⟩,
  ⟨33, 1180591620717411303440, 4, 2361183241434822606860, false⟩,
  ⟨3, 1180591620717411303434, 2361183241434822606860, 1180591620717411303441, false⟩,
  ⟨163, 1180591620717411303441, 0, 0, true⟩,
  ⟨143, 1180591620717411303441, 4294967295, 0, true⟩,
  ⟨183, 2361183241434822606858, 0, 2361183241434822606858, false⟩,
  ⟨183, 2361183241434822606859, 0, 2361183241434822606859, false⟩,
  ⟨43, 2361183241434822606859, 2, 2361183241434822606877, false⟩,
  ⟨313, 200, 2361183241434822606864, 2361183241434822606883, false⟩,
  ⟨313, 2361183241434822606883, 2361183241434822606864, 2361183241434822606883, false⟩,
  ⟨133, 255, 2361183241434822606883, 0, false⟩,
  ⟨133, 2361183241434822606883, 0, 0, false⟩,
  ⟨163, 2361183241434822606883, 0, 0, true⟩,
  ⟨143, 2361183241434822606883, 255, 0, true⟩,
  ⟨3, 2361183241434822606883, 1, 2361183241434822606884, false⟩,
  ⟨23, 300, 2361183241434822606884, 1180591620717411303448, false⟩,
  ⟨133, 1180591620717411303448, 300, 0, false⟩,
  ⟨33, 1180591620717411303448, 300, 2361183241434822606884, false⟩,
  ⟨13, 2361183241434822606884, 1, 2361183241434822606883, false⟩,
  ⟨103, 2361183241434822606883, 0, 2361183241434822606883, false⟩,
  ⟨184, 2361183241434822606883, 0, 2361183241434822606883, false⟩,
  ⟨183, 2361183241434822606883, 0, 2361183241434822606883, false⟩,
  ⟨63, 0, 2361183241434822606883, 2361183241434822606883, false⟩]
theorem rg0_ok (i : In13) : ∀ q ∈ rg0, RlOk (rho i) q := by
  intro q hq
  simp only [rg0, List.mem_cons, List.not_mem_nil, or_false] at hq
  rcases hq with rfl | rfl | rfl | rfl | rfl | rfl | rfl | rfl | rfl | rfl | rfl | rfl | rfl | rfl | rfl | rfl | rfl | rfl | rfl | rfl | rfl | rfl | rfl | rfl | rfl | rfl | rfl | rfl | rfl | rfl | rfl | rfl | rfl | rfl | rfl | rfl | rfl | rfl | rfl | rfl | rfl | rfl | rfl | rfl | rfl | rfl | rfl | rfl | rfl | rfl | rfl | rfl | rfl | rfl | rfl | rfl | rfl | rfl | rfl | rfl | rfl | rfl | rfl | rfl | rfl | rfl | rfl | rfl | rfl | rfl | rfl | rfl | rfl | rfl | rfl | rfl | rfl | rfl | rfl | rfl | rfl | rfl | rfl | rfl | rfl | rfl | rfl | rfl | rfl | rfl | rfl | rfl | rfl | rfl
  · exact RlOk.ofCv .i64 rfl (show IntKind.i64.wrap (s6 i) = s6 i by have := b6 i; have := b6 i; rw [wrap_i64 (by omega)])
  · exact RlOk.ofAr .add .i64 rfl rfl (show IntKind.i64.wrap (300 + s6 i) = s13 i by have := b6 i; have := b13 i; have := e13 i; rw [wrap_i64 (by omega)]; omega)
  · exact RlOk.ofCv .i64 rfl (show IntKind.i64.wrap (s7 i) = s7 i by have := b7 i; have := b7 i; rw [wrap_i64 (by omega)])
  · exact RlOk.ofAr .rem .i64 rfl rfl (show 33 ≠ 0 ∧ Int.tmod (s7 i) 33 = s14 i by have := b7 i; have := b14 i; have := e14 i; rw [Int.tmod_eq_emod_of_nonneg (by omega)]; omega)
  · exact RlOk.ofAr .add .i64 rfl rfl (show IntKind.i64.wrap (8 + s14 i) = s15 i by have := b14 i; have := b15 i; have := b7 i; have := e14 i; have := e15 i; rw [wrap_i64 (by omega)]; omega)
  · exact RlOk.ofCv .i64 rfl (show IntKind.i64.wrap (s8 i) = s8 i by have := b8 i; have := b8 i; rw [wrap_i64 (by omega)])
  · exact RlOk.ofAr .rem .i64 rfl rfl (show 236 ≠ 0 ∧ Int.tmod (s8 i) 236 = s16 i by have := b8 i; have := b16 i; have := e16 i; rw [Int.tmod_eq_emod_of_nonneg (by omega)]; omega)
  · exact RlOk.ofAr .add .i64 rfl rfl (show IntKind.i64.wrap (20 + s16 i) = s17 i by have := b16 i; have := b17 i; have := b8 i; have := e16 i; have := e17 i; rw [wrap_i64 (by omega)]; omega)
  · exact RlOk.ofCv .i64 rfl (show IntKind.i64.wrap (s0 i) = s0 i by have := b0 i; have := b0 i; rw [wrap_i64 (by omega)])
  · exact RlOk.ofAr .add .i64 rfl rfl (show IntKind.i64.wrap (100000 + s0 i) = s18 i by have := b0 i; have := b18 i; have := e18 i; rw [wrap_i64 (by omega)]; omega)
  · exact RlOk.ofAr .shr .u8 rfl rfl (show arI .shr .u8 (s5 i) ((0 : Nat) : Int) (s5 i) by have := b5 i; have := b5 i; exact sr8 0 (d := 1) rfl (by omega) (by omega))
  · exact RlOk.ofCv .i64 rfl (show IntKind.i64.wrap (s1 i) = s1 i by have := b1 i; have := b1 i; rw [wrap_i64 (by omega)])
  · exact RlOk.ofAr .add .i64 rfl rfl (show IntKind.i64.wrap (100000 + s1 i) = s19 i by have := b1 i; have := b19 i; have := e19 i; rw [wrap_i64 (by omega)]; omega)
  · exact RlOk.ofAr .shr .u8 rfl rfl (show arI .shr .u8 (s5 i) ((1 : Nat) : Int) (s20 i) by have := b5 i; have := b20 i; have := e20 i; exact sr8 1 (d := 2) rfl (by omega) (by omega))
  · exact RlOk.ofCv .i64 rfl (show IntKind.i64.wrap (s2 i) = s2 i by have := b2 i; have := b2 i; rw [wrap_i64 (by omega)])
  · exact RlOk.ofAr .add .i64 rfl rfl (show IntKind.i64.wrap (100000 + s2 i) = s23 i by have := b2 i; have := b23 i; have := e23 i; rw [wrap_i64 (by omega)]; omega)
  · exact RlOk.ofCv .i64 rfl (show IntKind.i64.wrap (s3 i) = s3 i by have := b3 i; have := b3 i; rw [wrap_i64 (by omega)])
  · exact RlOk.ofAr .add .i64 rfl rfl (show IntKind.i64.wrap (100000 + s3 i) = s24 i by have := b3 i; have := b24 i; have := e24 i; rw [wrap_i64 (by omega)]; omega)
  · exact RlOk.ofCv .i64 rfl (show IntKind.i64.wrap (s4 i) = s4 i by have := b4 i; have := b4 i; rw [wrap_i64 (by omega)])
  · exact RlOk.ofAr .add .i64 rfl rfl (show IntKind.i64.wrap (100000 + s4 i) = s25 i by have := b4 i; have := b25 i; have := e25 i; rw [wrap_i64 (by omega)]; omega)
  · exact RlOk.ofAr .shr .u8 rfl rfl (show arI .shr .u8 (s5 i) ((2 : Nat) : Int) (s26 i) by have := b5 i; have := b26 i; have := e26 i; exact sr8 2 (d := 4) rfl (by omega) (by omega))
  · exact RlOk.ofAr .shr .u8 rfl rfl (show arI .shr .u8 (s5 i) ((3 : Nat) : Int) (s27 i) by have := b5 i; have := b27 i; have := e27 i; exact sr8 3 (d := 8) rfl (by omega) (by omega))
  · exact RlOk.ofAr .shr .u8 rfl rfl (show arI .shr .u8 (s5 i) ((4 : Nat) : Int) (s30 i) by have := b5 i; have := b30 i; have := e30 i; exact sr8 4 (d := 16) rfl (by omega) (by omega))
  · exact RlOk.ofAr .shr .u8 rfl rfl (show arI .shr .u8 (s5 i) ((5 : Nat) : Int) (s33 i) by have := b5 i; have := b33 i; have := e33 i; exact sr8 5 (d := 32) rfl (by omega) (by omega))
  · exact RlOk.ofCm .geq .i64 rfl rfl (show true = decide (s17 i ≥ 0) from (decide_eq_true (by have := b17 i; have := b16 i; have := b8 i; have := e17 i; have := e16 i; omega)).symm)
  · exact RlOk.ofCm .leq .i64 rfl rfl (show true = decide (s17 i ≤ 255) from (decide_eq_true (by have := b17 i; have := b16 i; have := b8 i; have := e17 i; have := e16 i; omega)).symm)
  · exact RlOk.ofCm .geq .i64 rfl rfl (show true = decide (s15 i ≥ 1) from (decide_eq_true (by have := b15 i; have := b14 i; have := b7 i; have := e15 i; have := e14 i; omega)).symm)
  · exact RlOk.ofCm .leq .i64 rfl rfl (show true = decide (s15 i ≤ 40) from (decide_eq_true (by have := b15 i; have := b14 i; have := b7 i; have := e15 i; have := e14 i; omega)).symm)
  · exact RlOk.ofCm .gtr .i64 rfl rfl (show false = decide (0 > s15 i) from (decide_eq_false (by have := b15 i; have := b14 i; have := b7 i; have := e15 i; have := e14 i; omega)).symm)
  · exact RlOk.ofCm .geq .i64 rfl rfl (show true = decide (s13 i ≥ 0) from (decide_eq_true (by have := b13 i; have := b6 i; have := e13 i; omega)).symm)
  · exact RlOk.ofCm .leq .i64 rfl rfl (show true = decide (s13 i ≤ 4294967295) from (decide_eq_true (by have := b13 i; have := b6 i; have := e13 i; omega)).symm)
  · exact RlOk.ofCm .geq .i64 rfl rfl (show true = decide (s18 i ≥ 0) from (decide_eq_true (by have := b18 i; have := b0 i; have := e18 i; omega)).symm)
  · exact RlOk.ofCm .leq .i64 rfl rfl (show true = decide (s18 i ≤ 4294967295) from (decide_eq_true (by have := b18 i; have := b0 i; have := e18 i; omega)).symm)
  · exact RlOk.ofCm .geq .i64 rfl rfl (show true = decide (s19 i ≥ 0) from (decide_eq_true (by have := b19 i; have := b1 i; have := e19 i; omega)).symm)
  · exact RlOk.ofCm .leq .i64 rfl rfl (show true = decide (s19 i ≤ 4294967295) from (decide_eq_true (by have := b19 i; have := b1 i; have := e19 i; omega)).symm)
  · exact RlOk.ofCm .geq .i64 rfl rfl (show true = decide (s23 i ≥ 0) from (decide_eq_true (by have := b23 i; have := b2 i; have := e23 i; omega)).symm)
  · exact RlOk.ofCm .leq .i64 rfl rfl (show true = decide (s23 i ≤ 4294967295) from (decide_eq_true (by have := b23 i; have := b2 i; have := e23 i; omega)).symm)
  · exact RlOk.ofCm .geq .i64 rfl rfl (show true = decide (s24 i ≥ 0) from (decide_eq_true (by have := b24 i; have := b3 i; have := e24 i; omega)).symm)
  · exact RlOk.ofCm .leq .i64 rfl rfl (show true = decide (s24 i ≤ 4294967295) from (decide_eq_true (by have := b24 i; have := b3 i; have := e24 i; omega)).symm)
  · exact RlOk.ofCm .geq .i64 rfl rfl (show true = decide (s25 i ≥ 0) from (decide_eq_true (by have := b25 i; have := b4 i; have := e25 i; omega)).symm)
  · exact RlOk.ofCm .leq .i64 rfl rfl (show true = decide (s25 i ≤ 4294967295) from (decide_eq_true (by have := b25 i; have := b4 i; have := e25 i; omega)).symm)
  · exact RlOk.ofMx .i64 rfl (show (if s23 i > 0 then s23 i else 0) = s23 i by have := b23 i; split <;> omega)
  · exact RlOk.ofMx .i64 rfl (e36 i).symm
  · exact RlOk.ofMx .i64 rfl (e37 i).symm
  · exact RlOk.ofMx .i64 rfl (show (if 0 > s18 i then 0 else s18 i) = s18 i by have := b18 i; split <;> omega)
  · exact RlOk.ofMx .i64 rfl (e38 i).symm
  · exact RlOk.ofMx .i64 rfl (show (if 0 > s38 i then 0 else s38 i) = s38 i by have := b38 i; split <;> omega)
  · exact RlOk.ofMx .i64 rfl (show (if 0 > s19 i then 0 else s19 i) = s19 i by have := b19 i; split <;> omega)
  · exact RlOk.ofMx .i64 rfl (e39 i).symm
  · exact RlOk.ofMx .i64 rfl (show (if 0 > s39 i then 0 else s39 i) = s39 i by have := b39 i; split <;> omega)
  · exact RlOk.ofAr .add .i64 rfl rfl (show IntKind.i64.wrap (s39 i + 100000) = s40 i by have := b39 i; have := b40 i; have := b38 i; have := b19 i; have := b37 i; have := b18 i; have := b1 i; have := b36 i; have := b25 i; have := b0 i; have := e39 i; have := e40 i; have := e38 i; have := e19 i; have := e37 i; have := e18 i; have := e36 i; have := e25 i; rw [wrap_i64 (by omega)]; omega)
  · exact RlOk.ofCv .i64 rfl (show IntKind.i64.wrap (s12 i) = s12 i by have := b12 i; have := b12 i; rw [wrap_i64 (by omega)])
  · exact RlOk.ofAr .mul .i64 rfl rfl (show IntKind.i64.wrap (s12 i * 0) = 0 by have := b12 i; rw [wrap_i64 (by omega)]; omega)
  · exact RlOk.ofAr .add .i64 rfl rfl (show IntKind.i64.wrap (s40 i + 0) = s40 i by have := b40 i; have := b40 i; have := b39 i; have := b38 i; have := b19 i; have := b37 i; have := b18 i; have := b1 i; have := e40 i; have := e40 i; have := e39 i; have := e38 i; have := e19 i; have := e37 i; have := e18 i; rw [wrap_i64 (by omega)]; omega)
  · exact RlOk.ofCm .geq .i64 rfl rfl (show true = decide (s40 i ≥ 0) from (decide_eq_true (by have := b40 i; have := b39 i; have := b38 i; have := b19 i; have := b37 i; have := b18 i; have := b1 i; have := e40 i; have := e39 i; have := e38 i; have := e19 i; have := e37 i; have := e18 i; omega)).symm)
  · exact RlOk.ofCm .leq .i64 rfl rfl (show true = decide (s40 i ≤ 4294967295) from (decide_eq_true (by have := b40 i; have := b39 i; have := b38 i; have := b19 i; have := b37 i; have := b18 i; have := b1 i; have := e40 i; have := e39 i; have := e38 i; have := e19 i; have := e37 i; have := e18 i; omega)).symm)
  · exact RlOk.ofAr .mul .i64 rfl rfl (show IntKind.i64.wrap (s12 i * 1) = s12 i by have := b12 i; have := b12 i; rw [wrap_i64 (by omega)]; omega)
  · exact RlOk.ofAr .quo .i64 rfl rfl (show 4 ≠ 0 ∧ IntKind.i64.wrap (Int.tdiv (s12 i) 4) = s41 i by have := b12 i; have := b41 i; have := e41 i; rw [Int.tdiv_eq_ediv_of_nonneg (by omega), wrap_i64 (by omega)]; omega)
  · exact RlOk.ofAr .add .i64 rfl rfl (show IntKind.i64.wrap (s40 i + s41 i) = s42 i by have := b40 i; have := b41 i; have := b42 i; have := b39 i; have := b12 i; have := b38 i; have := b19 i; have := b37 i; have := b18 i; have := b1 i; have := e40 i; have := e41 i; have := e42 i; have := e39 i; have := e38 i; have := e19 i; have := e37 i; have := e18 i; rw [wrap_i64 (by omega)]; omega)
  · exact RlOk.ofCm .geq .i64 rfl rfl (show true = decide (s42 i ≥ 0) from (decide_eq_true (by have := b42 i; have := b40 i; have := b41 i; have := b39 i; have := b12 i; have := b38 i; have := b19 i; have := e42 i; have := e40 i; have := e41 i; have := e39 i; have := e38 i; have := e19 i; omega)).symm)
  · exact RlOk.ofCm .leq .i64 rfl rfl (show true = decide (s42 i ≤ 4294967295) from (decide_eq_true (by have := b42 i; have := b40 i; have := b41 i; have := b39 i; have := b12 i; have := b38 i; have := b19 i; have := e42 i; have := e40 i; have := e41 i; have := e39 i; have := e38 i; have := e19 i; omega)).symm)
  · exact RlOk.ofAr .mul .i64 rfl rfl (show IntKind.i64.wrap (s12 i * 2) = s43 i by have := b12 i; have := b43 i; have := e43 i; rw [wrap_i64 (by omega)]; omega)
  · exact RlOk.ofAr .quo .i64 rfl rfl (show 4 ≠ 0 ∧ IntKind.i64.wrap (Int.tdiv (s43 i) 4) = s44 i by have := b43 i; have := b44 i; have := b12 i; have := e43 i; have := e44 i; rw [Int.tdiv_eq_ediv_of_nonneg (by omega), wrap_i64 (by omega)]; omega)
  · exact RlOk.ofAr .add .i64 rfl rfl (show IntKind.i64.wrap (s40 i + s44 i) = s45 i by have := b40 i; have := b44 i; have := b45 i; have := b39 i; have := b43 i; have := b38 i; have := b19 i; have := b12 i; have := b37 i; have := b18 i; have := b1 i; have := e40 i; have := e44 i; have := e45 i; have := e39 i; have := e43 i; have := e38 i; have := e19 i; have := e37 i; have := e18 i; rw [wrap_i64 (by omega)]; omega)
  · exact RlOk.ofCm .geq .i64 rfl rfl (show true = decide (s45 i ≥ 0) from (decide_eq_true (by have := b45 i; have := b40 i; have := b44 i; have := b39 i; have := b43 i; have := b38 i; have := b19 i; have := b12 i; have := e45 i; have := e40 i; have := e44 i; have := e39 i; have := e43 i; have := e38 i; have := e19 i; omega)).symm)
  · exact RlOk.ofCm .leq .i64 rfl rfl (show true = decide (s45 i ≤ 4294967295) from (decide_eq_true (by have := b45 i; have := b40 i; have := b44 i; have := b39 i; have := b43 i; have := b38 i; have := b19 i; have := b12 i; have := e45 i; have := e40 i; have := e44 i; have := e39 i; have := e43 i; have := e38 i; have := e19 i; omega)).symm)
  · exact RlOk.ofAr .mul .i64 rfl rfl (show IntKind.i64.wrap (s12 i * 3) = s46 i by have := b12 i; have := b46 i; have := e46 i; rw [wrap_i64 (by omega)]; omega)
  · exact RlOk.ofAr .quo .i64 rfl rfl (show 4 ≠ 0 ∧ IntKind.i64.wrap (Int.tdiv (s46 i) 4) = s47 i by have := b46 i; have := b47 i; have := b12 i; have := e46 i; have := e47 i; rw [Int.tdiv_eq_ediv_of_nonneg (by omega), wrap_i64 (by omega)]; omega)
  · exact RlOk.ofAr .add .i64 rfl rfl (show IntKind.i64.wrap (s40 i + s47 i) = s48 i by have := b40 i; have := b47 i; have := b48 i; have := b39 i; have := b46 i; have := b38 i; have := b19 i; have := b12 i; have := b37 i; have := b18 i; have := b1 i; have := e40 i; have := e47 i; have := e48 i; have := e39 i; have := e46 i; have := e38 i; have := e19 i; have := e37 i; have := e18 i; rw [wrap_i64 (by omega)]; omega)
  · exact RlOk.ofCm .geq .i64 rfl rfl (show true = decide (s48 i ≥ 0) from (decide_eq_true (by have := b48 i; have := b40 i; have := b47 i; have := b39 i; have := b46 i; have := b38 i; have := b19 i; have := b12 i; have := e48 i; have := e40 i; have := e47 i; have := e39 i; have := e46 i; have := e38 i; have := e19 i; omega)).symm)
  · exact RlOk.ofCm .leq .i64 rfl rfl (show true = decide (s48 i ≤ 4294967295) from (decide_eq_true (by have := b48 i; have := b40 i; have := b47 i; have := b39 i; have := b46 i; have := b38 i; have := b19 i; have := b12 i; have := e48 i; have := e40 i; have := e47 i; have := e39 i; have := e46 i; have := e38 i; have := e19 i; omega)).symm)
  · exact RlOk.ofAr .mul .i64 rfl rfl (show IntKind.i64.wrap (s12 i * 4) = s49 i by have := b12 i; have := b49 i; have := e49 i; rw [wrap_i64 (by omega)]; omega)
  · exact RlOk.ofAr .quo .i64 rfl rfl (show 4 ≠ 0 ∧ IntKind.i64.wrap (Int.tdiv (s49 i) 4) = s12 i by have := b49 i; have := b12 i; have := e49 i; rw [Int.tdiv_eq_ediv_of_nonneg (by omega), wrap_i64 (by omega)]; omega)
  · exact RlOk.ofAr .add .i64 rfl rfl (show IntKind.i64.wrap (s40 i + s12 i) = s50 i by have := b40 i; have := b12 i; have := b50 i; have := b39 i; have := b38 i; have := b19 i; have := b37 i; have := b18 i; have := b1 i; have := e40 i; have := e50 i; have := e39 i; have := e38 i; have := e19 i; have := e37 i; have := e18 i; rw [wrap_i64 (by omega)]; omega)
  · exact RlOk.ofCm .geq .i64 rfl rfl (show true = decide (s50 i ≥ 0) from (decide_eq_true (by have := b50 i; have := b40 i; have := b12 i; have := b39 i; have := b38 i; have := b19 i; have := e50 i; have := e40 i; have := e39 i; have := e38 i; have := e19 i; omega)).symm)
  · exact RlOk.ofCm .leq .i64 rfl rfl (show true = decide (s50 i ≤ 4294967295) from (decide_eq_true (by have := b50 i; have := b40 i; have := b12 i; have := b39 i; have := b38 i; have := b19 i; have := e50 i; have := e40 i; have := e39 i; have := e38 i; have := e19 i; omega)).symm)
  · exact RlOk.ofCv .i64 rfl (show IntKind.i64.wrap (s10 i) = s10 i by have := b10 i; have := b10 i; rw [wrap_i64 (by omega)])
  · exact RlOk.ofCv .i64 rfl (show IntKind.i64.wrap (s11 i) = s11 i by have := b11 i; have := b11 i; rw [wrap_i64 (by omega)])
  · exact RlOk.ofAr .rem .i64 rfl rfl (show 2 ≠ 0 ∧ Int.tmod (s11 i) 2 = s51 i by have := b11 i; have := b51 i; have := e51 i; rw [Int.tmod_eq_emod_of_nonneg (by omega)]; omega)
  · exact RlOk.ofMi .i64 rfl (e63 i).symm
  · exact RlOk.ofMi .i64 rfl (show (if s17 i < s63 i then s17 i else s63 i) = s63 i by have := e63 i; split at this <;> split <;> omega)
  · exact RlOk.ofCm .lss .i64 rfl rfl (show false = decide (255 < s63 i) from (decide_eq_false (by have := b63 i; have := b17 i; have := b16 i; have := b8 i; have := e63 i; have := e17 i; have := e16 i; omega)).symm)
  · exact RlOk.ofCm .lss .i64 rfl rfl (show false = decide (s63 i < 0) from (decide_eq_false (by have := b63 i; have := b17 i; have := b16 i; have := b8 i; have := e63 i; have := e17 i; have := e16 i; omega)).symm)
  · exact RlOk.ofCm .geq .i64 rfl rfl (show true = decide (s63 i ≥ 0) from (decide_eq_true (by have := b63 i; have := b17 i; have := b16 i; have := b8 i; have := e63 i; have := e17 i; have := e16 i; omega)).symm)
  · exact RlOk.ofCm .leq .i64 rfl rfl (show true = decide (s63 i ≤ 255) from (decide_eq_true (by have := b63 i; have := b17 i; have := b16 i; have := b8 i; have := e63 i; have := e17 i; have := e16 i; omega)).symm)
  · exact RlOk.ofAr .add .i64 rfl rfl (show IntKind.i64.wrap (s63 i + 1) = s64 i by have := b63 i; have := b64 i; have := b17 i; have := b16 i; have := b8 i; have := e63 i; have := e64 i; have := e17 i; have := e16 i; rw [wrap_i64 (by omega)]; omega)
  · exact RlOk.ofAr .mul .i64 rfl rfl (show IntKind.i64.wrap (300 * s64 i) = s65 i by have := b64 i; have := b65 i; have := b63 i; have := b17 i; have := b16 i; have := e64 i; have := e65 i; have := e63 i; have := e17 i; have := e16 i; rw [wrap_i64 (by omega)]; omega)
  · exact RlOk.ofCm .lss .i64 rfl rfl (show false = decide (s65 i < 300) from (decide_eq_false (by have := b65 i; have := b64 i; have := b63 i; have := b17 i; have := e65 i; have := e64 i; have := e63 i; have := e17 i; omega)).symm)
  · exact RlOk.ofAr .quo .i64 rfl rfl (show 300 ≠ 0 ∧ IntKind.i64.wrap (Int.tdiv (s65 i) 300) = s64 i by have := b65 i; have := b64 i; have := b63 i; have := b17 i; have := b16 i; have := e65 i; have := e64 i; have := e63 i; have := e17 i; have := e16 i; rw [Int.tdiv_eq_ediv_of_nonneg (by omega), wrap_i64 (by omega)]; omega)
  · exact RlOk.ofAr .sub .i64 rfl rfl (show IntKind.i64.wrap (s64 i - 1) = s63 i by have := b64 i; have := b63 i; have := b17 i; have := b16 i; have := b8 i; have := e64 i; have := e63 i; have := e17 i; have := e16 i; rw [wrap_i64 (by omega)]; omega)
  · exact RlOk.ofAr .shr .i64 rfl rfl (show arI .shr .i64 (s63 i) ((0 : Nat) : Int) (s63 i) by have := b63 i; have := b63 i; have := b17 i; have := b16 i; have := b8 i; have := e63 i; have := e63 i; have := e17 i; have := e16 i; exact sr 0 (d := 1) rfl (by omega) (by omega))
  · exact RlOk.ofCv .u8 rfl (show IntKind.u8.wrap (s63 i) = s63 i by have := b63 i; have := b63 i; have := b17 i; have := b16 i; have := b8 i; have := e63 i; have := e63 i; have := e17 i; have := e16 i; rw [ww8]; omega)
  · exact RlOk.ofCv .i64 rfl (show IntKind.i64.wrap (s63 i) = s63 i by have := b63 i; have := b63 i; have := b17 i; have := b16 i; have := b8 i; have := e63 i; have := e63 i; have := e17 i; have := e16 i; rw [wrap_i64 (by omega)])
  · exact RlOk.ofAr .or .i64 rfl rfl (show IntKind.i64.wrap (bitN .or .i64 (0) (s63 i)) = s63 i by have := b63 i; have := b63 i; have := b17 i; have := b16 i; have := b8 i; have := e63 i; have := e63 i; have := e17 i; have := e16 i; exact or8 0 (by omega) (by omega) (by omega) (by omega))
def rg1 : List Rl := [⟨54, 2361183241434822606853, 1, 0, false⟩]
theorem rg1_ok (i : In13) (h : s5 i % 2 = 0) : ∀ q ∈ rg1, RlOk (rho i) q := by
  intro q hq
  simp only [rg1, List.mem_cons, List.not_mem_nil, or_false] at hq
  rcases hq with rfl
  · exact RlOk.ofAr .and .u8 rfl rfl (show IntKind.u8.wrap (bitN .and .u8 (s5 i) 1) = 0 by have := b5 i; have := h; rw [and1 (by omega)]; omega)
def rg2 : List Rl := [⟨54, 2361183241434822606853, 1, 1, false⟩]
theorem rg2_ok (i : In13) (h : s5 i % 2 = 1) : ∀ q ∈ rg2, RlOk (rho i) q := by
  intro q hq
  simp only [rg2, List.mem_cons, List.not_mem_nil, or_false] at hq
  rcases hq with rfl
  · exact RlOk.ofAr .and .u8 rfl rfl (show IntKind.u8.wrap (bitN .and .u8 (s5 i) 1) = 1 by have := b5 i; have := h; rw [and1 (by omega)]; omega)
def rg3 : List Rl := [⟨54, 2361183241434822606853, 1, 2361183241434822606892, false⟩,
  ⟨114, 2361183241434822606892, 1, 4722366482869645213701, false⟩,
  ⟨3, 2, 2361183241434822606877, 2361183241434822606893, false⟩,
  ⟨3, 4, 2361183241434822606893, 2361183241434822606894, false⟩,
  ⟨133, 1180591620717411303441, 0, 0, false⟩,
  ⟨153, 1180591620717411303441, 4294967295, 0, false⟩,
  ⟨3, 1180591620717411303441, 1180591620717411303448, 1180591620717411303460, false⟩,
  ⟨133, 1180591620717411303460, 1180591620717411303441, 0, false⟩,
  ⟨13, 1180591620717411303460, 1180591620717411303441, 1180591620717411303448, false⟩,
  ⟨103, 1180591620717411303441, 0, 1180591620717411303441, false⟩,
  ⟨184, 1180591620717411303441, 0, 2361183241434822606895, false⟩,
  ⟨103, 1180591620717411303441, 8, 1180591620717411303461, false⟩,
  ⟨184, 1180591620717411303461, 0, 2361183241434822606896, false⟩,
  ⟨103, 1180591620717411303441, 16, 3, false⟩,
  ⟨103, 1180591620717411303441, 24, 0, false⟩,
  ⟨183, 2361183241434822606896, 0, 2361183241434822606896, false⟩,
  ⟨63, 768, 2361183241434822606896, 1180591620717411303461, false⟩,
  ⟨93, 1180591620717411303461, 8, 1180591620717411303462, false⟩,
  ⟨183, 2361183241434822606895, 0, 2361183241434822606895, false⟩,
  ⟨63, 1180591620717411303462, 2361183241434822606895, 1180591620717411303441, false⟩]
theorem rg3_ok (i : In13) : ∀ q ∈ rg3, RlOk (rho i) q := by
  intro q hq
  simp only [rg3, List.mem_cons, List.not_mem_nil, or_false] at hq
  rcases hq with rfl | rfl | rfl | rfl | rfl | rfl | rfl | rfl | rfl | rfl | rfl | rfl | rfl | rfl | rfl | rfl | rfl | rfl | rfl | rfl
  · exact RlOk.ofAr .and .u8 rfl rfl (show IntKind.u8.wrap (bitN .and .u8 (s5 i) 1) = s84 i by have := b5 i; have := b84 i; have := e84 i; rw [and1 (by omega)]; omega)
  · exact RlOk.ofCm .eql .u8 rfl rfl (show ((s85 i) == (1 : Int)) = (s84 i == 1) by rw [e85]; by_cases h : s84 i = 1 <;> simp [h])
  · exact RlOk.ofAr .add .i64 rfl rfl (show IntKind.i64.wrap (2 + s51 i) = s86 i by have := b51 i; have := b86 i; have := b11 i; have := e51 i; have := e86 i; rw [wrap_i64 (by omega)]; omega)
  · exact RlOk.ofAr .add .i64 rfl rfl (show IntKind.i64.wrap (4 + s86 i) = s87 i by have := b86 i; have := b87 i; have := b51 i; have := b11 i; have := e86 i; have := e87 i; have := e51 i; rw [wrap_i64 (by omega)]; omega)
  · exact RlOk.ofCm .lss .i64 rfl rfl (show false = decide (s50 i < 0) from (decide_eq_false (by have := b50 i; have := b40 i; have := b12 i; have := b39 i; have := b38 i; have := b19 i; have := e50 i; have := e40 i; have := e39 i; have := e38 i; have := e19 i; omega)).symm)
  · exact RlOk.ofCm .gtr .i64 rfl rfl (show false = decide (s50 i > 4294967295) from (decide_eq_false (by have := b50 i; have := b40 i; have := b12 i; have := b39 i; have := b38 i; have := b19 i; have := e50 i; have := e40 i; have := e39 i; have := e38 i; have := e19 i; omega)).symm)
  · exact RlOk.ofAr .add .i64 rfl rfl (show IntKind.i64.wrap (s50 i + s65 i) = s89 i by have := b50 i; have := b65 i; have := b89 i; have := b40 i; have := b12 i; have := b64 i; have := b39 i; have := b63 i; have := b38 i; have := b19 i; have := b17 i; have := e50 i; have := e65 i; have := e89 i; have := e40 i; have := e64 i; have := e39 i; have := e63 i; have := e38 i; have := e19 i; have := e17 i; rw [wrap_i64 (by omega)]; omega)
  · exact RlOk.ofCm .lss .i64 rfl rfl (show false = decide (s89 i < s50 i) from (decide_eq_false (by have := b89 i; have := b50 i; have := b65 i; have := b40 i; have := b12 i; have := b64 i; have := b39 i; have := b63 i; have := b38 i; have := b19 i; have := e89 i; have := e50 i; have := e65 i; have := e40 i; have := e64 i; have := e39 i; have := e63 i; have := e38 i; have := e19 i; omega)).symm)
  · exact RlOk.ofAr .sub .i64 rfl rfl (show IntKind.i64.wrap (s89 i - s50 i) = s65 i by have := b89 i; have := b50 i; have := b65 i; have := b40 i; have := b12 i; have := b64 i; have := b39 i; have := b63 i; have := b38 i; have := b19 i; have := b17 i; have := e89 i; have := e50 i; have := e65 i; have := e40 i; have := e64 i; have := e39 i; have := e63 i; have := e38 i; have := e19 i; have := e17 i; rw [wrap_i64 (by omega)]; omega)
  · exact RlOk.ofAr .shr .i64 rfl rfl (show arI .shr .i64 (s50 i) ((0 : Nat) : Int) (s50 i) by have := b50 i; have := b50 i; have := b40 i; have := b12 i; have := b39 i; have := b38 i; have := b19 i; have := e50 i; have := e50 i; have := e40 i; have := e39 i; have := e38 i; have := e19 i; exact sr 0 (d := 1) rfl (by omega) (by omega))
  · exact RlOk.ofCv .u8 rfl (show IntKind.u8.wrap (s50 i) = s90 i by have := b50 i; have := b90 i; have := b40 i; have := b12 i; have := b39 i; have := b38 i; have := b19 i; have := e50 i; have := e90 i; have := e40 i; have := e39 i; have := e38 i; have := e19 i; rw [ww8]; omega)
  · exact RlOk.ofAr .shr .i64 rfl rfl (show arI .shr .i64 (s50 i) ((8 : Nat) : Int) (s91 i) by have := b50 i; have := b91 i; have := b40 i; have := b12 i; have := b39 i; have := b38 i; have := b19 i; have := e50 i; have := e91 i; have := e40 i; have := e39 i; have := e38 i; have := e19 i; exact sr 8 (d := 256) rfl (by omega) (by omega))
  · exact RlOk.ofCv .u8 rfl (show IntKind.u8.wrap (s91 i) = s92 i by have := b91 i; have := b92 i; have := b50 i; have := b40 i; have := b12 i; have := b39 i; have := e91 i; have := e92 i; have := e50 i; have := e40 i; have := e39 i; rw [ww8]; omega)
  · exact RlOk.ofAr .shr .i64 rfl rfl (show arI .shr .i64 (s50 i) ((16 : Nat) : Int) (3) by have := b50 i; have := b40 i; have := b12 i; have := b39 i; have := b38 i; have := b19 i; have := e50 i; have := e40 i; have := e39 i; have := e38 i; have := e19 i; exact sr 16 (d := 65536) rfl (by omega) (by omega))
  · exact RlOk.ofAr .shr .i64 rfl rfl (show arI .shr .i64 (s50 i) ((24 : Nat) : Int) (0) by have := b50 i; have := b40 i; have := b12 i; have := b39 i; have := b38 i; have := b19 i; have := e50 i; have := e40 i; have := e39 i; have := e38 i; have := e19 i; exact sr 24 (d := 16777216) rfl (by omega) (by omega))
  · exact RlOk.ofCv .i64 rfl (show IntKind.i64.wrap (s92 i) = s92 i by have := b92 i; have := b92 i; have := b91 i; have := b50 i; have := b40 i; have := b12 i; have := e92 i; have := e92 i; have := e91 i; have := e50 i; have := e40 i; rw [wrap_i64 (by omega)])
  · exact RlOk.ofAr .or .i64 rfl rfl (show IntKind.i64.wrap (bitN .or .i64 (768) (s92 i)) = s91 i by have := b92 i; have := b91 i; have := b50 i; have := b40 i; have := b12 i; have := b39 i; have := e92 i; have := e91 i; have := e50 i; have := e40 i; have := e39 i; exact or8 3 (by omega) (by omega) (by omega) (by omega))
  · exact RlOk.ofAr .shl .i64 rfl rfl (show arI .shl .i64 (s91 i) 8 (s93 i) by have := b91 i; have := b93 i; have := b50 i; have := b40 i; have := b12 i; have := b39 i; have := e91 i; have := e93 i; have := e50 i; have := e40 i; have := e39 i; exact sl8 (by omega) (by omega))
  · exact RlOk.ofCv .i64 rfl (show IntKind.i64.wrap (s90 i) = s90 i by have := b90 i; have := b90 i; have := b50 i; have := b40 i; have := b12 i; have := b39 i; have := e90 i; have := e90 i; have := e50 i; have := e40 i; have := e39 i; rw [wrap_i64 (by omega)])
  · exact RlOk.ofAr .or .i64 rfl rfl (show IntKind.i64.wrap (bitN .or .i64 (s93 i) (s90 i)) = s50 i by have := b93 i; have := b90 i; have := b50 i; have := b91 i; have := b40 i; have := b12 i; have := b39 i; have := b38 i; have := b19 i; have := b37 i; have := b18 i; have := b1 i; have := e93 i; have := e90 i; have := e50 i; have := e91 i; have := e40 i; have := e39 i; have := e38 i; have := e19 i; have := e37 i; have := e18 i; exact or8 (s91 i) (by omega) (by omega) (by omega) (by omega))
def rg4 : List Rl := [⟨54, 2361183241434822606865, 1, 2361183241434822606866, false⟩,
  ⟨114, 2361183241434822606866, 1, 4722366482869645213696, false⟩,
  ⟨3, 0, 2361183241434822606877, 2361183241434822606877, false⟩,
  ⟨3, 4, 2361183241434822606877, 2361183241434822606880, false⟩,
  ⟨133, 1180591620717411303439, 0, 0, false⟩,
  ⟨153, 1180591620717411303439, 4294967295, 0, false⟩,
  ⟨3, 1180591620717411303439, 1180591620717411303448, 1180591620717411303449, false⟩,
  ⟨133, 1180591620717411303449, 1180591620717411303439, 0, false⟩,
  ⟨13, 1180591620717411303449, 1180591620717411303439, 1180591620717411303448, false⟩,
  ⟨103, 1180591620717411303439, 0, 1180591620717411303439, false⟩,
  ⟨184, 1180591620717411303439, 0, 2361183241434822606885, false⟩,
  ⟨103, 1180591620717411303439, 8, 1180591620717411303450, false⟩,
  ⟨184, 1180591620717411303450, 0, 2361183241434822606886, false⟩,
  ⟨103, 1180591620717411303439, 16, 3, false⟩,
  ⟨103, 1180591620717411303439, 24, 0, false⟩,
  ⟨183, 2361183241434822606886, 0, 2361183241434822606886, false⟩,
  ⟨63, 768, 2361183241434822606886, 1180591620717411303450, false⟩,
  ⟨93, 1180591620717411303450, 8, 1180591620717411303451, false⟩,
  ⟨183, 2361183241434822606885, 0, 2361183241434822606885, false⟩,
  ⟨63, 1180591620717411303451, 2361183241434822606885, 1180591620717411303439, false⟩]
theorem rg4_ok (i : In13) : ∀ q ∈ rg4, RlOk (rho i) q := by
  intro q hq
  simp only [rg4, List.mem_cons, List.not_mem_nil, or_false] at hq
  rcases hq with rfl | rfl | rfl | rfl | rfl | rfl | rfl | rfl | rfl | rfl | rfl | rfl | rfl | rfl | rfl | rfl | rfl | rfl | rfl | rfl
  · exact RlOk.ofAr .and .u8 rfl rfl (show IntKind.u8.wrap (bitN .and .u8 (s20 i) 1) = s21 i by have := b20 i; have := b21 i; have := b5 i; have := e20 i; have := e21 i; rw [and1 (by omega)]; omega)
  · exact RlOk.ofCm .eql .u8 rfl rfl (show ((s22 i) == (1 : Int)) = (s21 i == 1) by rw [e22]; by_cases h : s21 i = 1 <;> simp [h])
  · exact RlOk.ofAr .add .i64 rfl rfl (show IntKind.i64.wrap (0 + s51 i) = s51 i by have := b51 i; have := b51 i; have := b11 i; have := e51 i; have := e51 i; rw [wrap_i64 (by omega)]; omega)
  · exact RlOk.ofAr .add .i64 rfl rfl (show IntKind.i64.wrap (4 + s51 i) = s55 i by have := b51 i; have := b55 i; have := b11 i; have := e51 i; have := e55 i; rw [wrap_i64 (by omega)]; omega)
  · exact RlOk.ofCm .lss .i64 rfl rfl (show false = decide (s48 i < 0) from (decide_eq_false (by have := b48 i; have := b40 i; have := b47 i; have := b39 i; have := b46 i; have := b38 i; have := b19 i; have := b12 i; have := e48 i; have := e40 i; have := e47 i; have := e39 i; have := e46 i; have := e38 i; have := e19 i; omega)).symm)
  · exact RlOk.ofCm .gtr .i64 rfl rfl (show false = decide (s48 i > 4294967295) from (decide_eq_false (by have := b48 i; have := b40 i; have := b47 i; have := b39 i; have := b46 i; have := b38 i; have := b19 i; have := b12 i; have := e48 i; have := e40 i; have := e47 i; have := e39 i; have := e46 i; have := e38 i; have := e19 i; omega)).symm)
  · exact RlOk.ofAr .add .i64 rfl rfl (show IntKind.i64.wrap (s48 i + s65 i) = s66 i by have := b48 i; have := b65 i; have := b66 i; have := b40 i; have := b47 i; have := b64 i; have := b39 i; have := b46 i; have := b63 i; have := b38 i; have := b19 i; have := b12 i; have := b17 i; have := e48 i; have := e65 i; have := e66 i; have := e40 i; have := e47 i; have := e64 i; have := e39 i; have := e46 i; have := e63 i; have := e38 i; have := e19 i; have := e17 i; rw [wrap_i64 (by omega)]; omega)
  · exact RlOk.ofCm .lss .i64 rfl rfl (show false = decide (s66 i < s48 i) from (decide_eq_false (by have := b66 i; have := b48 i; have := b65 i; have := b40 i; have := b47 i; have := b64 i; have := b39 i; have := b46 i; have := b63 i; have := b38 i; have := b19 i; have := b12 i; have := e66 i; have := e48 i; have := e65 i; have := e40 i; have := e47 i; have := e64 i; have := e39 i; have := e46 i; have := e63 i; have := e38 i; have := e19 i; omega)).symm)
  · exact RlOk.ofAr .sub .i64 rfl rfl (show IntKind.i64.wrap (s66 i - s48 i) = s65 i by have := b66 i; have := b48 i; have := b65 i; have := b40 i; have := b47 i; have := b64 i; have := b39 i; have := b46 i; have := b63 i; have := b38 i; have := b19 i; have := b12 i; have := b17 i; have := e66 i; have := e48 i; have := e65 i; have := e40 i; have := e47 i; have := e64 i; have := e39 i; have := e46 i; have := e63 i; have := e38 i; have := e19 i; have := e17 i; rw [wrap_i64 (by omega)]; omega)
  · exact RlOk.ofAr .shr .i64 rfl rfl (show arI .shr .i64 (s48 i) ((0 : Nat) : Int) (s48 i) by have := b48 i; have := b48 i; have := b40 i; have := b47 i; have := b39 i; have := b46 i; have := b38 i; have := b19 i; have := b12 i; have := e48 i; have := e48 i; have := e40 i; have := e47 i; have := e39 i; have := e46 i; have := e38 i; have := e19 i; exact sr 0 (d := 1) rfl (by omega) (by omega))
  · exact RlOk.ofCv .u8 rfl (show IntKind.u8.wrap (s48 i) = s67 i by have := b48 i; have := b67 i; have := b40 i; have := b47 i; have := b39 i; have := b46 i; have := b38 i; have := b19 i; have := b12 i; have := e48 i; have := e67 i; have := e40 i; have := e47 i; have := e39 i; have := e46 i; have := e38 i; have := e19 i; rw [ww8]; omega)
  · exact RlOk.ofAr .shr .i64 rfl rfl (show arI .shr .i64 (s48 i) ((8 : Nat) : Int) (s68 i) by have := b48 i; have := b68 i; have := b40 i; have := b47 i; have := b39 i; have := b46 i; have := b38 i; have := b19 i; have := b12 i; have := e48 i; have := e68 i; have := e40 i; have := e47 i; have := e39 i; have := e46 i; have := e38 i; have := e19 i; exact sr 8 (d := 256) rfl (by omega) (by omega))
  · exact RlOk.ofCv .u8 rfl (show IntKind.u8.wrap (s68 i) = s69 i by have := b68 i; have := b69 i; have := b48 i; have := b40 i; have := b47 i; have := b39 i; have := b46 i; have := e68 i; have := e69 i; have := e48 i; have := e40 i; have := e47 i; have := e39 i; have := e46 i; rw [ww8]; omega)
  · exact RlOk.ofAr .shr .i64 rfl rfl (show arI .shr .i64 (s48 i) ((16 : Nat) : Int) (3) by have := b48 i; have := b40 i; have := b47 i; have := b39 i; have := b46 i; have := b38 i; have := b19 i; have := b12 i; have := e48 i; have := e40 i; have := e47 i; have := e39 i; have := e46 i; have := e38 i; have := e19 i; exact sr 16 (d := 65536) rfl (by omega) (by omega))
  · exact RlOk.ofAr .shr .i64 rfl rfl (show arI .shr .i64 (s48 i) ((24 : Nat) : Int) (0) by have := b48 i; have := b40 i; have := b47 i; have := b39 i; have := b46 i; have := b38 i; have := b19 i; have := b12 i; have := e48 i; have := e40 i; have := e47 i; have := e39 i; have := e46 i; have := e38 i; have := e19 i; exact sr 24 (d := 16777216) rfl (by omega) (by omega))
  · exact RlOk.ofCv .i64 rfl (show IntKind.i64.wrap (s69 i) = s69 i by have := b69 i; have := b69 i; have := b68 i; have := b48 i; have := b40 i; have := b47 i; have := e69 i; have := e69 i; have := e68 i; have := e48 i; have := e40 i; have := e47 i; rw [wrap_i64 (by omega)])
  · exact RlOk.ofAr .or .i64 rfl rfl (show IntKind.i64.wrap (bitN .or .i64 (768) (s69 i)) = s68 i by have := b69 i; have := b68 i; have := b48 i; have := b40 i; have := b47 i; have := b39 i; have := b46 i; have := e69 i; have := e68 i; have := e48 i; have := e40 i; have := e47 i; have := e39 i; have := e46 i; exact or8 3 (by omega) (by omega) (by omega) (by omega))
  · exact RlOk.ofAr .shl .i64 rfl rfl (show arI .shl .i64 (s68 i) 8 (s70 i) by have := b68 i; have := b70 i; have := b48 i; have := b40 i; have := b47 i; have := b39 i; have := b46 i; have := e68 i; have := e70 i; have := e48 i; have := e40 i; have := e47 i; have := e39 i; have := e46 i; exact sl8 (by omega) (by omega))
  · exact RlOk.ofCv .i64 rfl (show IntKind.i64.wrap (s67 i) = s67 i by have := b67 i; have := b67 i; have := b48 i; have := b40 i; have := b47 i; have := b39 i; have := b46 i; have := e67 i; have := e67 i; have := e48 i; have := e40 i; have := e47 i; have := e39 i; have := e46 i; rw [wrap_i64 (by omega)])
  · exact RlOk.ofAr .or .i64 rfl rfl (show IntKind.i64.wrap (bitN .or .i64 (s70 i) (s67 i)) = s48 i by have := b70 i; have := b67 i; have := b48 i; have := b68 i; have := b40 i; have := b47 i; have := b39 i; have := b46 i; have := b38 i; have := b19 i; have := b12 i; have := b37 i; have := b18 i; have := b1 i; have := e70 i; have := e67 i; have := e48 i; have := e68 i; have := e40 i; have := e47 i; have := e39 i; have := e46 i; have := e38 i; have := e19 i; have := e37 i; have := e18 i; exact or8 (s68 i) (by omega) (by omega) (by omega) (by omega))
def rg5 : List Rl := [⟨54, 2361183241434822606865, 1, 0, false⟩]
theorem rg5_ok (i : In13) (h : s20 i % 2 = 0) : ∀ q ∈ rg5, RlOk (rho i) q := by
  intro q hq
  simp only [rg5, List.mem_cons, List.not_mem_nil, or_false] at hq
  rcases hq with rfl
  · exact RlOk.ofAr .and .u8 rfl rfl (show IntKind.u8.wrap (bitN .and .u8 (s20 i) 1) = 0 by have := b20 i; have := b5 i; have := e20 i; have := h; rw [and1 (by omega)]; omega)
def rg6 : List Rl := [⟨54, 2361183241434822606865, 1, 1, false⟩]
theorem rg6_ok (i : In13) (h : s20 i % 2 = 1) : ∀ q ∈ rg6, RlOk (rho i) q := by
  intro q hq
  simp only [rg6, List.mem_cons, List.not_mem_nil, or_false] at hq
  rcases hq with rfl
  · exact RlOk.ofAr .and .u8 rfl rfl (show IntKind.u8.wrap (bitN .and .u8 (s20 i) 1) = 1 by have := b20 i; have := b5 i; have := e20 i; have := h; rw [and1 (by omega)]; omega)
def rg7 : List Rl := [⟨54, 2361183241434822606867, 1, 0, false⟩]
theorem rg7_ok (i : In13) (h : s26 i % 2 = 0) : ∀ q ∈ rg7, RlOk (rho i) q := by
  intro q hq
  simp only [rg7, List.mem_cons, List.not_mem_nil, or_false] at hq
  rcases hq with rfl
  · exact RlOk.ofAr .and .u8 rfl rfl (show IntKind.u8.wrap (bitN .and .u8 (s26 i) 1) = 0 by have := b26 i; have := b5 i; have := e26 i; have := h; rw [and1 (by omega)]; omega)
def rg8 : List Rl := [⟨54, 2361183241434822606867, 1, 1, false⟩]
theorem rg8_ok (i : In13) (h : s26 i % 2 = 1) : ∀ q ∈ rg8, RlOk (rho i) q := by
  intro q hq
  simp only [rg8, List.mem_cons, List.not_mem_nil, or_false] at hq
  rcases hq with rfl
  · exact RlOk.ofAr .and .u8 rfl rfl (show IntKind.u8.wrap (bitN .and .u8 (s26 i) 1) = 1 by have := b26 i; have := b5 i; have := e26 i; have := h; rw [and1 (by omega)]; omega)
def rg9 : List Rl := [⟨54, 2361183241434822606867, 1, 2361183241434822606887, false⟩,
  ⟨114, 2361183241434822606887, 1, 4722366482869645213700, false⟩]
theorem rg9_ok (i : In13) : ∀ q ∈ rg9, RlOk (rho i) q := by
  intro q hq
  simp only [rg9, List.mem_cons, List.not_mem_nil, or_false] at hq
  rcases hq with rfl | rfl
  · exact RlOk.ofAr .and .u8 rfl rfl (show IntKind.u8.wrap (bitN .and .u8 (s26 i) 1) = s71 i by have := b26 i; have := b71 i; have := b5 i; have := e26 i; have := e71 i; rw [and1 (by omega)]; omega)
  · exact RlOk.ofCm .eql .u8 rfl rfl (show ((s72 i) == (1 : Int)) = (s71 i == 1) by rw [e72]; by_cases h : s71 i = 1 <;> simp [h])
def rg10 : List Rl := [⟨54, 2361183241434822606868, 1, 2361183241434822606869, false⟩,
  ⟨114, 2361183241434822606869, 1, 4722366482869645213697, false⟩]
theorem rg10_ok (i : In13) : ∀ q ∈ rg10, RlOk (rho i) q := by
  intro q hq
  simp only [rg10, List.mem_cons, List.not_mem_nil, or_false] at hq
  rcases hq with rfl | rfl
  · exact RlOk.ofAr .and .u8 rfl rfl (show IntKind.u8.wrap (bitN .and .u8 (s27 i) 1) = s28 i by have := b27 i; have := b28 i; have := b5 i; have := e27 i; have := e28 i; rw [and1 (by omega)]; omega)
  · exact RlOk.ofCm .eql .u8 rfl rfl (show ((s29 i) == (1 : Int)) = (s28 i == 1) by rw [e29]; by_cases h : s28 i = 1 <;> simp [h])
def rg11 : List Rl := [⟨54, 2361183241434822606868, 1, 0, false⟩]
theorem rg11_ok (i : In13) (h : s27 i % 2 = 0) : ∀ q ∈ rg11, RlOk (rho i) q := by
  intro q hq
  simp only [rg11, List.mem_cons, List.not_mem_nil, or_false] at hq
  rcases hq with rfl
  · exact RlOk.ofAr .and .u8 rfl rfl (show IntKind.u8.wrap (bitN .and .u8 (s27 i) 1) = 0 by have := b27 i; have := b5 i; have := e27 i; have := h; rw [and1 (by omega)]; omega)
def rg12 : List Rl := [⟨54, 2361183241434822606868, 1, 1, false⟩]
theorem rg12_ok (i : In13) (h : s27 i % 2 = 1) : ∀ q ∈ rg12, RlOk (rho i) q := by
  intro q hq
  simp only [rg12, List.mem_cons, List.not_mem_nil, or_false] at hq
  rcases hq with rfl
  · exact RlOk.ofAr .and .u8 rfl rfl (show IntKind.u8.wrap (bitN .and .u8 (s27 i) 1) = 1 by have := b27 i; have := b5 i; have := e27 i; have := h; rw [and1 (by omega)]; omega)
def rg13 : List Rl := [⟨54, 2361183241434822606870, 1, 2361183241434822606871, false⟩,
  ⟨114, 2361183241434822606871, 1, 4722366482869645213698, false⟩]
theorem rg13_ok (i : In13) : ∀ q ∈ rg13, RlOk (rho i) q := by
  intro q hq
  simp only [rg13, List.mem_cons, List.not_mem_nil, or_false] at hq
  rcases hq with rfl | rfl
  · exact RlOk.ofAr .and .u8 rfl rfl (show IntKind.u8.wrap (bitN .and .u8 (s30 i) 1) = s31 i by have := b30 i; have := b31 i; have := b5 i; have := e30 i; have := e31 i; rw [and1 (by omega)]; omega)
  · exact RlOk.ofCm .eql .u8 rfl rfl (show ((s32 i) == (1 : Int)) = (s31 i == 1) by rw [e32]; by_cases h : s31 i = 1 <;> simp [h])
def rg14 : List Rl := [⟨54, 2361183241434822606870, 1, 0, false⟩]
theorem rg14_ok (i : In13) (h : s30 i % 2 = 0) : ∀ q ∈ rg14, RlOk (rho i) q := by
  intro q hq
  simp only [rg14, List.mem_cons, List.not_mem_nil, or_false] at hq
  rcases hq with rfl
  · exact RlOk.ofAr .and .u8 rfl rfl (show IntKind.u8.wrap (bitN .and .u8 (s30 i) 1) = 0 by have := b30 i; have := b5 i; have := e30 i; have := h; rw [and1 (by omega)]; omega)
def rg15 : List Rl := [⟨54, 2361183241434822606870, 1, 1, false⟩]
theorem rg15_ok (i : In13) (h : s30 i % 2 = 1) : ∀ q ∈ rg15, RlOk (rho i) q := by
  intro q hq
  simp only [rg15, List.mem_cons, List.not_mem_nil, or_false] at hq
  rcases hq with rfl
  · exact RlOk.ofAr .and .u8 rfl rfl (show IntKind.u8.wrap (bitN .and .u8 (s30 i) 1) = 1 by have := b30 i; have := b5 i; have := e30 i; have := h; rw [and1 (by omega)]; omega)
def rg16 : List Rl := [⟨54, 2361183241434822606872, 1, 2361183241434822606873, false⟩,
  ⟨114, 2361183241434822606873, 1, 4722366482869645213699, false⟩]
theorem rg16_ok (i : In13) : ∀ q ∈ rg16, RlOk (rho i) q := by
  intro q hq
  simp only [rg16, List.mem_cons, List.not_mem_nil, or_false] at hq
  rcases hq with rfl | rfl
  · exact RlOk.ofAr .and .u8 rfl rfl (show IntKind.u8.wrap (bitN .and .u8 (s33 i) 1) = s34 i by have := b33 i; have := b34 i; have := b5 i; have := e33 i; have := e34 i; rw [and1 (by omega)]; omega)
  · exact RlOk.ofCm .eql .u8 rfl rfl (show ((s35 i) == (1 : Int)) = (s34 i == 1) by rw [e35]; by_cases h : s34 i = 1 <;> simp [h])
def rg17 : List Rl := [⟨54, 2361183241434822606872, 1, 0, false⟩]
theorem rg17_ok (i : In13) (h : s33 i % 2 = 0) : ∀ q ∈ rg17, RlOk (rho i) q := by
  intro q hq
  simp only [rg17, List.mem_cons, List.not_mem_nil, or_false] at hq
  rcases hq with rfl
  · exact RlOk.ofAr .and .u8 rfl rfl (show IntKind.u8.wrap (bitN .and .u8 (s33 i) 1) = 0 by have := b33 i; have := b5 i; have := e33 i; have := h; rw [and1 (by omega)]; omega)
def rg18 : List Rl := [⟨54, 2361183241434822606872, 1, 1, false⟩]
theorem rg18_ok (i : In13) (h : s33 i % 2 = 1) : ∀ q ∈ rg18, RlOk (rho i) q := by
  intro q hq
  simp only [rg18, List.mem_cons, List.not_mem_nil, or_false] at hq
  rcases hq with rfl
  · exact RlOk.ofAr .and .u8 rfl rfl (show IntKind.u8.wrap (bitN .and .u8 (s33 i) 1) = 1 by have := b33 i; have := b5 i; have := e33 i; have := h; rw [and1 (by omega)]; omega)
def rg19 : List Rl := [⟨43, 2361183241434822606858, 4, 0, false⟩,
  ⟨13, 1180591620717411303434, 1180591620717411303439, 1180591620717411303444, false⟩,
  ⟨143, 1180591620717411303444, 1180591620717411303424, 0, true⟩,
  ⟨13, 1180591620717411303439, 1180591620717411303434, 2361183241434822606876, false⟩,
  ⟨143, 2361183241434822606876, 1180591620717411303424, 0, true⟩]
theorem rg19_ok (i : In13) (h : s10 i % 4 = 0) : ∀ q ∈ rg19, RlOk (rho i) q := by
  intro q hq
  simp only [rg19, List.mem_cons, List.not_mem_nil, or_false] at hq
  rcases hq with rfl | rfl | rfl | rfl | rfl
  · exact RlOk.ofAr .rem .i64 rfl rfl (show 4 ≠ 0 ∧ Int.tmod (s10 i) 4 = 0 by have := b10 i; have := h; rw [Int.tmod_eq_emod_of_nonneg (by omega)]; omega)
  · exact RlOk.ofAr .sub .i64 rfl rfl (show IntKind.i64.wrap (s40 i - s48 i) = s57 i by have := b40 i; have := b48 i; have := b57 i; have := b39 i; have := b47 i; have := b38 i; have := b19 i; have := b46 i; have := b37 i; have := b18 i; have := b1 i; have := b12 i; have := e40 i; have := e48 i; have := e57 i; have := e39 i; have := e47 i; have := e38 i; have := e19 i; have := e46 i; have := e37 i; have := e18 i; have := h; rw [wrap_i64 (by omega)]; omega)
  · exact RlOk.ofCm .leq .i64 rfl rfl (show true = decide (s57 i ≤ s13 i) from (decide_eq_true (by have := b57 i; have := b13 i; have := b40 i; have := b48 i; have := b6 i; have := b39 i; have := b47 i; have := b38 i; have := b19 i; have := b46 i; have := e57 i; have := e13 i; have := e40 i; have := e48 i; have := e39 i; have := e47 i; have := e38 i; have := e19 i; have := e46 i; have := h; omega)).symm)
  · exact RlOk.ofAr .sub .i64 rfl rfl (show IntKind.i64.wrap (s48 i - s40 i) = s47 i by have := b48 i; have := b40 i; have := b47 i; have := b39 i; have := b46 i; have := b38 i; have := b19 i; have := b12 i; have := b37 i; have := b18 i; have := b1 i; have := e48 i; have := e40 i; have := e47 i; have := e39 i; have := e46 i; have := e38 i; have := e19 i; have := e37 i; have := e18 i; have := h; rw [wrap_i64 (by omega)]; omega)
  · exact RlOk.ofCm .leq .i64 rfl rfl (show true = decide (s47 i ≤ s13 i) from (decide_eq_true (by have := b47 i; have := b13 i; have := b46 i; have := b6 i; have := b12 i; have := e47 i; have := e13 i; have := e46 i; have := h; omega)).symm)
def rg20 : List Rl := [⟨43, 2361183241434822606858, 4, 1, false⟩,
  ⟨13, 1180591620717411303435, 1180591620717411303439, 1180591620717411303454, false⟩,
  ⟨143, 1180591620717411303454, 1180591620717411303424, 0, true⟩,
  ⟨13, 1180591620717411303439, 1180591620717411303435, 1180591620717411303455, false⟩,
  ⟨143, 1180591620717411303455, 1180591620717411303424, 0, true⟩]
theorem rg20_ok (i : In13) (h : s10 i % 4 = 1) : ∀ q ∈ rg20, RlOk (rho i) q := by
  intro q hq
  simp only [rg20, List.mem_cons, List.not_mem_nil, or_false] at hq
  rcases hq with rfl | rfl | rfl | rfl | rfl
  · exact RlOk.ofAr .rem .i64 rfl rfl (show 4 ≠ 0 ∧ Int.tmod (s10 i) 4 = 1 by have := b10 i; have := h; rw [Int.tmod_eq_emod_of_nonneg (by omega)]; omega)
  · exact RlOk.ofAr .sub .i64 rfl rfl (show IntKind.i64.wrap (s42 i - s48 i) = s77 i by have := b42 i; have := b48 i; have := b77 i; have := b40 i; have := b41 i; have := b47 i; have := b39 i; have := b12 i; have := b46 i; have := b38 i; have := b19 i; have := e42 i; have := e48 i; have := e77 i; have := e40 i; have := e41 i; have := e47 i; have := e39 i; have := e46 i; have := e38 i; have := e19 i; have := h; rw [wrap_i64 (by omega)]; omega)
  · exact RlOk.ofCm .leq .i64 rfl rfl (show true = decide (s77 i ≤ s13 i) from (decide_eq_true (by have := b77 i; have := b13 i; have := b42 i; have := b48 i; have := b6 i; have := b40 i; have := b41 i; have := b47 i; have := b39 i; have := b12 i; have := b46 i; have := e77 i; have := e13 i; have := e42 i; have := e48 i; have := e40 i; have := e41 i; have := e47 i; have := e39 i; have := e46 i; have := h; omega)).symm)
  · exact RlOk.ofAr .sub .i64 rfl rfl (show IntKind.i64.wrap (s48 i - s42 i) = s78 i by have := b48 i; have := b42 i; have := b78 i; have := b40 i; have := b47 i; have := b41 i; have := b39 i; have := b46 i; have := b12 i; have := b38 i; have := b19 i; have := e48 i; have := e42 i; have := e78 i; have := e40 i; have := e47 i; have := e41 i; have := e39 i; have := e46 i; have := e38 i; have := e19 i; have := h; rw [wrap_i64 (by omega)]; omega)
  · exact RlOk.ofCm .leq .i64 rfl rfl (show true = decide (s78 i ≤ s13 i) from (decide_eq_true (by have := b78 i; have := b13 i; have := b48 i; have := b42 i; have := b6 i; have := b40 i; have := b47 i; have := b41 i; have := b39 i; have := b46 i; have := b12 i; have := e78 i; have := e13 i; have := e48 i; have := e42 i; have := e40 i; have := e47 i; have := e41 i; have := e39 i; have := e46 i; have := h; omega)).symm)
def rg21 : List Rl := [⟨43, 2361183241434822606858, 4, 2, false⟩,
  ⟨13, 1180591620717411303434, 1180591620717411303441, 1180591620717411303459, false⟩,
  ⟨143, 1180591620717411303459, 1180591620717411303424, 0, true⟩,
  ⟨13, 1180591620717411303441, 1180591620717411303434, 2361183241434822606860, false⟩,
  ⟨143, 2361183241434822606860, 1180591620717411303424, 0, true⟩]
theorem rg21_ok (i : In13) (h : s10 i % 4 = 2) : ∀ q ∈ rg21, RlOk (rho i) q := by
  intro q hq
  simp only [rg21, List.mem_cons, List.not_mem_nil, or_false] at hq
  rcases hq with rfl | rfl | rfl | rfl | rfl
  · exact RlOk.ofAr .rem .i64 rfl rfl (show 4 ≠ 0 ∧ Int.tmod (s10 i) 4 = 2 by have := b10 i; have := h; rw [Int.tmod_eq_emod_of_nonneg (by omega)]; omega)
  · exact RlOk.ofAr .sub .i64 rfl rfl (show IntKind.i64.wrap (s40 i - s50 i) = s88 i by have := b40 i; have := b50 i; have := b88 i; have := b39 i; have := b12 i; have := b38 i; have := b19 i; have := b37 i; have := b18 i; have := b1 i; have := e40 i; have := e50 i; have := e88 i; have := e39 i; have := e38 i; have := e19 i; have := e37 i; have := e18 i; have := h; rw [wrap_i64 (by omega)]; omega)
  · exact RlOk.ofCm .leq .i64 rfl rfl (show true = decide (s88 i ≤ s13 i) from (decide_eq_true (by have := b88 i; have := b13 i; have := b40 i; have := b50 i; have := b6 i; have := b39 i; have := b12 i; have := b38 i; have := b19 i; have := e88 i; have := e13 i; have := e40 i; have := e50 i; have := e39 i; have := e38 i; have := e19 i; have := h; omega)).symm)
  · exact RlOk.ofAr .sub .i64 rfl rfl (show IntKind.i64.wrap (s50 i - s40 i) = s12 i by have := b50 i; have := b40 i; have := b12 i; have := b39 i; have := b38 i; have := b19 i; have := b37 i; have := b18 i; have := b1 i; have := e50 i; have := e40 i; have := e39 i; have := e38 i; have := e19 i; have := e37 i; have := e18 i; have := h; rw [wrap_i64 (by omega)]; omega)
  · exact RlOk.ofCm .leq .i64 rfl rfl (show true = decide (s12 i ≤ s13 i) from (decide_eq_true (by have := b12 i; have := b13 i; have := b6 i; have := e13 i; have := h; omega)).symm)
def rg22 : List Rl := [⟨43, 2361183241434822606858, 4, 3, false⟩,
  ⟨13, 1180591620717411303435, 1180591620717411303441, 1180591620717411303463, false⟩,
  ⟨143, 1180591620717411303463, 1180591620717411303424, 0, true⟩,
  ⟨13, 1180591620717411303441, 1180591620717411303435, 1180591620717411303464, false⟩,
  ⟨143, 1180591620717411303464, 1180591620717411303424, 0, true⟩]
theorem rg22_ok (i : In13) (h : s10 i % 4 = 3) : ∀ q ∈ rg22, RlOk (rho i) q := by
  intro q hq
  simp only [rg22, List.mem_cons, List.not_mem_nil, or_false] at hq
  rcases hq with rfl | rfl | rfl | rfl | rfl
  · exact RlOk.ofAr .rem .i64 rfl rfl (show 4 ≠ 0 ∧ Int.tmod (s10 i) 4 = 3 by have := b10 i; have := h; rw [Int.tmod_eq_emod_of_nonneg (by omega)]; omega)
  · exact RlOk.ofAr .sub .i64 rfl rfl (show IntKind.i64.wrap (s42 i - s50 i) = s94 i by have := b42 i; have := b50 i; have := b94 i; have := b40 i; have := b41 i; have := b12 i; have := b39 i; have := b38 i; have := b19 i; have := e42 i; have := e50 i; have := e94 i; have := e40 i; have := e41 i; have := e39 i; have := e38 i; have := e19 i; have := h; rw [wrap_i64 (by omega)]; omega)
  · exact RlOk.ofCm .leq .i64 rfl rfl (show true = decide (s94 i ≤ s13 i) from (decide_eq_true (by have := b94 i; have := b13 i; have := b42 i; have := b50 i; have := b6 i; have := b40 i; have := b41 i; have := b12 i; have := b39 i; have := e94 i; have := e13 i; have := e42 i; have := e50 i; have := e40 i; have := e41 i; have := e39 i; have := h; omega)).symm)
  · exact RlOk.ofAr .sub .i64 rfl rfl (show IntKind.i64.wrap (s50 i - s42 i) = s95 i by have := b50 i; have := b42 i; have := b95 i; have := b40 i; have := b12 i; have := b41 i; have := b39 i; have := b38 i; have := b19 i; have := e50 i; have := e42 i; have := e95 i; have := e40 i; have := e41 i; have := e39 i; have := e38 i; have := e19 i; have := h; rw [wrap_i64 (by omega)]; omega)
  · exact RlOk.ofCm .leq .i64 rfl rfl (show true = decide (s95 i ≤ s13 i) from (decide_eq_true (by have := b95 i; have := b13 i; have := b50 i; have := b42 i; have := b6 i; have := b40 i; have := b12 i; have := b41 i; have := b39 i; have := e95 i; have := e13 i; have := e50 i; have := e42 i; have := e40 i; have := e41 i; have := e39 i; have := h; omega)).symm)
def rg23 : List Rl := [⟨103, 1180591620717411303434, 0, 1180591620717411303434, false⟩,
  ⟨184, 1180591620717411303434, 0, 2361183241434822606878, false⟩,
  ⟨103, 1180591620717411303434, 8, 1180591620717411303442, false⟩,
  ⟨184, 1180591620717411303442, 0, 2361183241434822606879, false⟩,
  ⟨103, 1180591620717411303434, 16, 3, false⟩,
  ⟨103, 1180591620717411303434, 24, 0, false⟩,
  ⟨183, 2361183241434822606879, 0, 2361183241434822606879, false⟩,
  ⟨63, 768, 2361183241434822606879, 1180591620717411303442, false⟩,
  ⟨93, 1180591620717411303442, 8, 1180591620717411303443, false⟩,
  ⟨183, 2361183241434822606878, 0, 2361183241434822606878, false⟩,
  ⟨63, 1180591620717411303443, 2361183241434822606878, 1180591620717411303434, false⟩,
  ⟨3, 1180591620717411303434, 1, 1180591620717411303445, false⟩,
  ⟨43, 1180591620717411303445, 4294967296, 1180591620717411303445, false⟩,
  ⟨163, 1180591620717411303445, 0, 0, true⟩,
  ⟨143, 1180591620717411303445, 4294967295, 0, true⟩,
  ⟨103, 1180591620717411303445, 0, 1180591620717411303445, false⟩,
  ⟨184, 1180591620717411303445, 0, 2361183241434822606881, false⟩,
  ⟨103, 1180591620717411303445, 8, 1180591620717411303446, false⟩,
  ⟨184, 1180591620717411303446, 0, 2361183241434822606882, false⟩,
  ⟨103, 1180591620717411303445, 16, 3, false⟩,
  ⟨103, 1180591620717411303445, 24, 0, false⟩,
  ⟨183, 2361183241434822606882, 0, 2361183241434822606882, false⟩,
  ⟨63, 768, 2361183241434822606882, 1180591620717411303446, false⟩,
  ⟨93, 1180591620717411303446, 8, 1180591620717411303447, false⟩,
  ⟨183, 2361183241434822606881, 0, 2361183241434822606881, false⟩,
  ⟨63, 1180591620717411303447, 2361183241434822606881, 1180591620717411303445, false⟩,
  ⟨186, 1180591620717411303434, 0, 1180591620717411303434, false⟩,
  ⟨6, 1180591620717411303434, 1, 1180591620717411303445, false⟩,
  ⟨183, 1180591620717411303445, 0, 1180591620717411303445, false⟩,
  ⟨123, 1180591620717411303445, 1180591620717411303445, 0, false⟩,
  ⟨123, 1180591620717411303434, 1180591620717411303434, 0, false⟩]
theorem rg23_ok (i : In13) : ∀ q ∈ rg23, RlOk (rho i) q := by
  intro q hq
  simp only [rg23, List.mem_cons, List.not_mem_nil, or_false] at hq
  rcases hq with rfl | rfl | rfl | rfl | rfl | rfl | rfl | rfl | rfl | rfl | rfl | rfl | rfl | rfl | rfl | rfl | rfl | rfl | rfl | rfl | rfl | rfl | rfl | rfl | rfl | rfl | rfl | rfl | rfl | rfl | rfl
  · exact RlOk.ofAr .shr .i64 rfl rfl (show arI .shr .i64 (s40 i) ((0 : Nat) : Int) (s40 i) by have := b40 i; have := b40 i; have := b39 i; have := b38 i; have := b19 i; have := b37 i; have := b18 i; have := b1 i; have := e40 i; have := e40 i; have := e39 i; have := e38 i; have := e19 i; have := e37 i; have := e18 i; exact sr 0 (d := 1) rfl (by omega) (by omega))
  · exact RlOk.ofCv .u8 rfl (show IntKind.u8.wrap (s40 i) = s52 i by have := b40 i; have := b52 i; have := b39 i; have := b38 i; have := b19 i; have := b37 i; have := b18 i; have := b1 i; have := e40 i; have := e52 i; have := e39 i; have := e38 i; have := e19 i; have := e37 i; have := e18 i; rw [ww8]; omega)
  · exact RlOk.ofAr .shr .i64 rfl rfl (show arI .shr .i64 (s40 i) ((8 : Nat) : Int) (s53 i) by have := b40 i; have := b53 i; have := b39 i; have := b38 i; have := b19 i; have := b37 i; have := b18 i; have := b1 i; have := e40 i; have := e53 i; have := e39 i; have := e38 i; have := e19 i; have := e37 i; have := e18 i; exact sr 8 (d := 256) rfl (by omega) (by omega))
  · exact RlOk.ofCv .u8 rfl (show IntKind.u8.wrap (s53 i) = s54 i by have := b53 i; have := b54 i; have := b40 i; have := b39 i; have := b38 i; have := b19 i; have := e53 i; have := e54 i; have := e40 i; have := e39 i; have := e38 i; have := e19 i; rw [ww8]; omega)
  · exact RlOk.ofAr .shr .i64 rfl rfl (show arI .shr .i64 (s40 i) ((16 : Nat) : Int) (3) by have := b40 i; have := b39 i; have := b38 i; have := b19 i; have := b37 i; have := b18 i; have := b1 i; have := e40 i; have := e39 i; have := e38 i; have := e19 i; have := e37 i; have := e18 i; exact sr 16 (d := 65536) rfl (by omega) (by omega))
  · exact RlOk.ofAr .shr .i64 rfl rfl (show arI .shr .i64 (s40 i) ((24 : Nat) : Int) (0) by have := b40 i; have := b39 i; have := b38 i; have := b19 i; have := b37 i; have := b18 i; have := b1 i; have := e40 i; have := e39 i; have := e38 i; have := e19 i; have := e37 i; have := e18 i; exact sr 24 (d := 16777216) rfl (by omega) (by omega))
  · exact RlOk.ofCv .i64 rfl (show IntKind.i64.wrap (s54 i) = s54 i by have := b54 i; have := b54 i; have := b53 i; have := b40 i; have := b39 i; have := e54 i; have := e54 i; have := e53 i; have := e40 i; have := e39 i; rw [wrap_i64 (by omega)])
  · exact RlOk.ofAr .or .i64 rfl rfl (show IntKind.i64.wrap (bitN .or .i64 (768) (s54 i)) = s53 i by have := b54 i; have := b53 i; have := b40 i; have := b39 i; have := b38 i; have := b19 i; have := e54 i; have := e53 i; have := e40 i; have := e39 i; have := e38 i; have := e19 i; exact or8 3 (by omega) (by omega) (by omega) (by omega))
  · exact RlOk.ofAr .shl .i64 rfl rfl (show arI .shl .i64 (s53 i) 8 (s56 i) by have := b53 i; have := b56 i; have := b40 i; have := b39 i; have := b38 i; have := b19 i; have := e53 i; have := e56 i; have := e40 i; have := e39 i; have := e38 i; have := e19 i; exact sl8 (by omega) (by omega))
  · exact RlOk.ofCv .i64 rfl (show IntKind.i64.wrap (s52 i) = s52 i by have := b52 i; have := b52 i; have := b40 i; have := b39 i; have := b38 i; have := b19 i; have := e52 i; have := e52 i; have := e40 i; have := e39 i; have := e38 i; have := e19 i; rw [wrap_i64 (by omega)])
  · exact RlOk.ofAr .or .i64 rfl rfl (show IntKind.i64.wrap (bitN .or .i64 (s56 i) (s52 i)) = s40 i by have := b56 i; have := b52 i; have := b40 i; have := b53 i; have := b39 i; have := b38 i; have := b19 i; have := b37 i; have := b18 i; have := b1 i; have := b36 i; have := b25 i; have := b0 i; have := e56 i; have := e52 i; have := e40 i; have := e53 i; have := e39 i; have := e38 i; have := e19 i; have := e37 i; have := e18 i; have := e36 i; have := e25 i; exact or8 (s53 i) (by omega) (by omega) (by omega) (by omega))
  · exact RlOk.ofAr .add .i64 rfl rfl (show IntKind.i64.wrap (s40 i + 1) = s58 i by have := b40 i; have := b58 i; have := b39 i; have := b38 i; have := b19 i; have := b37 i; have := b18 i; have := b1 i; have := e40 i; have := e58 i; have := e39 i; have := e38 i; have := e19 i; have := e37 i; have := e18 i; rw [wrap_i64 (by omega)]; omega)
  · exact RlOk.ofAr .rem .i64 rfl rfl (show 4294967296 ≠ 0 ∧ Int.tmod (s58 i) 4294967296 = s58 i by have := b58 i; have := b58 i; have := b40 i; have := b39 i; have := b38 i; have := b19 i; have := e58 i; have := e58 i; have := e40 i; have := e39 i; have := e38 i; have := e19 i; rw [Int.tmod_eq_emod_of_nonneg (by omega)]; omega)
  · exact RlOk.ofCm .geq .i64 rfl rfl (show true = decide (s58 i ≥ 0) from (decide_eq_true (by have := b58 i; have := b40 i; have := b39 i; have := b38 i; have := b19 i; have := e58 i; have := e40 i; have := e39 i; have := e38 i; have := e19 i; omega)).symm)
  · exact RlOk.ofCm .leq .i64 rfl rfl (show true = decide (s58 i ≤ 4294967295) from (decide_eq_true (by have := b58 i; have := b40 i; have := b39 i; have := b38 i; have := b19 i; have := e58 i; have := e40 i; have := e39 i; have := e38 i; have := e19 i; omega)).symm)
  · exact RlOk.ofAr .shr .i64 rfl rfl (show arI .shr .i64 (s58 i) ((0 : Nat) : Int) (s58 i) by have := b58 i; have := b58 i; have := b40 i; have := b39 i; have := b38 i; have := b19 i; have := e58 i; have := e58 i; have := e40 i; have := e39 i; have := e38 i; have := e19 i; exact sr 0 (d := 1) rfl (by omega) (by omega))
  · exact RlOk.ofCv .u8 rfl (show IntKind.u8.wrap (s58 i) = s59 i by have := b58 i; have := b59 i; have := b40 i; have := b39 i; have := b38 i; have := b19 i; have := e58 i; have := e59 i; have := e40 i; have := e39 i; have := e38 i; have := e19 i; rw [ww8]; omega)
  · exact RlOk.ofAr .shr .i64 rfl rfl (show arI .shr .i64 (s58 i) ((8 : Nat) : Int) (s60 i) by have := b58 i; have := b60 i; have := b40 i; have := b39 i; have := b38 i; have := b19 i; have := e58 i; have := e60 i; have := e40 i; have := e39 i; have := e38 i; have := e19 i; exact sr 8 (d := 256) rfl (by omega) (by omega))
  · exact RlOk.ofCv .u8 rfl (show IntKind.u8.wrap (s60 i) = s61 i by have := b60 i; have := b61 i; have := b58 i; have := b40 i; have := b39 i; have := e60 i; have := e61 i; have := e58 i; have := e40 i; have := e39 i; rw [ww8]; omega)
  · exact RlOk.ofAr .shr .i64 rfl rfl (show arI .shr .i64 (s58 i) ((16 : Nat) : Int) (3) by have := b58 i; have := b40 i; have := b39 i; have := b38 i; have := b19 i; have := e58 i; have := e40 i; have := e39 i; have := e38 i; have := e19 i; exact sr 16 (d := 65536) rfl (by omega) (by omega))
  · exact RlOk.ofAr .shr .i64 rfl rfl (show arI .shr .i64 (s58 i) ((24 : Nat) : Int) (0) by have := b58 i; have := b40 i; have := b39 i; have := b38 i; have := b19 i; have := e58 i; have := e40 i; have := e39 i; have := e38 i; have := e19 i; exact sr 24 (d := 16777216) rfl (by omega) (by omega))
  · exact RlOk.ofCv .i64 rfl (show IntKind.i64.wrap (s61 i) = s61 i by have := b61 i; have := b61 i; have := b60 i; have := b58 i; have := b40 i; have := e61 i; have := e61 i; have := e60 i; have := e58 i; have := e40 i; rw [wrap_i64 (by omega)])
  · exact RlOk.ofAr .or .i64 rfl rfl (show IntKind.i64.wrap (bitN .or .i64 (768) (s61 i)) = s60 i by have := b61 i; have := b60 i; have := b58 i; have := b40 i; have := b39 i; have := e61 i; have := e60 i; have := e58 i; have := e40 i; have := e39 i; exact or8 3 (by omega) (by omega) (by omega) (by omega))
  · exact RlOk.ofAr .shl .i64 rfl rfl (show arI .shl .i64 (s60 i) 8 (s62 i) by have := b60 i; have := b62 i; have := b58 i; have := b40 i; have := b39 i; have := e60 i; have := e62 i; have := e58 i; have := e40 i; have := e39 i; exact sl8 (by omega) (by omega))
  · exact RlOk.ofCv .i64 rfl (show IntKind.i64.wrap (s59 i) = s59 i by have := b59 i; have := b59 i; have := b58 i; have := b40 i; have := b39 i; have := e59 i; have := e59 i; have := e58 i; have := e40 i; have := e39 i; rw [wrap_i64 (by omega)])
  · exact RlOk.ofAr .or .i64 rfl rfl (show IntKind.i64.wrap (bitN .or .i64 (s62 i) (s59 i)) = s58 i by have := b62 i; have := b59 i; have := b58 i; have := b60 i; have := b40 i; have := b39 i; have := b38 i; have := b19 i; have := b37 i; have := b18 i; have := b1 i; have := e62 i; have := e59 i; have := e58 i; have := e60 i; have := e40 i; have := e39 i; have := e38 i; have := e19 i; have := e37 i; have := e18 i; exact or8 (s60 i) (by omega) (by omega) (by omega) (by omega))
  · exact RlOk.ofCv .u32 rfl (show IntKind.u32.wrap (s40 i) = s40 i by have := b40 i; have := b40 i; have := b39 i; have := b38 i; have := b19 i; have := b37 i; have := b18 i; have := b1 i; have := e40 i; have := e40 i; have := e39 i; have := e38 i; have := e19 i; have := e37 i; have := e18 i; rw [wrap_u32 (by omega)])
  · exact RlOk.ofAr .add .u32 rfl rfl (show IntKind.u32.wrap (s40 i + 1) = s58 i by have := b40 i; have := b58 i; have := b39 i; have := b38 i; have := b19 i; have := b37 i; have := b18 i; have := b1 i; have := e40 i; have := e58 i; have := e39 i; have := e38 i; have := e19 i; have := e37 i; have := e18 i; rw [wrap_u32 (by omega)]; omega)
  · exact RlOk.ofCv .i64 rfl (show IntKind.i64.wrap (s58 i) = s58 i by have := b58 i; have := b58 i; have := b40 i; have := b39 i; have := b38 i; have := b19 i; have := e58 i; have := e58 i; have := e40 i; have := e39 i; have := e38 i; have := e19 i; rw [wrap_i64 (by omega)])
  · exact RlOk.ofCm .neq .i64 rfl rfl (show false = (s58 i != s58 i) by simp)
  · exact RlOk.ofCm .neq .i64 rfl rfl (show false = (s40 i != s40 i) by simp)
def rg24 : List Rl := [⟨103, 1180591620717411303435, 0, 1180591620717411303435, false⟩,
  ⟨184, 1180591620717411303435, 0, 2361183241434822606888, false⟩,
  ⟨103, 1180591620717411303435, 8, 1180591620717411303452, false⟩,
  ⟨184, 1180591620717411303452, 0, 2361183241434822606889, false⟩,
  ⟨103, 1180591620717411303435, 16, 3, false⟩,
  ⟨103, 1180591620717411303435, 24, 0, false⟩,
  ⟨183, 2361183241434822606889, 0, 2361183241434822606889, false⟩,
  ⟨63, 768, 2361183241434822606889, 1180591620717411303452, false⟩,
  ⟨93, 1180591620717411303452, 8, 1180591620717411303453, false⟩,
  ⟨183, 2361183241434822606888, 0, 2361183241434822606888, false⟩,
  ⟨63, 1180591620717411303453, 2361183241434822606888, 1180591620717411303435, false⟩,
  ⟨3, 1180591620717411303435, 1, 1180591620717411303456, false⟩,
  ⟨43, 1180591620717411303456, 4294967296, 1180591620717411303456, false⟩,
  ⟨163, 1180591620717411303456, 0, 0, true⟩,
  ⟨143, 1180591620717411303456, 4294967295, 0, true⟩,
  ⟨103, 1180591620717411303456, 0, 1180591620717411303456, false⟩,
  ⟨184, 1180591620717411303456, 0, 2361183241434822606890, false⟩,
  ⟨103, 1180591620717411303456, 8, 1180591620717411303457, false⟩,
  ⟨184, 1180591620717411303457, 0, 2361183241434822606891, false⟩,
  ⟨103, 1180591620717411303456, 16, 3, false⟩,
  ⟨103, 1180591620717411303456, 24, 0, false⟩,
  ⟨183, 2361183241434822606891, 0, 2361183241434822606891, false⟩,
  ⟨63, 768, 2361183241434822606891, 1180591620717411303457, false⟩,
  ⟨93, 1180591620717411303457, 8, 1180591620717411303458, false⟩,
  ⟨183, 2361183241434822606890, 0, 2361183241434822606890, false⟩,
  ⟨63, 1180591620717411303458, 2361183241434822606890, 1180591620717411303456, false⟩,
  ⟨186, 1180591620717411303435, 0, 1180591620717411303435, false⟩,
  ⟨6, 1180591620717411303435, 1, 1180591620717411303456, false⟩,
  ⟨183, 1180591620717411303456, 0, 1180591620717411303456, false⟩,
  ⟨123, 1180591620717411303456, 1180591620717411303456, 0, false⟩,
  ⟨123, 1180591620717411303435, 1180591620717411303435, 0, false⟩]
theorem rg24_ok (i : In13) : ∀ q ∈ rg24, RlOk (rho i) q := by
  intro q hq
  simp only [rg24, List.mem_cons, List.not_mem_nil, or_false] at hq
  rcases hq with rfl | rfl | rfl | rfl | rfl | rfl | rfl | rfl | rfl | rfl | rfl | rfl | rfl | rfl | rfl | rfl | rfl | rfl | rfl | rfl | rfl | rfl | rfl | rfl | rfl | rfl | rfl | rfl | rfl | rfl | rfl
  · exact RlOk.ofAr .shr .i64 rfl rfl (show arI .shr .i64 (s42 i) ((0 : Nat) : Int) (s42 i) by have := b42 i; have := b42 i; have := b40 i; have := b41 i; have := b39 i; have := b12 i; have := b38 i; have := b19 i; have := e42 i; have := e42 i; have := e40 i; have := e41 i; have := e39 i; have := e38 i; have := e19 i; exact sr 0 (d := 1) rfl (by omega) (by omega))
  · exact RlOk.ofCv .u8 rfl (show IntKind.u8.wrap (s42 i) = s73 i by have := b42 i; have := b73 i; have := b40 i; have := b41 i; have := b39 i; have := b12 i; have := b38 i; have := b19 i; have := e42 i; have := e73 i; have := e40 i; have := e41 i; have := e39 i; have := e38 i; have := e19 i; rw [ww8]; omega)
  · exact RlOk.ofAr .shr .i64 rfl rfl (show arI .shr .i64 (s42 i) ((8 : Nat) : Int) (s74 i) by have := b42 i; have := b74 i; have := b40 i; have := b41 i; have := b39 i; have := b12 i; have := b38 i; have := b19 i; have := e42 i; have := e74 i; have := e40 i; have := e41 i; have := e39 i; have := e38 i; have := e19 i; exact sr 8 (d := 256) rfl (by omega) (by omega))
  · exact RlOk.ofCv .u8 rfl (show IntKind.u8.wrap (s74 i) = s75 i by have := b74 i; have := b75 i; have := b42 i; have := b40 i; have := b41 i; have := b39 i; have := b12 i; have := e74 i; have := e75 i; have := e42 i; have := e40 i; have := e41 i; have := e39 i; rw [ww8]; omega)
  · exact RlOk.ofAr .shr .i64 rfl rfl (show arI .shr .i64 (s42 i) ((16 : Nat) : Int) (3) by have := b42 i; have := b40 i; have := b41 i; have := b39 i; have := b12 i; have := b38 i; have := b19 i; have := e42 i; have := e40 i; have := e41 i; have := e39 i; have := e38 i; have := e19 i; exact sr 16 (d := 65536) rfl (by omega) (by omega))
  · exact RlOk.ofAr .shr .i64 rfl rfl (show arI .shr .i64 (s42 i) ((24 : Nat) : Int) (0) by have := b42 i; have := b40 i; have := b41 i; have := b39 i; have := b12 i; have := b38 i; have := b19 i; have := e42 i; have := e40 i; have := e41 i; have := e39 i; have := e38 i; have := e19 i; exact sr 24 (d := 16777216) rfl (by omega) (by omega))
  · exact RlOk.ofCv .i64 rfl (show IntKind.i64.wrap (s75 i) = s75 i by have := b75 i; have := b75 i; have := b74 i; have := b42 i; have := b40 i; have := b41 i; have := e75 i; have := e75 i; have := e74 i; have := e42 i; have := e40 i; have := e41 i; rw [wrap_i64 (by omega)])
  · exact RlOk.ofAr .or .i64 rfl rfl (show IntKind.i64.wrap (bitN .or .i64 (768) (s75 i)) = s74 i by have := b75 i; have := b74 i; have := b42 i; have := b40 i; have := b41 i; have := b39 i; have := b12 i; have := e75 i; have := e74 i; have := e42 i; have := e40 i; have := e41 i; have := e39 i; exact or8 3 (by omega) (by omega) (by omega) (by omega))
  · exact RlOk.ofAr .shl .i64 rfl rfl (show arI .shl .i64 (s74 i) 8 (s76 i) by have := b74 i; have := b76 i; have := b42 i; have := b40 i; have := b41 i; have := b39 i; have := b12 i; have := e74 i; have := e76 i; have := e42 i; have := e40 i; have := e41 i; have := e39 i; exact sl8 (by omega) (by omega))
  · exact RlOk.ofCv .i64 rfl (show IntKind.i64.wrap (s73 i) = s73 i by have := b73 i; have := b73 i; have := b42 i; have := b40 i; have := b41 i; have := b39 i; have := b12 i; have := e73 i; have := e73 i; have := e42 i; have := e40 i; have := e41 i; have := e39 i; rw [wrap_i64 (by omega)])
  · exact RlOk.ofAr .or .i64 rfl rfl (show IntKind.i64.wrap (bitN .or .i64 (s76 i) (s73 i)) = s42 i by have := b76 i; have := b73 i; have := b42 i; have := b74 i; have := b40 i; have := b41 i; have := b39 i; have := b12 i; have := b38 i; have := b19 i; have := b37 i; have := b18 i; have := b1 i; have := e76 i; have := e73 i; have := e42 i; have := e74 i; have := e40 i; have := e41 i; have := e39 i; have := e38 i; have := e19 i; have := e37 i; have := e18 i; exact or8 (s74 i) (by omega) (by omega) (by omega) (by omega))
  · exact RlOk.ofAr .add .i64 rfl rfl (show IntKind.i64.wrap (s42 i + 1) = s79 i by have := b42 i; have := b79 i; have := b40 i; have := b41 i; have := b39 i; have := b12 i; have := b38 i; have := b19 i; have := e42 i; have := e79 i; have := e40 i; have := e41 i; have := e39 i; have := e38 i; have := e19 i; rw [wrap_i64 (by omega)]; omega)
  · exact RlOk.ofAr .rem .i64 rfl rfl (show 4294967296 ≠ 0 ∧ Int.tmod (s79 i) 4294967296 = s79 i by have := b79 i; have := b79 i; have := b42 i; have := b40 i; have := b41 i; have := b39 i; have := b12 i; have := e79 i; have := e79 i; have := e42 i; have := e40 i; have := e41 i; have := e39 i; rw [Int.tmod_eq_emod_of_nonneg (by omega)]; omega)
  · exact RlOk.ofCm .geq .i64 rfl rfl (show true = decide (s79 i ≥ 0) from (decide_eq_true (by have := b79 i; have := b42 i; have := b40 i; have := b41 i; have := b39 i; have := b12 i; have := e79 i; have := e42 i; have := e40 i; have := e41 i; have := e39 i; omega)).symm)
  · exact RlOk.ofCm .leq .i64 rfl rfl (show true = decide (s79 i ≤ 4294967295) from (decide_eq_true (by have := b79 i; have := b42 i; have := b40 i; have := b41 i; have := b39 i; have := b12 i; have := e79 i; have := e42 i; have := e40 i; have := e41 i; have := e39 i; omega)).symm)
  · exact RlOk.ofAr .shr .i64 rfl rfl (show arI .shr .i64 (s79 i) ((0 : Nat) : Int) (s79 i) by have := b79 i; have := b79 i; have := b42 i; have := b40 i; have := b41 i; have := b39 i; have := b12 i; have := e79 i; have := e79 i; have := e42 i; have := e40 i; have := e41 i; have := e39 i; exact sr 0 (d := 1) rfl (by omega) (by omega))
  · exact RlOk.ofCv .u8 rfl (show IntKind.u8.wrap (s79 i) = s80 i by have := b79 i; have := b80 i; have := b42 i; have := b40 i; have := b41 i; have := b39 i; have := b12 i; have := e79 i; have := e80 i; have := e42 i; have := e40 i; have := e41 i; have := e39 i; rw [ww8]; omega)
  · exact RlOk.ofAr .shr .i64 rfl rfl (show arI .shr .i64 (s79 i) ((8 : Nat) : Int) (s81 i) by have := b79 i; have := b81 i; have := b42 i; have := b40 i; have := b41 i; have := b39 i; have := b12 i; have := e79 i; have := e81 i; have := e42 i; have := e40 i; have := e41 i; have := e39 i; exact sr 8 (d := 256) rfl (by omega) (by omega))
  · exact RlOk.ofCv .u8 rfl (show IntKind.u8.wrap (s81 i) = s82 i by have := b81 i; have := b82 i; have := b79 i; have := b42 i; have := b40 i; have := b41 i; have := e81 i; have := e82 i; have := e79 i; have := e42 i; have := e40 i; have := e41 i; rw [ww8]; omega)
  · exact RlOk.ofAr .shr .i64 rfl rfl (show arI .shr .i64 (s79 i) ((16 : Nat) : Int) (3) by have := b79 i; have := b42 i; have := b40 i; have := b41 i; have := b39 i; have := b12 i; have := e79 i; have := e42 i; have := e40 i; have := e41 i; have := e39 i; exact sr 16 (d := 65536) rfl (by omega) (by omega))
  · exact RlOk.ofAr .shr .i64 rfl rfl (show arI .shr .i64 (s79 i) ((24 : Nat) : Int) (0) by have := b79 i; have := b42 i; have := b40 i; have := b41 i; have := b39 i; have := b12 i; have := e79 i; have := e42 i; have := e40 i; have := e41 i; have := e39 i; exact sr 24 (d := 16777216) rfl (by omega) (by omega))
  · exact RlOk.ofCv .i64 rfl (show IntKind.i64.wrap (s82 i) = s82 i by have := b82 i; have := b82 i; have := b81 i; have := b79 i; have := b42 i; have := e82 i; have := e82 i; have := e81 i; have := e79 i; have := e42 i; rw [wrap_i64 (by omega)])
  · exact RlOk.ofAr .or .i64 rfl rfl (show IntKind.i64.wrap (bitN .or .i64 (768) (s82 i)) = s81 i by have := b82 i; have := b81 i; have := b79 i; have := b42 i; have := b40 i; have := b41 i; have := e82 i; have := e81 i; have := e79 i; have := e42 i; have := e40 i; have := e41 i; exact or8 3 (by omega) (by omega) (by omega) (by omega))
  · exact RlOk.ofAr .shl .i64 rfl rfl (show arI .shl .i64 (s81 i) 8 (s83 i) by have := b81 i; have := b83 i; have := b79 i; have := b42 i; have := b40 i; have := b41 i; have := e81 i; have := e83 i; have := e79 i; have := e42 i; have := e40 i; have := e41 i; exact sl8 (by omega) (by omega))
  · exact RlOk.ofCv .i64 rfl (show IntKind.i64.wrap (s80 i) = s80 i by have := b80 i; have := b80 i; have := b79 i; have := b42 i; have := b40 i; have := b41 i; have := e80 i; have := e80 i; have := e79 i; have := e42 i; have := e40 i; have := e41 i; rw [wrap_i64 (by omega)])
  · exact RlOk.ofAr .or .i64 rfl rfl (show IntKind.i64.wrap (bitN .or .i64 (s83 i) (s80 i)) = s79 i by have := b83 i; have := b80 i; have := b79 i; have := b81 i; have := b42 i; have := b40 i; have := b41 i; have := b39 i; have := b12 i; have := b38 i; have := b19 i; have := e83 i; have := e80 i; have := e79 i; have := e81 i; have := e42 i; have := e40 i; have := e41 i; have := e39 i; have := e38 i; have := e19 i; exact or8 (s81 i) (by omega) (by omega) (by omega) (by omega))
  · exact RlOk.ofCv .u32 rfl (show IntKind.u32.wrap (s42 i) = s42 i by have := b42 i; have := b42 i; have := b40 i; have := b41 i; have := b39 i; have := b12 i; have := b38 i; have := b19 i; have := e42 i; have := e42 i; have := e40 i; have := e41 i; have := e39 i; have := e38 i; have := e19 i; rw [wrap_u32 (by omega)])
  · exact RlOk.ofAr .add .u32 rfl rfl (show IntKind.u32.wrap (s42 i + 1) = s79 i by have := b42 i; have := b79 i; have := b40 i; have := b41 i; have := b39 i; have := b12 i; have := b38 i; have := b19 i; have := e42 i; have := e79 i; have := e40 i; have := e41 i; have := e39 i; have := e38 i; have := e19 i; rw [wrap_u32 (by omega)]; omega)
  · exact RlOk.ofCv .i64 rfl (show IntKind.i64.wrap (s79 i) = s79 i by have := b79 i; have := b79 i; have := b42 i; have := b40 i; have := b41 i; have := b39 i; have := b12 i; have := e79 i; have := e79 i; have := e42 i; have := e40 i; have := e41 i; have := e39 i; rw [wrap_i64 (by omega)])
  · exact RlOk.ofCm .neq .i64 rfl rfl (show false = (s79 i != s79 i) by simp)
  · exact RlOk.ofCm .neq .i64 rfl rfl (show false = (s42 i != s42 i) by simp)
def rl00 : List Rl := rg0 ++ (rg1 ++ (rg4 ++ (rg7 ++ (rg10 ++ (rg13 ++ (rg16 ++ (rg19 ++ (rg23))))))))
theorem rl00_ok (i : In13) (hw : i.who % 4 = 0) (hr : i.ord / 1 % 2 = 0) (hp : i.ord / 4 % 2 = 0) : ∀ q ∈ rl00, RlOk (rho i) q := by
  have h10 : s10 i = i.who := rfl
  have h5 : s5 i = i.ord := rfl
  have := e26 i
  intro q hq
  simp only [rl00, List.mem_append] at hq
  rcases hq with hq | hq | hq | hq | hq | hq | hq | hq | hq
  · exact rg0_ok i q hq
  · exact rg1_ok i (by omega) q hq
  · exact rg4_ok i q hq
  · exact rg7_ok i (by omega) q hq
  · exact rg10_ok i q hq
  · exact rg13_ok i q hq
  · exact rg16_ok i q hq
  · exact rg19_ok i (by omega) q hq
  · exact rg23_ok i q hq
def rl01 : List Rl := rg0 ++ (rg2 ++ (rg4 ++ (rg7 ++ (rg10 ++ (rg13 ++ (rg16 ++ (rg19 ++ (rg23))))))))
theorem rl01_ok (i : In13) (hw : i.who % 4 = 0) (hr : i.ord / 1 % 2 = 1) (hp : i.ord / 4 % 2 = 0) : ∀ q ∈ rl01, RlOk (rho i) q := by
  have h10 : s10 i = i.who := rfl
  have h5 : s5 i = i.ord := rfl
  have := e26 i
  intro q hq
  simp only [rl01, List.mem_append] at hq
  rcases hq with hq | hq | hq | hq | hq | hq | hq | hq | hq
  · exact rg0_ok i q hq
  · exact rg2_ok i (by omega) q hq
  · exact rg4_ok i q hq
  · exact rg7_ok i (by omega) q hq
  · exact rg10_ok i q hq
  · exact rg13_ok i q hq
  · exact rg16_ok i q hq
  · exact rg19_ok i (by omega) q hq
  · exact rg23_ok i q hq
def rl02 : List Rl := rg0 ++ (rg1 ++ (rg4 ++ (rg8 ++ (rg10 ++ (rg13 ++ (rg16 ++ (rg19 ++ (rg23))))))))
theorem rl02_ok (i : In13) (hw : i.who % 4 = 0) (hr : i.ord / 1 % 2 = 0) (hp : i.ord / 4 % 2 = 1) : ∀ q ∈ rl02, RlOk (rho i) q := by
  have h10 : s10 i = i.who := rfl
  have h5 : s5 i = i.ord := rfl
  have := e26 i
  intro q hq
  simp only [rl02, List.mem_append] at hq
  rcases hq with hq | hq | hq | hq | hq | hq | hq | hq | hq
  · exact rg0_ok i q hq
  · exact rg1_ok i (by omega) q hq
  · exact rg4_ok i q hq
  · exact rg8_ok i (by omega) q hq
  · exact rg10_ok i q hq
  · exact rg13_ok i q hq
  · exact rg16_ok i q hq
  · exact rg19_ok i (by omega) q hq
  · exact rg23_ok i q hq
def rl03 : List Rl := rg0 ++ (rg2 ++ (rg4 ++ (rg8 ++ (rg10 ++ (rg13 ++ (rg16 ++ (rg19 ++ (rg23))))))))
theorem rl03_ok (i : In13) (hw : i.who % 4 = 0) (hr : i.ord / 1 % 2 = 1) (hp : i.ord / 4 % 2 = 1) : ∀ q ∈ rl03, RlOk (rho i) q := by
  have h10 : s10 i = i.who := rfl
  have h5 : s5 i = i.ord := rfl
  have := e26 i
  intro q hq
  simp only [rl03, List.mem_append] at hq
  rcases hq with hq | hq | hq | hq | hq | hq | hq | hq | hq
  · exact rg0_ok i q hq
  · exact rg2_ok i (by omega) q hq
  · exact rg4_ok i q hq
  · exact rg8_ok i (by omega) q hq
  · exact rg10_ok i q hq
  · exact rg13_ok i q hq
  · exact rg16_ok i q hq
  · exact rg19_ok i (by omega) q hq
  · exact rg23_ok i q hq
def rl10 : List Rl := rg0 ++ (rg1 ++ (rg4 ++ (rg9 ++ (rg11 ++ (rg13 ++ (rg16 ++ (rg20 ++ (rg24))))))))
theorem rl10_ok (i : In13) (hw : i.who % 4 = 1) (hr : i.ord / 1 % 2 = 0) (hp : i.ord / 8 % 2 = 0) : ∀ q ∈ rl10, RlOk (rho i) q := by
  have h10 : s10 i = i.who := rfl
  have h5 : s5 i = i.ord := rfl
  have := e27 i
  intro q hq
  simp only [rl10, List.mem_append] at hq
  rcases hq with hq | hq | hq | hq | hq | hq | hq | hq | hq
  · exact rg0_ok i q hq
  · exact rg1_ok i (by omega) q hq
  · exact rg4_ok i q hq
  · exact rg9_ok i q hq
  · exact rg11_ok i (by omega) q hq
  · exact rg13_ok i q hq
  · exact rg16_ok i q hq
  · exact rg20_ok i (by omega) q hq
  · exact rg24_ok i q hq
def rl11 : List Rl := rg0 ++ (rg2 ++ (rg4 ++ (rg9 ++ (rg11 ++ (rg13 ++ (rg16 ++ (rg20 ++ (rg24))))))))
theorem rl11_ok (i : In13) (hw : i.who % 4 = 1) (hr : i.ord / 1 % 2 = 1) (hp : i.ord / 8 % 2 = 0) : ∀ q ∈ rl11, RlOk (rho i) q := by
  have h10 : s10 i = i.who := rfl
  have h5 : s5 i = i.ord := rfl
  have := e27 i
  intro q hq
  simp only [rl11, List.mem_append] at hq
  rcases hq with hq | hq | hq | hq | hq | hq | hq | hq | hq
  · exact rg0_ok i q hq
  · exact rg2_ok i (by omega) q hq
  · exact rg4_ok i q hq
  · exact rg9_ok i q hq
  · exact rg11_ok i (by omega) q hq
  · exact rg13_ok i q hq
  · exact rg16_ok i q hq
  · exact rg20_ok i (by omega) q hq
  · exact rg24_ok i q hq
def rl12 : List Rl := rg0 ++ (rg1 ++ (rg4 ++ (rg9 ++ (rg12 ++ (rg13 ++ (rg16 ++ (rg20 ++ (rg24))))))))
theorem rl12_ok (i : In13) (hw : i.who % 4 = 1) (hr : i.ord / 1 % 2 = 0) (hp : i.ord / 8 % 2 = 1) : ∀ q ∈ rl12, RlOk (rho i) q := by
  have h10 : s10 i = i.who := rfl
  have h5 : s5 i = i.ord := rfl
  have := e27 i
  intro q hq
  simp only [rl12, List.mem_append] at hq
  rcases hq with hq | hq | hq | hq | hq | hq | hq | hq | hq
  · exact rg0_ok i q hq
  · exact rg1_ok i (by omega) q hq
  · exact rg4_ok i q hq
  · exact rg9_ok i q hq
  · exact rg12_ok i (by omega) q hq
  · exact rg13_ok i q hq
  · exact rg16_ok i q hq
  · exact rg20_ok i (by omega) q hq
  · exact rg24_ok i q hq
def rl13 : List Rl := rg0 ++ (rg2 ++ (rg4 ++ (rg9 ++ (rg12 ++ (rg13 ++ (rg16 ++ (rg20 ++ (rg24))))))))
theorem rl13_ok (i : In13) (hw : i.who % 4 = 1) (hr : i.ord / 1 % 2 = 1) (hp : i.ord / 8 % 2 = 1) : ∀ q ∈ rl13, RlOk (rho i) q := by
  have h10 : s10 i = i.who := rfl
  have h5 : s5 i = i.ord := rfl
  have := e27 i
  intro q hq
  simp only [rl13, List.mem_append] at hq
  rcases hq with hq | hq | hq | hq | hq | hq | hq | hq | hq
  · exact rg0_ok i q hq
  · exact rg2_ok i (by omega) q hq
  · exact rg4_ok i q hq
  · exact rg9_ok i q hq
  · exact rg12_ok i (by omega) q hq
  · exact rg13_ok i q hq
  · exact rg16_ok i q hq
  · exact rg20_ok i (by omega) q hq
  · exact rg24_ok i q hq
def rl20 : List Rl := rg0 ++ (rg3 ++ (rg5 ++ (rg9 ++ (rg10 ++ (rg14 ++ (rg16 ++ (rg21 ++ (rg23))))))))
theorem rl20_ok (i : In13) (hw : i.who % 4 = 2) (hr : i.ord / 2 % 2 = 0) (hp : i.ord / 16 % 2 = 0) : ∀ q ∈ rl20, RlOk (rho i) q := by
  have h10 : s10 i = i.who := rfl
  have h5 : s5 i = i.ord := rfl
  have := e20 i
  have := e30 i
  intro q hq
  simp only [rl20, List.mem_append] at hq
  rcases hq with hq | hq | hq | hq | hq | hq | hq | hq | hq
  · exact rg0_ok i q hq
  · exact rg3_ok i q hq
  · exact rg5_ok i (by omega) q hq
  · exact rg9_ok i q hq
  · exact rg10_ok i q hq
  · exact rg14_ok i (by omega) q hq
  · exact rg16_ok i q hq
  · exact rg21_ok i (by omega) q hq
  · exact rg23_ok i q hq
def rl21 : List Rl := rg0 ++ (rg3 ++ (rg6 ++ (rg9 ++ (rg10 ++ (rg14 ++ (rg16 ++ (rg21 ++ (rg23))))))))
theorem rl21_ok (i : In13) (hw : i.who % 4 = 2) (hr : i.ord / 2 % 2 = 1) (hp : i.ord / 16 % 2 = 0) : ∀ q ∈ rl21, RlOk (rho i) q := by
  have h10 : s10 i = i.who := rfl
  have h5 : s5 i = i.ord := rfl
  have := e20 i
  have := e30 i
  intro q hq
  simp only [rl21, List.mem_append] at hq
  rcases hq with hq | hq | hq | hq | hq | hq | hq | hq | hq
  · exact rg0_ok i q hq
  · exact rg3_ok i q hq
  · exact rg6_ok i (by omega) q hq
  · exact rg9_ok i q hq
  · exact rg10_ok i q hq
  · exact rg14_ok i (by omega) q hq
  · exact rg16_ok i q hq
  · exact rg21_ok i (by omega) q hq
  · exact rg23_ok i q hq
def rl22 : List Rl := rg0 ++ (rg3 ++ (rg5 ++ (rg9 ++ (rg10 ++ (rg15 ++ (rg16 ++ (rg21 ++ (rg23))))))))
theorem rl22_ok (i : In13) (hw : i.who % 4 = 2) (hr : i.ord / 2 % 2 = 0) (hp : i.ord / 16 % 2 = 1) : ∀ q ∈ rl22, RlOk (rho i) q := by
  have h10 : s10 i = i.who := rfl
  have h5 : s5 i = i.ord := rfl
  have := e20 i
  have := e30 i
  intro q hq
  simp only [rl22, List.mem_append] at hq
  rcases hq with hq | hq | hq | hq | hq | hq | hq | hq | hq
  · exact rg0_ok i q hq
  · exact rg3_ok i q hq
  · exact rg5_ok i (by omega) q hq
  · exact rg9_ok i q hq
  · exact rg10_ok i q hq
  · exact rg15_ok i (by omega) q hq
  · exact rg16_ok i q hq
  · exact rg21_ok i (by omega) q hq
  · exact rg23_ok i q hq
def rl23 : List Rl := rg0 ++ (rg3 ++ (rg6 ++ (rg9 ++ (rg10 ++ (rg15 ++ (rg16 ++ (rg21 ++ (rg23))))))))
theorem rl23_ok (i : In13) (hw : i.who % 4 = 2) (hr : i.ord / 2 % 2 = 1) (hp : i.ord / 16 % 2 = 1) : ∀ q ∈ rl23, RlOk (rho i) q := by
  have h10 : s10 i = i.who := rfl
  have h5 : s5 i = i.ord := rfl
  have := e20 i
  have := e30 i
  intro q hq
  simp only [rl23, List.mem_append] at hq
  rcases hq with hq | hq | hq | hq | hq | hq | hq | hq | hq
  · exact rg0_ok i q hq
  · exact rg3_ok i q hq
  · exact rg6_ok i (by omega) q hq
  · exact rg9_ok i q hq
  · exact rg10_ok i q hq
  · exact rg15_ok i (by omega) q hq
  · exact rg16_ok i q hq
  · exact rg21_ok i (by omega) q hq
  · exact rg23_ok i q hq
def rl30 : List Rl := rg0 ++ (rg3 ++ (rg5 ++ (rg9 ++ (rg10 ++ (rg13 ++ (rg17 ++ (rg22 ++ (rg24))))))))
theorem rl30_ok (i : In13) (hw : i.who % 4 = 3) (hr : i.ord / 2 % 2 = 0) (hp : i.ord / 32 % 2 = 0) : ∀ q ∈ rl30, RlOk (rho i) q := by
  have h10 : s10 i = i.who := rfl
  have h5 : s5 i = i.ord := rfl
  have := e20 i
  have := e33 i
  intro q hq
  simp only [rl30, List.mem_append] at hq
  rcases hq with hq | hq | hq | hq | hq | hq | hq | hq | hq
  · exact rg0_ok i q hq
  · exact rg3_ok i q hq
  · exact rg5_ok i (by omega) q hq
  · exact rg9_ok i q hq
  · exact rg10_ok i q hq
  · exact rg13_ok i q hq
  · exact rg17_ok i (by omega) q hq
  · exact rg22_ok i (by omega) q hq
  · exact rg24_ok i q hq
def rl31 : List Rl := rg0 ++ (rg3 ++ (rg6 ++ (rg9 ++ (rg10 ++ (rg13 ++ (rg17 ++ (rg22 ++ (rg24))))))))
theorem rl31_ok (i : In13) (hw : i.who % 4 = 3) (hr : i.ord / 2 % 2 = 1) (hp : i.ord / 32 % 2 = 0) : ∀ q ∈ rl31, RlOk (rho i) q := by
  have h10 : s10 i = i.who := rfl
  have h5 : s5 i = i.ord := rfl
  have := e20 i
  have := e33 i
  intro q hq
  simp only [rl31, List.mem_append] at hq
  rcases hq with hq | hq | hq | hq | hq | hq | hq | hq | hq
  · exact rg0_ok i q hq
  · exact rg3_ok i q hq
  · exact rg6_ok i (by omega) q hq
  · exact rg9_ok i q hq
  · exact rg10_ok i q hq
  · exact rg13_ok i q hq
  · exact rg17_ok i (by omega) q hq
  · exact rg22_ok i (by omega) q hq
  · exact rg24_ok i q hq
def rl32 : List Rl := rg0 ++ (rg3 ++ (rg5 ++ (rg9 ++ (rg10 ++ (rg13 ++ (rg18 ++ (rg22 ++ (rg24))))))))
theorem rl32_ok (i : In13) (hw : i.who % 4 = 3) (hr : i.ord / 2 % 2 = 0) (hp : i.ord / 32 % 2 = 1) : ∀ q ∈ rl32, RlOk (rho i) q := by
  have h10 : s10 i = i.who := rfl
  have h5 : s5 i = i.ord := rfl
  have := e20 i
  have := e33 i
  intro q hq
  simp only [rl32, List.mem_append] at hq
  rcases hq with hq | hq | hq | hq | hq | hq | hq | hq | hq
  · exact rg0_ok i q hq
  · exact rg3_ok i q hq
  · exact rg5_ok i (by omega) q hq
  · exact rg9_ok i q hq
  · exact rg10_ok i q hq
  · exact rg13_ok i q hq
  · exact rg18_ok i (by omega) q hq
  · exact rg22_ok i (by omega) q hq
  · exact rg24_ok i q hq
def rl33 : List Rl := rg0 ++ (rg3 ++ (rg6 ++ (rg9 ++ (rg10 ++ (rg13 ++ (rg18 ++ (rg22 ++ (rg24))))))))
theorem rl33_ok (i : In13) (hw : i.who % 4 = 3) (hr : i.ord / 2 % 2 = 1) (hp : i.ord / 32 % 2 = 1) : ∀ q ∈ rl33, RlOk (rho i) q := by
  have h10 : s10 i = i.who := rfl
  have h5 : s5 i = i.ord := rfl
  have := e20 i
  have := e33 i
  intro q hq
  simp only [rl33, List.mem_append] at hq
  rcases hq with hq | hq | hq | hq | hq | hq | hq | hq | hq
  · exact rg0_ok i q hq
  · exact rg3_ok i q hq
  · exact rg6_ok i (by omega) q hq
  · exact rg9_ok i q hq
  · exact rg10_ok i q hq
  · exact rg13_ok i q hq
  · exact rg18_ok i (by omega) q hq
  · exact rg22_ok i (by omega) q hq
  · exact rg24_ok i q hq
def inS : List C := [.a [(.i .u8 2361183241434822606848), (.i .u8 2361183241434822606849), (.i .u8 2361183241434822606850), (.i .u8 2361183241434822606851), (.i .u8 2361183241434822606852), (.i .u8 2361183241434822606853), (.i .u8 2361183241434822606854), (.i .u8 2361183241434822606855), (.i .u8 2361183241434822606856), (.i .u8 2361183241434822606857)], .o (.i .u8 2361183241434822606858), .o (.i .u8 2361183241434822606859), .o (.i .u8 2361183241434822606860)]
theorem inS_ids : inS.flatMap idsC = [] := rfl
theorem inS_d (i : In13) : dCs (rho i) inS = [.a [(.i .u8 i.c0), (.i .u8 i.c1), (.i .u8 i.c2), (.i .u8 i.c3), (.i .u8 i.c4), (.i .u8 i.ord), (.i .u8 i.skew), (.i .u8 i.size), (.i .u8 i.life), (.i .u8 i.flaw)], .o (.i .u8 i.who), .o (.i .u8 i.what), .o (.i .u8 i.apart)] := rfl
end Go.Sx

/-
  Part of a proof: see the theorems.
-/
import Derived.Test.YtmacgikbcednmaaGreatSxC
import Derived.Test.YtmacgikbcednmaaGreatChecked
set_option linter.all false
namespace Go.Sx
open Go.Proofs

def tab : List (Nat × TI) := [
  (3, ⟨1, 8, false, [.i .i64 0], (.int .i64), false⟩),
  (4, ⟨1, 1, false, [.ff], .bool, false⟩),
  (5, ⟨1, 1, false, [.i .u8 0], (.int .u8), false⟩),
  (9, ⟨1, 16, false, [.s []], .str, false⟩),
  (23, ⟨3, 48, true, [.s [], .s [], .s []], (.struct [(0, 9), (1, 9), (2, 9)]), true⟩),
  (24, ⟨1, 24, false, [.nl], (.slice 59), false⟩),
  (26, ⟨4, 72, true, [.s [], .s [], .s [], .nl], (.struct [(0, 23), (3, 24)]), false⟩),
  (27, ⟨1, 8, false, [.i .u64 0], (.int .u64), false⟩),
  (28, ⟨1, 8, false, [.i .u64 0], (.int .u64), false⟩),
  (30, ⟨19, 240, true, [.s [], .s [], .s [], .i .i64 0, .i .i64 0, .ff, .s [], .s [], .s [], .nl, .i .i64 0, .s [], .s [], .s [], .i .u64 0, .i .i64 0, .i .i64 0, .i .i64 0, .i .i64 0], (.struct [(0, 23), (3, 3), (4, 3), (5, 4), (6, 26), (10, 3), (11, 23), (14, 28), (15, 3), (16, 3), (17, 3), (18, 3)]), false⟩),
  (31, ⟨1, 24, false, [.nl], (.slice 5), false⟩),
  (32, ⟨1, 2, false, [.i .u16 0], (.int .u16), false⟩),
  (34, ⟨8, 12, true, [.i .u8 0, .i .u8 0, .i .u8 0, .i .u8 0, .i .u16 0, .i .u16 0, .i .u8 0, .i .u16 0], (.struct [(0, 5), (1, 5), (2, 5), (3, 5), (4, 32), (5, 32), (6, 5), (7, 32)]), true⟩),
  (36, ⟨7, 96, true, [.s [], .s [], .s [], .i .u64 0, .i .i64 0, .i .i64 0, .nl], (.struct [(0, 23), (3, 28), (4, 3), (5, 3), (6, 31)]), false⟩),
  (39, ⟨1, 8, false, [.i .i64 0], (.int .i64), false⟩),
  (45, ⟨16, 216, true, [.i .i64 0, .s [], .s [], .s [], .s [], .s [], .s [], .s [], .s [], .s [], .i .u64 0, .i .u64 0, .i .u64 0, .nl, .i .i64 0, .i .i64 0], (.struct [(0, 3), (1, 23), (4, 23), (7, 23), (10, 28), (11, 28), (12, 28), (13, 31), (14, 3), (15, 3)]), false⟩),
  (48, ⟨1, 24, false, [.nl], (.slice 90), false⟩),
  (50, ⟨2, 40, true, [.s [], .nl], (.struct [(0, 9), (1, 48)]), false⟩),
  (54, ⟨1, 24, false, [.nl], (.slice 30), false⟩),
  (55, ⟨1, 24, false, [.nl], (.slice 36), false⟩),
  (56, ⟨1, 24, false, [.nl], (.slice 31), false⟩),
  (59, ⟨8, 104, true, [.s [], .s [], .s [], .i .u64 0, .i .i64 0, .i .i64 0, .i .i64 0, .nl], (.struct [(0, 23), (3, 28), (4, 3), (5, 3), (6, 3), (7, 31)]), false⟩),
  (66, ⟨10, 128, true, [.s [], .s [], .s [], .s [], .s [], .s [], .i .u64 0, .i .i64 0, .i .i64 0, .i .i64 0], (.struct [(0, 23), (3, 23), (6, 28), (7, 3), (8, 3), (9, 3)]), true⟩),
  (68, ⟨10, 120, true, [.ff, .s [], .s [], .s [], .i .i64 0, .i .u64 0, .i .i64 0, .i .i64 0, .s [], .s []], (.struct [(0, 4), (1, 23), (4, 3), (5, 28), (6, 3), (7, 3), (8, 9), (9, 9)]), true⟩),
  (71, ⟨1, 24, false, [.nl], (.slice 23), false⟩),
  (75, ⟨1, 24, false, [.nl], (.slice 9), false⟩),
  (77, ⟨1, 8, false, [.np], (.ptr 79), false⟩),
  (79, ⟨2, 32, true, [.nl, .i .i64 0], (.struct [(0, 31), (1, 3)]), false⟩),
  (82, ⟨5, 80, true, [.i .i64 0, .s [], .s [], .s [], .nl], (.struct [(0, 3), (1, 23), (4, 31)]), false⟩),
  (90, ⟨9, 88, true, [.s [], .s [], .i .u64 0, .i .i64 0, .i .i64 0, .i .i64 0, .i .i64 0, .i .i64 0, .i .i64 0], (.struct [(0, 9), (1, 9), (2, 28), (3, 3), (4, 3), (5, 3), (6, 3), (7, 3), (8, 3)]), true⟩),
  (97, ⟨8, 104, true, [.i .u64 0, .s [], .s [], .s [], .i .i64 0, .i .i64 0, .nl, .i .i64 0], (.struct [(0, 28), (1, 23), (4, 3), (5, 3), (6, 31), (7, 3)]), false⟩),
  (102, ⟨1, 24, false, [.nl], (.slice 28), false⟩),
  (104, ⟨1, 8, false, [.i .u64 0], (.int .u64), false⟩),
  (118, ⟨1, 8, false, [.np], (.ptr 120), false⟩),
  (120, ⟨4, 40, true, [.nl, .i .i64 0, .ff, .ff], (.struct [(0, 31), (1, 3), (2, 4), (3, 4)]), false⟩),
  (126, ⟨3, 40, true, [.i .i64 0, .i .u64 0, .nl], (.struct [(0, 3), (1, 28), (2, 31)]), false⟩),
  (144, ⟨3, 40, true, [.nl, .i .i64 0, .ff], (.struct [(0, 31), (1, 3), (2, 4)]), false⟩),
  (156, ⟨1, 24, false, [.nl], (.slice 3), false⟩),
  (167, ⟨1, 8, false, [.np], (.ptr 144), false⟩),
  (170, ⟨1, 8, false, [.np], (.ptr 9), false⟩),
  (171, ⟨1, 24, false, [.nl], (.slice 170), false⟩),
  (183, ⟨4, 4, true, [.i .u8 0, .i .u8 0, .i .u8 0, .i .u8 0], (.array 4 5), false⟩)]

theorem tokA : TOk Tryz.prog (tabF tab) := tok_of (by kernel_rfl)
theorem eqA : ∀ t, (tabF tab t).eq = true → EqTy Tryz.prog t (tabF tab t).zero := eq_of tokA (by kernel_rfl)
theorem zsA : ∀ t e, (tabF tab t).d = .slice e → idsLs (tabF tab e).zero = [] := zs_of (by kernel_rfl)
noncomputable def nthLL (l : List (List Nat)) : Nat → List Nat :=
  List.rec (motive := fun _ => Nat → List Nat) (fun _ => []) (fun a _ ih n => Nat.rec (motive := fun _ => List Nat) a (fun m _ => ih m) n) l
noncomputable def par (N : Nat) (live : Nat → List Nat) (mv : List Nat) (mask : Nat → List Nat) : Par := ⟨tabF tab, Fn Tryz.prog, N, live, mv, mask⟩
theorem goodA {N : Nat} {live : Nat → List Nat} {mv : List Nat} {mask : Nat → List Nat} (h : Nat.ble N 1000 = true) : Good Tryz.prog (par N live mv mask) := ⟨rfl, tokA, eqA, Nat.le_of_ble_eq_true h, zsA, by kernel_rfl⟩
end Go.Sx

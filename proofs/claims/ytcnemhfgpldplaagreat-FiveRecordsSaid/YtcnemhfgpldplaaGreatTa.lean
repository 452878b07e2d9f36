/-
  Part of a proof: see the theorems.
-/
import Derived.Test.YtcnemhfgpldplaaGreatSxC
import Derived.Test.YtcnemhfgpldplaaGreatChecked
set_option linter.all false
namespace Go.Sx
open Go.Proofs

def tab : List (Nat × TI) := [
  (3, ⟨1, 8, false, [.i .i64 0], (.int .i64), false⟩),
  (4, ⟨1, 1, false, [.ff], .bool, false⟩),
  (5, ⟨1, 1, false, [.i .u8 0], (.int .u8), false⟩),
  (9, ⟨1, 16, false, [.s []], .str, false⟩),
  (23, ⟨3, 48, true, [.s [], .s [], .s []], (.struct [(0, 9), (1, 9), (2, 9)]), true⟩),
  (24, ⟨1, 8, false, [.i .u64 0], (.int .u64), false⟩),
  (25, ⟨1, 8, false, [.i .u64 0], (.int .u64), false⟩),
  (27, ⟨10, 128, true, [.s [], .s [], .s [], .s [], .s [], .s [], .i .u64 0, .i .i64 0, .i .i64 0, .i .i64 0], (.struct [(0, 23), (3, 23), (6, 25), (7, 3), (8, 3), (9, 3)]), true⟩),
  (28, ⟨1, 24, false, [.nl], (.slice 5), false⟩),
  (30, ⟨7, 96, true, [.i .u64 0, .s [], .s [], .s [], .i .i64 0, .i .i64 0, .nl], (.struct [(0, 25), (1, 23), (4, 3), (5, 3), (6, 28)]), false⟩),
  (31, ⟨1, 4, false, [.i .u32 0], (.int .u32), false⟩),
  (32, ⟨1, 2, false, [.i .u16 0], (.int .u16), false⟩),
  (36, ⟨1, 24, false, [.nl], (.slice 27), false⟩),
  (38, ⟨1, 24, false, [.nl], (.slice 30), false⟩),
  (39, ⟨1, 8, false, [.i .i64 0], (.int .i64), false⟩),
  (49, ⟨1, 24, false, [.nl], (.slice 28), false⟩),
  (51, ⟨1, 24, false, [.nl], (.slice 88), false⟩),
  (53, ⟨2, 40, true, [.s [], .nl], (.struct [(0, 9), (1, 51)]), false⟩),
  (56, ⟨16, 216, true, [.i .i64 0, .s [], .s [], .s [], .s [], .s [], .s [], .s [], .s [], .s [], .i .u64 0, .i .u64 0, .i .u64 0, .nl, .i .i64 0, .i .i64 0], (.struct [(0, 3), (1, 23), (4, 23), (7, 23), (10, 25), (11, 25), (12, 25), (13, 28), (14, 3), (15, 3)]), false⟩),
  (61, ⟨7, 96, true, [.s [], .s [], .s [], .i .u64 0, .i .i64 0, .i .i64 0, .nl], (.struct [(0, 23), (3, 25), (4, 3), (5, 3), (6, 28)]), false⟩),
  (64, ⟨1, 24, false, [.nl], (.slice 23), false⟩),
  (75, ⟨3, 40, true, [.nl, .i .i64 0, .ff], (.struct [(0, 28), (1, 3), (2, 4)]), false⟩),
  (81, ⟨1, 8, false, [.i .u64 0], (.int .u64), false⟩),
  (82, ⟨1, 8, false, [.np], (.ptr 84), false⟩),
  (84, ⟨4, 40, true, [.nl, .i .i64 0, .ff, .ff], (.struct [(0, 28), (1, 3), (2, 4), (3, 4)]), false⟩),
  (88, ⟨9, 88, true, [.s [], .s [], .i .u64 0, .i .i64 0, .i .i64 0, .i .i64 0, .i .i64 0, .i .i64 0, .i .i64 0], (.struct [(0, 9), (1, 9), (2, 25), (3, 3), (4, 3), (5, 3), (6, 3), (7, 3), (8, 3)]), true⟩),
  (96, ⟨1, 24, false, [.nl], (.slice 9), false⟩),
  (99, ⟨5, 80, true, [.i .i64 0, .s [], .s [], .s [], .nl], (.struct [(0, 3), (1, 23), (4, 28)]), false⟩),
  (111, ⟨1, 8, false, [.np], (.ptr 75), false⟩),
  (130, ⟨3, 40, true, [.i .i64 0, .i .u64 0, .nl], (.struct [(0, 3), (1, 25), (2, 28)]), false⟩),
  (135, ⟨4, 4, true, [.i .u8 0, .i .u8 0, .i .u8 0, .i .u8 0], (.array 4 5), false⟩),
  (137, ⟨1, 8, false, [.np], (.ptr 9), false⟩),
  (138, ⟨1, 24, false, [.nl], (.slice 137), false⟩),
  (147, ⟨1, 24, false, [.nl], (.slice 3), false⟩)]

theorem tokA : TOk Tryz.prog (tabF tab) := tok_of (by kernel_rfl)
theorem eqA : ∀ t, (tabF tab t).eq = true → EqTy Tryz.prog t (tabF tab t).zero := eq_of tokA (by kernel_rfl)
theorem zsA : ∀ t e, (tabF tab t).d = .slice e → idsLs (tabF tab e).zero = [] := zs_of (by kernel_rfl)
noncomputable def nthLL (l : List (List Nat)) : Nat → List Nat :=
  List.rec (motive := fun _ => Nat → List Nat) (fun _ => []) (fun a _ ih n => Nat.rec (motive := fun _ => List Nat) a (fun m _ => ih m) n) l
noncomputable def par (N : Nat) (live : Nat → List Nat) (mv : List Nat) (mask : Nat → List Nat) : Par := ⟨tabF tab, Fn Tryz.prog, N, live, mv, mask⟩
theorem goodA {N : Nat} {live : Nat → List Nat} {mv : List Nat} {mask : Nat → List Nat} (h : Nat.ble N 1000 = true) : Good Tryz.prog (par N live mv mask) := ⟨rfl, tokA, eqA, Nat.le_of_ble_eq_true h, zsA, by kernel_rfl⟩
end Go.Sx

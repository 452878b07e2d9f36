/-
  Part of a proof: see the theorems.
-/
import Derived.Test.YtcnemhfgpldplacGreatSxC
import Derived.Test.YtcnemhfgpldplacGreatChecked
set_option linter.all false
namespace Go.Sx
open Go.Proofs

def tab : List (Nat × TI) := [
  (3, ⟨1, 8, false, [.i .i64 0], (.int .i64), false⟩),
  (4, ⟨1, 1, false, [.ff], .bool, false⟩),
  (5, ⟨1, 1, false, [.i .u8 0], (.int .u8), false⟩),
  (9, ⟨1, 16, false, [.s []], .str, false⟩),
  (23, ⟨3, 48, true, [.s [], .s [], .s []], (.struct [(0, 9), (1, 9), (2, 9)]), true⟩),
  (24, ⟨1, 24, false, [.nl], (.slice 5), false⟩),
  (26, ⟨5, 80, true, [.i .i64 0, .s [], .s [], .s [], .nl], (.struct [(0, 3), (1, 23), (4, 24)]), false⟩),
  (27, ⟨1, 2, false, [.i .u16 0], (.int .u16), false⟩),
  (31, ⟨1, 24, false, [.nl], (.slice 26), false⟩),
  (32, ⟨1, 8, false, [.i .i64 0], (.int .i64), false⟩),
  (36, ⟨1, 24, false, [.nl], (.slice 24), false⟩),
  (42, ⟨1, 8, false, [.i .u64 0], (.int .u64), false⟩),
  (43, ⟨1, 8, false, [.i .u64 0], (.int .u64), false⟩),
  (46, ⟨10, 128, true, [.s [], .s [], .s [], .s [], .s [], .s [], .i .u64 0, .i .i64 0, .i .i64 0, .i .i64 0], (.struct [(0, 23), (3, 23), (6, 43), (7, 3), (8, 3), (9, 3)]), true⟩),
  (47, ⟨1, 24, false, [.nl], (.slice 85), false⟩),
  (49, ⟨2, 40, true, [.s [], .nl], (.struct [(0, 9), (1, 47)]), false⟩),
  (52, ⟨16, 216, true, [.i .i64 0, .s [], .s [], .s [], .s [], .s [], .s [], .s [], .s [], .s [], .i .u64 0, .i .u64 0, .i .u64 0, .nl, .i .i64 0, .i .i64 0], (.struct [(0, 3), (1, 23), (4, 23), (7, 23), (10, 43), (11, 43), (12, 43), (13, 24), (14, 3), (15, 3)]), false⟩),
  (56, ⟨7, 96, true, [.s [], .s [], .s [], .i .u64 0, .i .i64 0, .i .i64 0, .nl], (.struct [(0, 23), (3, 43), (4, 3), (5, 3), (6, 24)]), false⟩),
  (59, ⟨1, 24, false, [.nl], (.slice 23), false⟩),
  (60, ⟨1, 24, false, [.nl], (.slice 9), false⟩),
  (68, ⟨1, 8, false, [.i .u64 0], (.int .u64), false⟩),
  (72, ⟨3, 40, true, [.nl, .i .i64 0, .ff], (.struct [(0, 24), (1, 3), (2, 4)]), false⟩),
  (77, ⟨1, 8, false, [.np], (.ptr 79), false⟩),
  (79, ⟨4, 40, true, [.nl, .i .i64 0, .ff, .ff], (.struct [(0, 24), (1, 3), (2, 4), (3, 4)]), false⟩),
  (85, ⟨9, 88, true, [.s [], .s [], .i .u64 0, .i .i64 0, .i .i64 0, .i .i64 0, .i .i64 0, .i .i64 0, .i .i64 0], (.struct [(0, 9), (1, 9), (2, 43), (3, 3), (4, 3), (5, 3), (6, 3), (7, 3), (8, 3)]), true⟩),
  (96, ⟨7, 96, true, [.i .u64 0, .s [], .s [], .s [], .i .i64 0, .i .i64 0, .nl], (.struct [(0, 43), (1, 23), (4, 3), (5, 3), (6, 24)]), false⟩),
  (104, ⟨1, 24, false, [.nl], (.slice 3), false⟩),
  (108, ⟨1, 8, false, [.np], (.ptr 72), false⟩),
  (128, ⟨3, 40, true, [.i .i64 0, .i .u64 0, .nl], (.struct [(0, 3), (1, 43), (2, 24)]), false⟩),
  (133, ⟨4, 4, true, [.i .u8 0, .i .u8 0, .i .u8 0, .i .u8 0], (.array 4 5), false⟩),
  (135, ⟨1, 8, false, [.np], (.ptr 9), false⟩),
  (136, ⟨1, 24, false, [.nl], (.slice 135), false⟩)]

theorem tokA : TOk Tryz.prog (tabF tab) := tok_of (by kernel_rfl)
theorem eqA : ∀ t, (tabF tab t).eq = true → EqTy Tryz.prog t (tabF tab t).zero := eq_of tokA (by kernel_rfl)
theorem zsA : ∀ t e, (tabF tab t).d = .slice e → idsLs (tabF tab e).zero = [] := zs_of (by kernel_rfl)
noncomputable def nthLL (l : List (List Nat)) : Nat → List Nat :=
  List.rec (motive := fun _ => Nat → List Nat) (fun _ => []) (fun a _ ih n => Nat.rec (motive := fun _ => List Nat) a (fun m _ => ih m) n) l
noncomputable def par (N : Nat) (live : Nat → List Nat) (mv : List Nat) (mask : Nat → List Nat) : Par := ⟨tabF tab, Fn Tryz.prog, N, live, mv, mask⟩
theorem goodA {N : Nat} {live : Nat → List Nat} {mv : List Nat} {mask : Nat → List Nat} (h : Nat.ble N 1000 = true) : Good Tryz.prog (par N live mv mask) := ⟨rfl, tokA, eqA, Nat.le_of_ble_eq_true h, zsA, by kernel_rfl⟩
end Go.Sx

/-
  Part of a proof: see the theorems.
-/
import Derived.Test.YtcnemhfgpldplabSxC
import Derived.Test.YtcnemhfgpldplabChecked
set_option linter.all false
namespace Go.Sx
open Go.Proofs

def tab : List (Nat × TI) := [
  (3, ⟨1, 8, false, [.i .i64 0], (.int .i64), false⟩),
  (4, ⟨1, 1, false, [.ff], .bool, false⟩),
  (5, ⟨1, 1, false, [.i .u8 0], (.int .u8), false⟩),
  (9, ⟨1, 16, false, [.s []], .str, false⟩),
  (22, ⟨1, 2, false, [.i .u16 0], (.int .u16), false⟩),
  (24, ⟨1, 24, false, [.nl], (.slice 47), false⟩),
  (26, ⟨2, 40, true, [.s [], .nl], (.struct [(0, 9), (1, 24)]), false⟩),
  (29, ⟨3, 48, true, [.s [], .s [], .s []], (.struct [(0, 9), (1, 9), (2, 9)]), true⟩),
  (31, ⟨1, 24, false, [.nl], (.slice 5), false⟩),
  (33, ⟨1, 8, false, [.i .u64 0], (.int .u64), false⟩),
  (35, ⟨16, 216, true, [.i .i64 0, .s [], .s [], .s [], .s [], .s [], .s [], .s [], .s [], .s [], .i .u64 0, .i .u64 0, .i .u64 0, .nl, .i .i64 0, .i .i64 0], (.struct [(0, 3), (1, 29), (4, 29), (7, 29), (10, 33), (11, 33), (12, 33), (13, 31), (14, 3), (15, 3)]), false⟩),
  (36, ⟨1, 8, false, [.i .i64 0], (.int .i64), false⟩),
  (43, ⟨7, 96, true, [.s [], .s [], .s [], .i .u64 0, .i .i64 0, .i .i64 0, .nl], (.struct [(0, 29), (3, 33), (4, 3), (5, 3), (6, 31)]), false⟩),
  (47, ⟨9, 88, true, [.s [], .s [], .i .u64 0, .i .i64 0, .i .i64 0, .i .i64 0, .i .i64 0, .i .i64 0, .i .i64 0], (.struct [(0, 9), (1, 9), (2, 33), (3, 3), (4, 3), (5, 3), (6, 3), (7, 3), (8, 3)]), true⟩),
  (51, ⟨10, 128, true, [.s [], .s [], .s [], .s [], .s [], .s [], .i .u64 0, .i .i64 0, .i .i64 0, .i .i64 0], (.struct [(0, 29), (3, 29), (6, 33), (7, 3), (8, 3), (9, 3)]), true⟩),
  (57, ⟨1, 24, false, [.nl], (.slice 29), false⟩),
  (58, ⟨1, 24, false, [.nl], (.slice 9), false⟩),
  (70, ⟨5, 80, true, [.i .i64 0, .s [], .s [], .s [], .nl], (.struct [(0, 3), (1, 29), (4, 31)]), false⟩),
  (74, ⟨7, 96, true, [.i .u64 0, .s [], .s [], .s [], .i .i64 0, .i .i64 0, .nl], (.struct [(0, 33), (1, 29), (4, 3), (5, 3), (6, 31)]), false⟩),
  (78, ⟨3, 40, true, [.i .i64 0, .i .u64 0, .nl], (.struct [(0, 3), (1, 33), (2, 31)]), false⟩),
  (82, ⟨3, 40, true, [.nl, .i .i64 0, .ff], (.struct [(0, 31), (1, 3), (2, 4)]), false⟩),
  (108, ⟨1, 8, false, [.np], (.ptr 82), false⟩),
  (125, ⟨1, 24, false, [.nl], (.slice 3), false⟩),
  (132, ⟨1, 8, false, [.np], (.ptr 9), false⟩),
  (133, ⟨1, 24, false, [.nl], (.slice 132), false⟩),
  (138, ⟨4, 4, true, [.i .u8 0, .i .u8 0, .i .u8 0, .i .u8 0], (.array 4 5), false⟩),
  (139, ⟨1, 24, false, [.nl], (.slice 31), false⟩)]

theorem tokA : TOk Try.prog (tabF tab) := tok_of (by kernel_rfl)
theorem eqA : ∀ t, (tabF tab t).eq = true → EqTy Try.prog t (tabF tab t).zero := eq_of tokA (by kernel_rfl)
theorem zsA : ∀ t e, (tabF tab t).d = .slice e → idsLs (tabF tab e).zero = [] := zs_of (by kernel_rfl)
noncomputable def nthLL (l : List (List Nat)) : Nat → List Nat :=
  List.rec (motive := fun _ => Nat → List Nat) (fun _ => []) (fun a _ ih n => Nat.rec (motive := fun _ => List Nat) a (fun m _ => ih m) n) l
noncomputable def par (N : Nat) (live : Nat → List Nat) (mv : List Nat) (mask : Nat → List Nat) : Par := ⟨tabF tab, Fn Try.prog, N, live, mv, mask⟩
theorem goodA {N : Nat} {live : Nat → List Nat} {mv : List Nat} {mask : Nat → List Nat} (h : Nat.ble N 1000 = true) : Good Try.prog (par N live mv mask) := ⟨rfl, tokA, eqA, Nat.le_of_ble_eq_true h, zsA, by kernel_rfl⟩
end Go.Sx

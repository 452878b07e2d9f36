/-
  Part of a proof: see the theorems.
-/
import Derived.Test.YtcmcjiacpahliabSxC
import Derived.Test.YtcmcjiacpahliabChecked
set_option linter.all false
namespace Go.Sx
open Go.Proofs

def tab : List (Nat × TI) := [
  (3, ⟨1, 8, false, [.i .i64 0], (.int .i64), false⟩),
  (4, ⟨1, 1, false, [.ff], .bool, false⟩),
  (5, ⟨1, 1, false, [.i .u8 0], (.int .u8), false⟩),
  (9, ⟨1, 16, false, [.s []], .str, false⟩),
  (22, ⟨1, 24, false, [.nl], (.slice 32), false⟩),
  (23, ⟨1, 24, false, [.nl], (.slice 5), false⟩),
  (28, ⟨3, 48, true, [.s [], .s [], .s []], (.struct [(0, 9), (1, 9), (2, 9)]), true⟩),
  (29, ⟨1, 8, false, [.i .u64 0], (.int .u64), false⟩),
  (30, ⟨1, 8, false, [.i .u64 0], (.int .u64), false⟩),
  (32, ⟨5, 64, true, [.s [], .s [], .s [], .i .i64 0, .i .u64 0], (.struct [(0, 28), (3, 3), (4, 30)]), true⟩),
  (33, ⟨1, 24, false, [.nl], (.slice 22), false⟩),
  (34, ⟨1, 8, false, [.i .i64 0], (.int .i64), false⟩),
  (42, ⟨1, 2, false, [.i .u16 0], (.int .u16), false⟩),
  (44, ⟨1, 24, false, [.nl], (.slice 23), false⟩),
  (46, ⟨1, 24, false, [.nl], (.slice 55), false⟩),
  (48, ⟨4, 72, true, [.s [], .s [], .s [], .nl], (.struct [(0, 28), (3, 46)]), false⟩),
  (53, ⟨1, 24, false, [.nl], (.slice 3), false⟩),
  (55, ⟨8, 104, true, [.s [], .s [], .s [], .i .u64 0, .i .i64 0, .i .i64 0, .i .i64 0, .nl], (.struct [(0, 28), (3, 30), (4, 3), (5, 3), (6, 3), (7, 23)]), false⟩),
  (62, ⟨1, 24, false, [.nl], (.slice 48), false⟩),
  (64, ⟨1, 8, false, [.np], (.ptr 66), false⟩),
  (66, ⟨2, 32, true, [.nl, .i .i64 0], (.struct [(0, 23), (1, 3)]), false⟩),
  (73, ⟨1, 24, false, [.nl], (.slice 28), false⟩),
  (85, ⟨4, 48, true, [.nl, .i .i64 0, .i .i64 0, .i .i64 0], (.struct [(0, 23), (1, 3), (2, 3), (3, 3)]), false⟩),
  (87, ⟨1, 24, false, [.nl], (.slice 85), false⟩),
  (93, ⟨1, 24, false, [.nl], (.slice 30), false⟩),
  (110, ⟨4, 56, true, [.s [], .s [], .s [], .i .i64 0], (.struct [(0, 28), (3, 3)]), true⟩),
  (119, ⟨1, 8, false, [.i .u64 0], (.int .u64), false⟩),
  (120, ⟨1, 8, false, [.np], (.ptr 122), false⟩),
  (122, ⟨4, 40, true, [.nl, .i .i64 0, .ff, .ff], (.struct [(0, 23), (1, 3), (2, 4), (3, 4)]), false⟩),
  (129, ⟨1, 24, false, [.nl], (.slice 9), false⟩),
  (140, ⟨6, 72, true, [.s [], .s [], .s [], .i .i64 0, .i .i64 0, .i .i64 0], (.struct [(0, 28), (3, 3), (4, 3), (5, 3)]), true⟩),
  (173, ⟨1, 8, false, [.np], (.ptr 9), false⟩),
  (174, ⟨1, 24, false, [.nl], (.slice 173), false⟩),
  (177, ⟨7, 56, true, [.i .i64 0, .i .i64 0, .i .i64 0, .i .i64 0, .i .i64 0, .i .i64 0, .i .i64 0], (.array 7 34), false⟩),
  (184, ⟨3, 40, true, [.i .i64 0, .i .u64 0, .nl], (.struct [(0, 3), (1, 30), (2, 23)]), false⟩),
  (189, ⟨4, 4, true, [.i .u8 0, .i .u8 0, .i .u8 0, .i .u8 0], (.array 4 5), false⟩)]

theorem tokA : TOk Try.prog (tabF tab) := tok_of (by kernel_rfl)
theorem eqA : ∀ t, (tabF tab t).eq = true → EqTy Try.prog t (tabF tab t).zero := eq_of tokA (by kernel_rfl)
theorem zsA : ∀ t e, (tabF tab t).d = .slice e → idsLs (tabF tab e).zero = [] := zs_of (by kernel_rfl)
noncomputable def nthLL (l : List (List Nat)) : Nat → List Nat :=
  List.rec (motive := fun _ => Nat → List Nat) (fun _ => []) (fun a _ ih n => Nat.rec (motive := fun _ => List Nat) a (fun m _ => ih m) n) l
noncomputable def par (N : Nat) (live : Nat → List Nat) (mv : List Nat) (mask : Nat → List Nat) : Par := ⟨tabF tab, Fn Try.prog, N, live, mv, mask⟩
theorem goodA {N : Nat} {live : Nat → List Nat} {mv : List Nat} {mask : Nat → List Nat} (h : Nat.ble N 1000 = true) : Good Try.prog (par N live mv mask) := ⟨rfl, tokA, eqA, Nat.le_of_ble_eq_true h, zsA, by kernel_rfl⟩
end Go.Sx

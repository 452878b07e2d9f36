/-
  Part of a proof: see the theorems.
-/
import Derived.Test.YtcmcjiacpahliaaSxC
import Derived.Test.YtcmcjiacpahliaaChecked
set_option linter.all false
namespace Go.Sx
open Go.Proofs

def tab : List (Nat × TI) := [
  (3, ⟨1, 8, false, [.i .i64 0], (.int .i64), false⟩),
  (4, ⟨1, 1, false, [.ff], .bool, false⟩),
  (5, ⟨1, 1, false, [.i .u8 0], (.int .u8), false⟩),
  (9, ⟨1, 16, false, [.s []], .str, false⟩),
  (23, ⟨3, 48, true, [.s [], .s [], .s []], (.struct [(0, 9), (1, 9), (2, 9)]), true⟩),
  (24, ⟨1, 8, false, [.i .u64 0], (.int .u64), false⟩),
  (25, ⟨1, 8, false, [.i .u64 0], (.int .u64), false⟩),
  (27, ⟨10, 128, true, [.s [], .s [], .s [], .s [], .s [], .s [], .i .u64 0, .i .i64 0, .i .i64 0, .i .i64 0], (.struct [(0, 23), (3, 23), (6, 25), (7, 3), (8, 3), (9, 3)]), true⟩),
  (28, ⟨1, 4, false, [.i .u32 0], (.int .u32), false⟩),
  (33, ⟨1, 24, false, [.nl], (.slice 27), false⟩),
  (35, ⟨10, 120, true, [.ff, .s [], .s [], .s [], .i .i64 0, .i .u64 0, .i .i64 0, .i .i64 0, .s [], .s []], (.struct [(0, 4), (1, 23), (4, 3), (5, 25), (6, 3), (7, 3), (8, 9), (9, 9)]), true⟩),
  (40, ⟨1, 24, false, [.nl], (.slice 43), false⟩),
  (41, ⟨1, 24, false, [.nl], (.slice 5), false⟩),
  (43, ⟨5, 64, true, [.s [], .s [], .s [], .i .i64 0, .i .u64 0], (.struct [(0, 23), (3, 3), (4, 25)]), true⟩),
  (46, ⟨1, 24, false, [.nl], (.slice 40), false⟩),
  (47, ⟨1, 24, false, [.nl], (.slice 23), false⟩),
  (48, ⟨1, 24, false, [.nl], (.slice 3), false⟩),
  (52, ⟨1, 8, false, [.i .i64 0], (.int .i64), false⟩),
  (59, ⟨6, 72, true, [.s [], .s [], .s [], .i .i64 0, .i .i64 0, .i .i64 0], (.struct [(0, 23), (3, 3), (4, 3), (5, 3)]), true⟩),
  (60, ⟨1, 2, false, [.i .u16 0], (.int .u16), false⟩),
  (63, ⟨1, 24, false, [.nl], (.slice 59), false⟩),
  (64, ⟨1, 24, false, [.nl], (.slice 25), false⟩),
  (68, ⟨1, 24, false, [.nl], (.slice 41), false⟩),
  (75, ⟨1, 24, false, [.nl], (.slice 35), false⟩),
  (83, ⟨3, 24, true, [.i .i64 0, .i .i64 0, .i .i64 0], (.struct [(0, 3), (1, 3), (2, 3)]), true⟩),
  (84, ⟨1, 24, false, [.nl], (.slice 83), false⟩),
  (93, ⟨6, 80, true, [.ff, .ff, .i .i64 0, .s [], .nl, .nl], (.struct [(0, 4), (1, 4), (2, 3), (3, 9), (4, 41), (5, 41)]), false⟩),
  (95, ⟨6, 56, true, [.ff, .ff, .i .u8 0, .i .u8 0, .nl, .nl], (.struct [(0, 4), (1, 4), (2, 5), (3, 5), (4, 41), (5, 41)]), false⟩),
  (98, ⟨1, 24, false, [.nl], (.slice 93), false⟩),
  (103, ⟨10, 128, true, [.ff, .ff, .i .i64 0, .s [], .nl, .nl, .i .i64 0, .i .i64 0, .s [], .s []], (.struct [(0, 93), (6, 3), (7, 3), (8, 9), (9, 9)]), false⟩),
  (108, ⟨1, 24, false, [.nl], (.slice 103), false⟩),
  (113, ⟨1, 24, false, [.nl], (.slice 9), false⟩),
  (118, ⟨1, 8, false, [.np], (.ptr 120), false⟩),
  (120, ⟨2, 32, true, [.nl, .i .i64 0], (.struct [(0, 41), (1, 3)]), false⟩),
  (124, ⟨4, 56, true, [.s [], .s [], .s [], .i .i64 0], (.struct [(0, 23), (3, 3)]), true⟩),
  (129, ⟨1, 8, false, [.i .u64 0], (.int .u64), false⟩),
  (158, ⟨1, 8, false, [.np], (.ptr 162), false⟩),
  (162, ⟨4, 40, true, [.nl, .i .i64 0, .ff, .ff], (.struct [(0, 41), (1, 3), (2, 4), (3, 4)]), false⟩),
  (178, ⟨3, 40, true, [.i .i64 0, .i .u64 0, .nl], (.struct [(0, 3), (1, 25), (2, 41)]), false⟩),
  (195, ⟨1, 8, false, [.np], (.ptr 9), false⟩),
  (196, ⟨1, 24, false, [.nl], (.slice 195), false⟩),
  (197, ⟨4, 4, true, [.i .u8 0, .i .u8 0, .i .u8 0, .i .u8 0], (.array 4 5), false⟩)]

theorem tokA : TOk Try.prog (tabF tab) := tok_of (by kernel_rfl)
theorem eqA : ∀ t, (tabF tab t).eq = true → EqTy Try.prog t (tabF tab t).zero := eq_of tokA (by kernel_rfl)
theorem zsA : ∀ t e, (tabF tab t).d = .slice e → idsLs (tabF tab e).zero = [] := zs_of (by kernel_rfl)
noncomputable def nthLL (l : List (List Nat)) : Nat → List Nat :=
  List.rec (motive := fun _ => Nat → List Nat) (fun _ => []) (fun a _ ih n => Nat.rec (motive := fun _ => List Nat) a (fun m _ => ih m) n) l
noncomputable def par (N : Nat) (live : Nat → List Nat) (mv : List Nat) (mask : Nat → List Nat) : Par := ⟨tabF tab, Fn Try.prog, N, live, mv, mask⟩
theorem goodA {N : Nat} {live : Nat → List Nat} {mv : List Nat} {mask : Nat → List Nat} (h : Nat.ble N 1000 = true) : Good Try.prog (par N live mv mask) := ⟨rfl, tokA, eqA, Nat.le_of_ble_eq_true h, zsA, by kernel_rfl⟩
end Go.Sx

/-
  Part of a proof: see the theorems.
-/
import Derived.Test.YtgiekmlofndeaaaSxC
import Derived.Test.YtgiekmlofndeaaaChecked
set_option linter.all false
namespace Go.Sx
open Go.Proofs

def tab : List (Nat × TI) := [
  (3, ⟨1, 8, false, [.i .i64 0], (.int .i64), false⟩),
  (4, ⟨1, 1, false, [.ff], .bool, false⟩),
  (5, ⟨1, 1, false, [.i .u8 0], (.int .u8), false⟩),
  (9, ⟨1, 16, false, [.s []], .str, false⟩),
  (23, ⟨3, 48, true, [.s [], .s [], .s []], (.struct [(0, 9), (1, 9), (2, 9)]), true⟩),
  (24, ⟨1, 24, false, [.nl], (.slice 38), false⟩),
  (26, ⟨4, 72, true, [.s [], .s [], .s [], .nl], (.struct [(0, 23), (3, 24)]), false⟩),
  (27, ⟨1, 24, false, [.nl], (.slice 5), false⟩),
  (31, ⟨1, 8, false, [.i .i64 0], (.int .i64), false⟩),
  (34, ⟨1, 24, false, [.nl], (.slice 3), false⟩),
  (35, ⟨1, 8, false, [.i .u64 0], (.int .u64), false⟩),
  (36, ⟨1, 8, false, [.i .u64 0], (.int .u64), false⟩),
  (38, ⟨8, 104, true, [.s [], .s [], .s [], .i .u64 0, .i .i64 0, .i .i64 0, .i .i64 0, .nl], (.struct [(0, 23), (3, 36), (4, 3), (5, 3), (6, 3), (7, 27)]), false⟩),
  (46, ⟨6, 56, true, [.ff, .ff, .i .u8 0, .i .u8 0, .nl, .nl], (.struct [(0, 4), (1, 4), (2, 5), (3, 5), (4, 27), (5, 27)]), false⟩),
  (47, ⟨1, 4, false, [.i .u32 0], (.int .u32), false⟩),
  (48, ⟨1, 2, false, [.i .u16 0], (.int .u16), false⟩),
  (50, ⟨10, 120, true, [.ff, .s [], .s [], .s [], .i .i64 0, .i .u64 0, .i .i64 0, .i .i64 0, .s [], .s []], (.struct [(0, 4), (1, 23), (4, 3), (5, 36), (6, 3), (7, 3), (8, 9), (9, 9)]), true⟩),
  (53, ⟨6, 80, true, [.ff, .ff, .i .i64 0, .s [], .nl, .nl], (.struct [(0, 4), (1, 4), (2, 3), (3, 9), (4, 27), (5, 27)]), false⟩),
  (59, ⟨10, 128, true, [.ff, .ff, .i .i64 0, .s [], .nl, .nl, .i .i64 0, .i .i64 0, .s [], .s []], (.struct [(0, 53), (6, 3), (7, 3), (8, 9), (9, 9)]), false⟩),
  (62, ⟨3, 24, true, [.i .i64 0, .i .i64 0, .i .i64 0], (.struct [(0, 3), (1, 3), (2, 3)]), true⟩),
  (65, ⟨1, 24, false, [.nl], (.slice 27), false⟩),
  (81, ⟨1, 8, false, [.np], (.ptr 83), false⟩),
  (83, ⟨2, 32, true, [.nl, .i .i64 0], (.struct [(0, 27), (1, 3)]), false⟩),
  (89, ⟨1, 24, false, [.nl], (.slice 9), false⟩),
  (100, ⟨1, 8, false, [.i .u64 0], (.int .u64), false⟩),
  (108, ⟨1, 8, false, [.np], (.ptr 112), false⟩),
  (112, ⟨4, 40, true, [.nl, .i .i64 0, .ff, .ff], (.struct [(0, 27), (1, 3), (2, 4), (3, 4)]), false⟩),
  (127, ⟨1, 24, false, [.nl], (.slice 23), false⟩),
  (140, ⟨4, 4, true, [.i .u8 0, .i .u8 0, .i .u8 0, .i .u8 0], (.array 4 5), false⟩)]

theorem tokA : TOk Try.prog (tabF tab) := tok_of (by kernel_rfl)
theorem eqA : ∀ t, (tabF tab t).eq = true → EqTy Try.prog t (tabF tab t).zero := eq_of tokA (by kernel_rfl)
theorem zsA : ∀ t e, (tabF tab t).d = .slice e → idsLs (tabF tab e).zero = [] := zs_of (by kernel_rfl)
noncomputable def nthLL (l : List (List Nat)) : Nat → List Nat :=
  List.rec (motive := fun _ => Nat → List Nat) (fun _ => []) (fun a _ ih n => Nat.rec (motive := fun _ => List Nat) a (fun m _ => ih m) n) l
noncomputable def par (N : Nat) (live : Nat → List Nat) (mv : List Nat) (mask : Nat → List Nat) : Par := ⟨tabF tab, Fn Try.prog, N, live, mv, mask⟩
theorem goodA {N : Nat} {live : Nat → List Nat} {mv : List Nat} {mask : Nat → List Nat} (h : Nat.ble N 1000 = true) : Good Try.prog (par N live mv mask) := ⟨rfl, tokA, eqA, Nat.le_of_ble_eq_true h, zsA, by kernel_rfl⟩
end Go.Sx

/-
  Part of a proof: see the theorems.
-/
import Derived.Test.YtkphcbogdmblnaaSxC
import Derived.Test.YtkphcbogdmblnaaChecked
set_option linter.all false
namespace Go.Sx
open Go.Proofs

def tab : List (Nat × TI) := [
  (3, ⟨1, 8, false, [.i .i64 0], (.int .i64), false⟩),
  (4, ⟨1, 1, false, [.ff], .bool, false⟩),
  (5, ⟨1, 1, false, [.i .u8 0], (.int .u8), false⟩),
  (9, ⟨1, 16, false, [.s []], .str, false⟩),
  (22, ⟨1, 8, false, [.i .u64 0], (.int .u64), false⟩),
  (23, ⟨1, 8, false, [.i .u64 0], (.int .u64), false⟩),
  (25, ⟨6, 48, true, [.i .u64 0, .i .i64 0, .i .i64 0, .i .i64 0, .i .i64 0, .i .i64 0], (.struct [(0, 23), (1, 3), (2, 3), (3, 3), (4, 3), (5, 3)]), true⟩),
  (28, ⟨1, 24, false, [.nl], (.slice 23), false⟩),
  (29, ⟨1, 24, false, [.nl], (.slice 3), false⟩),
  (30, ⟨1, 8, false, [.i .i64 0], (.int .i64), false⟩),
  (35, ⟨1, 24, false, [.nl], (.slice 41), false⟩),
  (36, ⟨1, 24, false, [.nl], (.slice 5), false⟩),
  (39, ⟨1, 2, false, [.i .u16 0], (.int .u16), false⟩),
  (41, ⟨9, 40, true, [.ff, .ff, .ff, .nl, .i .u8 0, .i .u8 0, .i .u8 0, .i .u8 0, .i .u16 0], (.struct [(0, 4), (1, 4), (2, 4), (3, 36), (4, 5), (5, 5), (6, 5), (7, 5), (8, 39)]), false⟩),
  (48, ⟨1, 24, false, [.nl], (.slice 36), false⟩),
  (56, ⟨4, 48, true, [.nl, .i .i64 0, .i .i64 0, .i .i64 0], (.struct [(0, 36), (1, 3), (2, 3), (3, 3)]), false⟩),
  (63, ⟨1, 8, false, [.i .u64 0], (.int .u64), false⟩),
  (76, ⟨1, 8, false, [.np], (.ptr 78), false⟩),
  (78, ⟨4, 40, true, [.nl, .i .i64 0, .ff, .ff], (.struct [(0, 36), (1, 3), (2, 4), (3, 4)]), false⟩),
  (107, ⟨3, 40, true, [.i .i64 0, .i .u64 0, .nl], (.struct [(0, 3), (1, 23), (2, 36)]), false⟩),
  (111, ⟨4, 4, true, [.i .u8 0, .i .u8 0, .i .u8 0, .i .u8 0], (.array 4 5), false⟩)]

theorem tokA : TOk Try.prog (tabF tab) := tok_of (by kernel_rfl)
theorem eqA : ∀ t, (tabF tab t).eq = true → EqTy Try.prog t (tabF tab t).zero := eq_of tokA (by kernel_rfl)
theorem zsA : ∀ t e, (tabF tab t).d = .slice e → idsLs (tabF tab e).zero = [] := zs_of (by kernel_rfl)
noncomputable def nthLL (l : List (List Nat)) : Nat → List Nat :=
  List.rec (motive := fun _ => Nat → List Nat) (fun _ => []) (fun a _ ih n => Nat.rec (motive := fun _ => List Nat) a (fun m _ => ih m) n) l
noncomputable def par (N : Nat) (live : Nat → List Nat) (mv : List Nat) (mask : Nat → List Nat) : Par := ⟨tabF tab, Fn Try.prog, N, live, mv, mask⟩
theorem goodA {N : Nat} {live : Nat → List Nat} {mv : List Nat} {mask : Nat → List Nat} (h : Nat.ble N 1000 = true) : Good Try.prog (par N live mv mask) := ⟨rfl, tokA, eqA, Nat.le_of_ble_eq_true h, zsA, by kernel_rfl⟩
end Go.Sx

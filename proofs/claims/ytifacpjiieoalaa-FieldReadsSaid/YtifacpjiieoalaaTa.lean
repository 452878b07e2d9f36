/-
  Part of a proof: see the theorems.
-/
import Derived.Test.YtifacpjiieoalaaSxC
import Derived.Test.YtifacpjiieoalaaChecked
set_option linter.all false
namespace Go.Sx
open Go.Proofs

def tab : List (Nat × TI) := [
  (3, ⟨1, 8, false, [.i .i64 0], (.int .i64), false⟩),
  (4, ⟨1, 1, false, [.ff], .bool, false⟩),
  (5, ⟨1, 1, false, [.i .u8 0], (.int .u8), false⟩),
  (9, ⟨1, 16, false, [.s []], .str, false⟩),
  (22, ⟨1, 24, false, [.nl], (.slice 5), false⟩),
  (24, ⟨1, 24, false, [.nl], (.slice 3), false⟩),
  (26, ⟨1, 8, false, [.i .i64 0], (.int .i64), false⟩),
  (30, ⟨1, 24, false, [.nl], (.slice 22), false⟩),
  (39, ⟨3, 48, true, [.s [], .s [], .s []], (.struct [(0, 9), (1, 9), (2, 9)]), true⟩),
  (45, ⟨1, 4, false, [.i .u32 0], (.int .u32), false⟩),
  (49, ⟨1, 2, false, [.i .u16 0], (.int .u16), false⟩),
  (64, ⟨1, 24, false, [.nl], (.slice 9), false⟩),
  (78, ⟨1, 8, false, [.i .u64 0], (.int .u64), false⟩),
  (81, ⟨1, 8, false, [.np], (.ptr 9), false⟩),
  (82, ⟨1, 24, false, [.nl], (.slice 81), false⟩),
  (87, ⟨4, 4, true, [.i .u8 0, .i .u8 0, .i .u8 0, .i .u8 0], (.array 4 5), false⟩),
  (88, ⟨1, 8, false, [.i .u64 0], (.int .u64), false⟩)]

theorem tokA : TOk Try.prog (tabF tab) := tok_of (by kernel_rfl)
theorem eqA : ∀ t, (tabF tab t).eq = true → EqTy Try.prog t (tabF tab t).zero := eq_of tokA (by kernel_rfl)
theorem zsA : ∀ t e, (tabF tab t).d = .slice e → idsLs (tabF tab e).zero = [] := zs_of (by kernel_rfl)
noncomputable def nthLL (l : List (List Nat)) : Nat → List Nat :=
  List.rec (motive := fun _ => Nat → List Nat) (fun _ => []) (fun a _ ih n => Nat.rec (motive := fun _ => List Nat) a (fun m _ => ih m) n) l
noncomputable def par (N : Nat) (live : Nat → List Nat) (mv : List Nat) (mask : Nat → List Nat) : Par := ⟨tabF tab, Fn Try.prog, N, live, mv, mask⟩
theorem goodA {N : Nat} {live : Nat → List Nat} {mv : List Nat} {mask : Nat → List Nat} (h : Nat.ble N 1000 = true) : Good Try.prog (par N live mv mask) := ⟨rfl, tokA, eqA, Nat.le_of_ble_eq_true h, zsA, by kernel_rfl⟩
end Go.Sx

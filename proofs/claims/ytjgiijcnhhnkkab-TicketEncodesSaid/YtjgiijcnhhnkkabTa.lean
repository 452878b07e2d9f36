/-
  Part of a proof: see the theorems.
-/
import Derived.Test.YtjgiijcnhhnkkabSxC
import Derived.Test.YtjgiijcnhhnkkabChecked
set_option linter.all false
namespace Go.Sx
open Go.Proofs

def tab : List (Nat × TI) := [
  (3, ⟨1, 8, false, [.i .i64 0], (.int .i64), false⟩),
  (4, ⟨1, 1, false, [.ff], .bool, false⟩),
  (5, ⟨1, 1, false, [.i .u8 0], (.int .u8), false⟩),
  (9, ⟨1, 16, false, [.s []], .str, false⟩),
  (22, ⟨1, 4, false, [.i .u32 0], (.int .u32), false⟩),
  (25, ⟨3, 48, true, [.s [], .s [], .s []], (.struct [(0, 9), (1, 9), (2, 9)]), true⟩),
  (27, ⟨1, 8, false, [.i .u64 0], (.int .u64), false⟩),
  (28, ⟨1, 8, false, [.i .u64 0], (.int .u64), false⟩),
  (31, ⟨10, 128, true, [.s [], .s [], .s [], .s [], .s [], .s [], .i .u64 0, .i .i64 0, .i .i64 0, .i .i64 0], (.struct [(0, 25), (3, 25), (6, 28), (7, 3), (8, 3), (9, 3)]), true⟩),
  (33, ⟨10, 120, true, [.ff, .s [], .s [], .s [], .i .i64 0, .i .u64 0, .i .i64 0, .i .i64 0, .s [], .s []], (.struct [(0, 4), (1, 25), (4, 3), (5, 28), (6, 3), (7, 3), (8, 9), (9, 9)]), true⟩),
  (37, ⟨1, 24, false, [.nl], (.slice 40), false⟩),
  (38, ⟨1, 24, false, [.nl], (.slice 5), false⟩),
  (40, ⟨5, 64, true, [.s [], .s [], .s [], .i .i64 0, .i .u64 0], (.struct [(0, 25), (3, 3), (4, 28)]), true⟩),
  (43, ⟨1, 24, false, [.nl], (.slice 37), false⟩),
  (44, ⟨1, 24, false, [.nl], (.slice 25), false⟩),
  (45, ⟨1, 24, false, [.nl], (.slice 3), false⟩),
  (49, ⟨1, 8, false, [.i .i64 0], (.int .i64), false⟩),
  (55, ⟨1, 24, false, [.nl], (.slice 63), false⟩),
  (57, ⟨4, 72, true, [.s [], .s [], .s [], .nl], (.struct [(0, 25), (3, 55)]), false⟩),
  (63, ⟨8, 104, true, [.s [], .s [], .s [], .i .u64 0, .i .i64 0, .i .i64 0, .i .i64 0, .nl], (.struct [(0, 25), (3, 28), (4, 3), (5, 3), (6, 3), (7, 38)]), false⟩),
  (68, ⟨1, 24, false, [.nl], (.slice 57), false⟩),
  (70, ⟨1, 8, false, [.np], (.ptr 72), false⟩),
  (72, ⟨2, 32, true, [.nl, .i .i64 0], (.struct [(0, 38), (1, 3)]), false⟩),
  (80, ⟨3, 24, true, [.i .i64 0, .i .i64 0, .i .i64 0], (.struct [(0, 3), (1, 3), (2, 3)]), true⟩),
  (81, ⟨1, 2, false, [.i .u16 0], (.int .u16), false⟩),
  (82, ⟨1, 24, false, [.nl], (.slice 80), false⟩),
  (87, ⟨1, 24, false, [.nl], (.slice 38), false⟩),
  (94, ⟨1, 24, false, [.nl], (.slice 33), false⟩),
  (102, ⟨6, 80, true, [.ff, .ff, .i .i64 0, .s [], .nl, .nl], (.struct [(0, 4), (1, 4), (2, 3), (3, 9), (4, 38), (5, 38)]), false⟩),
  (104, ⟨6, 56, true, [.ff, .ff, .i .u8 0, .i .u8 0, .nl, .nl], (.struct [(0, 4), (1, 4), (2, 5), (3, 5), (4, 38), (5, 38)]), false⟩),
  (107, ⟨1, 24, false, [.nl], (.slice 102), false⟩),
  (112, ⟨10, 128, true, [.ff, .ff, .i .i64 0, .s [], .nl, .nl, .i .i64 0, .i .i64 0, .s [], .s []], (.struct [(0, 102), (6, 3), (7, 3), (8, 9), (9, 9)]), false⟩),
  (117, ⟨1, 24, false, [.nl], (.slice 112), false⟩),
  (122, ⟨1, 24, false, [.nl], (.slice 9), false⟩),
  (130, ⟨4, 56, true, [.s [], .s [], .s [], .i .i64 0], (.struct [(0, 25), (3, 3)]), true⟩),
  (161, ⟨1, 8, false, [.i .u64 0], (.int .u64), false⟩),
  (162, ⟨1, 8, false, [.np], (.ptr 164), false⟩),
  (164, ⟨4, 40, true, [.nl, .i .i64 0, .ff, .ff], (.struct [(0, 38), (1, 3), (2, 4), (3, 4)]), false⟩),
  (189, ⟨1, 8, false, [.np], (.ptr 9), false⟩),
  (190, ⟨1, 24, false, [.nl], (.slice 189), false⟩),
  (194, ⟨4, 4, true, [.i .u8 0, .i .u8 0, .i .u8 0, .i .u8 0], (.array 4 5), false⟩)]

theorem tokA : TOk Try.prog (tabF tab) := tok_of (by kernel_rfl)
theorem eqA : ∀ t, (tabF tab t).eq = true → EqTy Try.prog t (tabF tab t).zero := eq_of tokA (by kernel_rfl)
theorem zsA : ∀ t e, (tabF tab t).d = .slice e → idsLs (tabF tab e).zero = [] := zs_of (by kernel_rfl)
noncomputable def nthLL (l : List (List Nat)) : Nat → List Nat :=
  List.rec (motive := fun _ => Nat → List Nat) (fun _ => []) (fun a _ ih n => Nat.rec (motive := fun _ => List Nat) a (fun m _ => ih m) n) l
noncomputable def par (N : Nat) (live : Nat → List Nat) (mv : List Nat) (mask : Nat → List Nat) : Par := ⟨tabF tab, Fn Try.prog, N, live, mv, mask⟩
theorem goodA {N : Nat} {live : Nat → List Nat} {mv : List Nat} {mask : Nat → List Nat} (h : Nat.ble N 1000 = true) : Good Try.prog (par N live mv mask) := ⟨rfl, tokA, eqA, Nat.le_of_ble_eq_true h, zsA, by kernel_rfl⟩
end Go.Sx

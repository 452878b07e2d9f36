/-
  Part of a proof: see the theorems.
-/
import Derived.Test.YtmacgikbcednmabGreatSxC
import Derived.Test.YtmacgikbcednmabGreatChecked
set_option linter.all false
namespace Go.Sx
open Go.Proofs

def tab : List (Nat × TI) := [
  (3, ⟨1, 8, false, [.i .i64 0], (.int .i64), false⟩),
  (4, ⟨1, 1, false, [.ff], .bool, false⟩),
  (5, ⟨1, 1, false, [.i .u8 0], (.int .u8), false⟩),
  (9, ⟨1, 16, false, [.s []], .str, false⟩),
  (22, ⟨1, 2, false, [.i .u16 0], (.int .u16), false⟩),
  (24, ⟨8, 12, true, [.i .u8 0, .i .u8 0, .i .u8 0, .i .u8 0, .i .u16 0, .i .u16 0, .i .u8 0, .i .u16 0], (.struct [(0, 5), (1, 5), (2, 5), (3, 5), (4, 22), (5, 22), (6, 5), (7, 22)]), true⟩),
  (26, ⟨1, 24, false, [.nl], (.slice 65), false⟩),
  (28, ⟨2, 40, true, [.s [], .nl], (.struct [(0, 9), (1, 26)]), false⟩),
  (30, ⟨1, 24, false, [.nl], (.slice 5), false⟩),
  (32, ⟨3, 48, true, [.s [], .s [], .s []], (.struct [(0, 9), (1, 9), (2, 9)]), true⟩),
  (33, ⟨1, 8, false, [.i .u64 0], (.int .u64), false⟩),
  (34, ⟨1, 8, false, [.i .u64 0], (.int .u64), false⟩),
  (36, ⟨16, 216, true, [.i .i64 0, .s [], .s [], .s [], .s [], .s [], .s [], .s [], .s [], .s [], .i .u64 0, .i .u64 0, .i .u64 0, .nl, .i .i64 0, .i .i64 0], (.struct [(0, 3), (1, 32), (4, 32), (7, 32), (10, 34), (11, 34), (12, 34), (13, 30), (14, 3), (15, 3)]), false⟩),
  (41, ⟨5, 80, true, [.i .i64 0, .s [], .s [], .s [], .nl], (.struct [(0, 3), (1, 32), (4, 30)]), false⟩),
  (42, ⟨1, 8, false, [.i .i64 0], (.int .i64), false⟩),
  (49, ⟨8, 104, true, [.i .u64 0, .s [], .s [], .s [], .i .i64 0, .i .i64 0, .nl, .i .i64 0], (.struct [(0, 34), (1, 32), (4, 3), (5, 3), (6, 30), (7, 3)]), false⟩),
  (53, ⟨10, 120, true, [.ff, .s [], .s [], .s [], .i .i64 0, .i .u64 0, .i .i64 0, .i .i64 0, .s [], .s []], (.struct [(0, 4), (1, 32), (4, 3), (5, 34), (6, 3), (7, 3), (8, 9), (9, 9)]), true⟩),
  (56, ⟨1, 24, false, [.nl], (.slice 34), false⟩),
  (60, ⟨10, 128, true, [.s [], .s [], .s [], .s [], .s [], .s [], .i .u64 0, .i .i64 0, .i .i64 0, .i .i64 0], (.struct [(0, 32), (3, 32), (6, 34), (7, 3), (8, 3), (9, 3)]), true⟩),
  (63, ⟨1, 24, false, [.nl], (.slice 32), false⟩),
  (65, ⟨9, 88, true, [.s [], .s [], .i .u64 0, .i .i64 0, .i .i64 0, .i .i64 0, .i .i64 0, .i .i64 0, .i .i64 0], (.struct [(0, 9), (1, 9), (2, 34), (3, 3), (4, 3), (5, 3), (6, 3), (7, 3), (8, 3)]), true⟩),
  (79, ⟨1, 8, false, [.np], (.ptr 81), false⟩),
  (81, ⟨4, 40, true, [.nl, .i .i64 0, .ff, .ff], (.struct [(0, 30), (1, 3), (2, 4), (3, 4)]), false⟩),
  (86, ⟨3, 40, true, [.i .i64 0, .i .u64 0, .nl], (.struct [(0, 3), (1, 34), (2, 30)]), false⟩),
  (93, ⟨1, 24, false, [.nl], (.slice 9), false⟩),
  (112, ⟨1, 8, false, [.i .u64 0], (.int .u64), false⟩),
  (115, ⟨1, 24, false, [.nl], (.slice 3), false⟩),
  (130, ⟨3, 40, true, [.nl, .i .i64 0, .ff], (.struct [(0, 30), (1, 3), (2, 4)]), false⟩),
  (146, ⟨1, 8, false, [.np], (.ptr 130), false⟩),
  (150, ⟨1, 24, false, [.nl], (.slice 30), false⟩),
  (152, ⟨1, 8, false, [.np], (.ptr 9), false⟩),
  (153, ⟨1, 24, false, [.nl], (.slice 152), false⟩),
  (155, ⟨4, 4, true, [.i .u8 0, .i .u8 0, .i .u8 0, .i .u8 0], (.array 4 5), false⟩)]

theorem tokA : TOk Tryz.prog (tabF tab) := tok_of (by kernel_rfl)
theorem eqA : ∀ t, (tabF tab t).eq = true → EqTy Tryz.prog t (tabF tab t).zero := eq_of tokA (by kernel_rfl)
theorem zsA : ∀ t e, (tabF tab t).d = .slice e → idsLs (tabF tab e).zero = [] := zs_of (by kernel_rfl)
noncomputable def nthLL (l : List (List Nat)) : Nat → List Nat :=
  List.rec (motive := fun _ => Nat → List Nat) (fun _ => []) (fun a _ ih n => Nat.rec (motive := fun _ => List Nat) a (fun m _ => ih m) n) l
noncomputable def par (N : Nat) (live : Nat → List Nat) (mv : List Nat) (mask : Nat → List Nat) : Par := ⟨tabF tab, Fn Tryz.prog, N, live, mv, mask⟩
theorem goodA {N : Nat} {live : Nat → List Nat} {mv : List Nat} {mask : Nat → List Nat} (h : Nat.ble N 1000 = true) : Good Tryz.prog (par N live mv mask) := ⟨rfl, tokA, eqA, Nat.le_of_ble_eq_true h, zsA, by kernel_rfl⟩
end Go.Sx

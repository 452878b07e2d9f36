/-
  Part of a proof: see the theorems.
-/
import Derived.Test.YtmacgikbcednmacGreatSxC
import Derived.Test.YtmacgikbcednmacGreatChecked
set_option linter.all false
namespace Go.Sx
open Go.Proofs

def tab : List (Nat × TI) := [
  (3, ⟨1, 8, false, [.i .i64 0], (.int .i64), false⟩),
  (4, ⟨1, 1, false, [.ff], .bool, false⟩),
  (5, ⟨1, 1, false, [.i .u8 0], (.int .u8), false⟩),
  (9, ⟨1, 16, false, [.s []], .str, false⟩),
  (22, ⟨1, 2, false, [.i .u16 0], (.int .u16), false⟩),
  (24, ⟨8, 12, true, [.i .u8 0, .i .u8 0, .i .u8 0, .i .u8 0, .i .u16 0, .i .u16 0, .i .u8 0, .i .u16 0], (.struct [(0, 5), (1, 5), (2, 5), (3, 5), (4, 22), (5, 22), (6, 5), (7, 22)]), true⟩),
  (25, ⟨1, 24, false, [.nl], (.slice 5), false⟩),
  (27, ⟨3, 48, true, [.s [], .s [], .s []], (.struct [(0, 9), (1, 9), (2, 9)]), true⟩),
  (28, ⟨1, 8, false, [.i .u64 0], (.int .u64), false⟩),
  (29, ⟨1, 8, false, [.i .u64 0], (.int .u64), false⟩),
  (31, ⟨7, 96, true, [.s [], .s [], .s [], .i .u64 0, .i .i64 0, .i .i64 0, .nl], (.struct [(0, 27), (3, 29), (4, 3), (5, 3), (6, 25)]), false⟩),
  (34, ⟨1, 8, false, [.i .i64 0], (.int .i64), false⟩),
  (38, ⟨1, 24, false, [.nl], (.slice 25), false⟩),
  (39, ⟨1, 24, false, [.nl], (.slice 69), false⟩),
  (41, ⟨2, 40, true, [.s [], .nl], (.struct [(0, 9), (1, 39)]), false⟩),
  (44, ⟨1, 24, false, [.nl], (.slice 41), false⟩),
  (45, ⟨1, 24, false, [.nl], (.slice 3), false⟩),
  (47, ⟨16, 216, true, [.i .i64 0, .s [], .s [], .s [], .s [], .s [], .s [], .s [], .s [], .s [], .i .u64 0, .i .u64 0, .i .u64 0, .nl, .i .i64 0, .i .i64 0], (.struct [(0, 3), (1, 27), (4, 27), (7, 27), (10, 29), (11, 29), (12, 29), (13, 25), (14, 3), (15, 3)]), false⟩),
  (55, ⟨10, 128, true, [.s [], .s [], .s [], .s [], .s [], .s [], .i .u64 0, .i .i64 0, .i .i64 0, .i .i64 0], (.struct [(0, 27), (3, 27), (6, 29), (7, 3), (8, 3), (9, 3)]), true⟩),
  (57, ⟨10, 120, true, [.ff, .s [], .s [], .s [], .i .i64 0, .i .u64 0, .i .i64 0, .i .i64 0, .s [], .s []], (.struct [(0, 4), (1, 27), (4, 3), (5, 29), (6, 3), (7, 3), (8, 9), (9, 9)]), true⟩),
  (60, ⟨1, 24, false, [.nl], (.slice 27), false⟩),
  (63, ⟨5, 80, true, [.i .i64 0, .s [], .s [], .s [], .nl], (.struct [(0, 3), (1, 27), (4, 25)]), false⟩),
  (64, ⟨1, 24, false, [.nl], (.slice 29), false⟩),
  (69, ⟨9, 88, true, [.s [], .s [], .i .u64 0, .i .i64 0, .i .i64 0, .i .i64 0, .i .i64 0, .i .i64 0, .i .i64 0], (.struct [(0, 9), (1, 9), (2, 29), (3, 3), (4, 3), (5, 3), (6, 3), (7, 3), (8, 3)]), true⟩),
  (70, ⟨1, 8, false, [.np], (.ptr 72), false⟩),
  (72, ⟨2, 32, true, [.nl, .i .i64 0], (.struct [(0, 25), (1, 3)]), false⟩),
  (91, ⟨8, 104, true, [.i .u64 0, .s [], .s [], .s [], .i .i64 0, .i .i64 0, .nl, .i .i64 0], (.struct [(0, 29), (1, 27), (4, 3), (5, 3), (6, 25), (7, 3)]), false⟩),
  (92, ⟨1, 24, false, [.nl], (.slice 9), false⟩),
  (107, ⟨1, 8, false, [.i .u64 0], (.int .u64), false⟩),
  (114, ⟨1, 8, false, [.np], (.ptr 116), false⟩),
  (116, ⟨4, 40, true, [.nl, .i .i64 0, .ff, .ff], (.struct [(0, 25), (1, 3), (2, 4), (3, 4)]), false⟩),
  (122, ⟨3, 40, true, [.i .i64 0, .i .u64 0, .nl], (.struct [(0, 3), (1, 29), (2, 25)]), false⟩),
  (134, ⟨3, 40, true, [.nl, .i .i64 0, .ff], (.struct [(0, 25), (1, 3), (2, 4)]), false⟩),
  (151, ⟨4, 4, true, [.i .u8 0, .i .u8 0, .i .u8 0, .i .u8 0], (.array 4 5), false⟩),
  (153, ⟨1, 8, false, [.np], (.ptr 134), false⟩),
  (160, ⟨1, 8, false, [.np], (.ptr 9), false⟩),
  (161, ⟨1, 24, false, [.nl], (.slice 160), false⟩)]

theorem tokA : TOk Tryz.prog (tabF tab) := tok_of (by kernel_rfl)
theorem eqA : ∀ t, (tabF tab t).eq = true → EqTy Tryz.prog t (tabF tab t).zero := eq_of tokA (by kernel_rfl)
theorem zsA : ∀ t e, (tabF tab t).d = .slice e → idsLs (tabF tab e).zero = [] := zs_of (by kernel_rfl)
noncomputable def nthLL (l : List (List Nat)) : Nat → List Nat :=
  List.rec (motive := fun _ => Nat → List Nat) (fun _ => []) (fun a _ ih n => Nat.rec (motive := fun _ => List Nat) a (fun m _ => ih m) n) l
noncomputable def par (N : Nat) (live : Nat → List Nat) (mv : List Nat) (mask : Nat → List Nat) : Par := ⟨tabF tab, Fn Tryz.prog, N, live, mv, mask⟩
theorem goodA {N : Nat} {live : Nat → List Nat} {mv : List Nat} {mask : Nat → List Nat} (h : Nat.ble N 1000 = true) : Good Tryz.prog (par N live mv mask) := ⟨rfl, tokA, eqA, Nat.le_of_ble_eq_true h, zsA, by kernel_rfl⟩
end Go.Sx

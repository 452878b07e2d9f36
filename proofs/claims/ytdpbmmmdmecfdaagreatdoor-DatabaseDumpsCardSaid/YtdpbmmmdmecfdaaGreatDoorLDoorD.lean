/-
  What the program lays before the law is called: tables and errors of the library stand in the heap at the door: no conditions.
-/
import Derived.Test.YtdpbmmmdmecfdaaGreatDoorLOwn
import Derived.Test.YtdpbmmmdmecfdaaGreatDoorTie
import Derived.Test.YtdpbmmmdmecfdaaGreatDoorCards
import Derived.LaidMore
import Derived.SevenTiedAt
import Derived.Stop.Joined
import Derived.Stop.LaidErr
import Derived.Lib.LaidTab
import Derived.Lay
import Derived.LaidOnce
set_option linter.all false
namespace Go.Sx
open Go.Proofs Go.ChangeShapes Go.WideShapes Go.ChangeAt Go.RowKit
def laidA : List (String × DataW Unit) := [("math/bits.deBruijn32tab", Go.Proofs.YtdpbmmmdmecfdaaGreatDoor.Rows.laid_math_bits_deBruijn32tab), ("math/bits.deBruijn64tab", Go.Proofs.YtdpbmmmdmecfdaaGreatDoor.Rows.laid_math_bits_deBruijn64tab), ("internal/strconv.uint64pow10", Go.Proofs.YtdpbmmmdmecfdaaGreatDoor.Rows.laid_internal_strconv_uint64pow10), ("unicode/utf8.acceptRanges", Go.Proofs.YtdpbmmmdmecfdaaGreatDoor.Rows.laid_unicode_utf8_acceptRanges), ("strconv.ErrRange", Go.Proofs.YtdpbmmmdmecfdaaGreatDoor.Rows.laid_strconv_ErrRange), ("strconv.ErrSyntax", Go.Proofs.YtdpbmmmdmecfdaaGreatDoor.Rows.laid_strconv_ErrSyntax), ("unicode/utf8.first", Go.Proofs.YtdpbmmmdmecfdaaGreatDoor.Rows.laid_unicode_utf8_first)]
set_option maxRecDepth 100000 in
theorem door_metA (os : Os) (args : Array Value) : laidMetH Tryz.prog laidA ((World.laidAll Tryz.prog os laidA).forCall (fun _ _ => 0) ⟨#[], args, []⟩).memory := by
  rw [MakeChecks.laidMetH_plain _ _ _ (by kernel_rfl)]
  exact laidMet_laidAll _ (by kernel_rfl) (by kernel_rfl)
theorem var_block {w : World} {n : String} {g : Nat} (hg : Tryz.prog.globalNamed n = some g) {cs : Array Value} (h : w.var? Tryz.prog n = some cs) : ∃ t f, w.heap[g]? = some (.cells cs t f) := by
  unfold World.var? at h
  rw [hg] at h
  simp only [Option.bind_some] at h
  split at h
  · rename_i c t f hb
    cases h
    exact ⟨t, f, hb⟩
  · cases h
theorem starA : "*" ++ "errors.errorString" = "*errors.errorString" := by decide
theorem rowA (u : TypeId) (h : Tryz.prog.typeName? 3 u = some "*errors.errorString") : u = 138 :=
  typeName_ptr_named (nm := "errors.errorString") (by rw [starA]; kernel_rfl) (by kernel_rfl) (by decide) u (by rw [starA]; exact h)
theorem cellsE : Tryz.prog.cellsOf 140 = 1 := by kernel_rfl
theorem cellsS : Tryz.prog.cellsOf 9 = 1 := by kernel_rfl
theorem pow_data : Go.Lib.tabData .u64 Go.Lib.pow10Tab = (Go.Proofs.YtdpbmmmdmecfdaaGreatDoor.Rows.laid_internal_strconv_uint64pow10 : DataW Unit) := by kernel_rfl
set_option maxRecDepth 100000 in
theorem gw_laid {W : World} (h : laidMetH Tryz.prog laidA W) : ∀ b, Gl.S Tryz.prog b → ∃ o, W.heap[b]? = some o ∧ Gl.ok Tryz.prog b o := by
  rw [MakeChecks.laidMetH_plain _ _ _ (by kernel_rfl)] at h
  have h2 : laidMet Tryz.prog (("internal/strconv.uint64pow10", Go.Lib.tabData .u64 Go.Lib.pow10Tab) :: laidA.drop 3) W := by rw [pow_data]; exact h.tail.tail
  have g0 : Tryz.prog.globalNamed "internal/strconv.uint64pow10" = some 0 := by kernel_rfl
  have g2 : Tryz.prog.globalNamed "strconv.ErrSyntax" = some 2 := by kernel_rfl
  have g3 : Tryz.prog.globalNamed "strconv.ErrRange" = some 3 := by kernel_rfl
  have t0 := Go.Lib.tabIs_of_head g0 (t := 111) (by kernel_rfl) Tryz.underlying111 Tryz.underlying41 (by kernel_rfl) (by kernel_rfl) h2
  obtain ⟨a0, s0, hv0, -, -, -⟩ := laid_sentinel h2.tail.tail g3 (ti := 58) (by kernel_rfl) Tryz.underlying58 rowA Tryz.underlying138 Tryz.underlying140 rfl rfl Tryz.underlying9 cellsE cellsS
  obtain ⟨a1, s1, hv1, -, -, -⟩ := laid_sentinel h2.tail.tail.tail g2 (ti := 58) (by kernel_rfl) Tryz.underlying58 rowA Tryz.underlying138 Tryz.underlying140 rfl rfl Tryz.underlying9 cellsE cellsS
  obtain ⟨t, f, k0⟩ := var_block g0 t0
  obtain ⟨t', f', k3⟩ := var_block g3 hv0
  obtain ⟨t'', f'', k2⟩ := var_block g2 hv1
  intro b hb
  rcases hb with rfl | rfl | rfl
  · exact ⟨_, k0, t, f, rfl⟩
  · exact ⟨_, k2, _, _, _, _, rfl, rfl, .inr ⟨_, _, rfl⟩⟩
  · exact ⟨_, k3, _, _, _, _, rfl, rfl, .inr ⟨_, _, rfl⟩⟩
end Go.Sx

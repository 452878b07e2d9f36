/-
  What database.readEntry calls: Split at a tab, ParseUint, Atoi, as one contract each.
-/
import Derived.Test.YtdpbmmmdmecfdaaGreatDoorCDumpH
import Derived.Test.YtdpbmmmdmecfdaaGreatDoorCDumpP
import Derived.Lib.IndexBytes
import Derived.Shelf.Strings.SplitCore
import Derived.Lib.SplitLaws
set_option linter.all false
namespace Go.Sx
open Go.Proofs Go.RowKit
set_option maxHeartbeats 1000000 in
set_option maxRecDepth 100000 in
theorem Tryz.splitTab (s : List UInt8) (hs : s.length ≤ 80000) (w : World) : Calls Tryz.prog 45 #[.string ⟨⟨s⟩⟩, .string ⟨#[9]⟩] w fun e w' =>
    e = .returned (.slice (some ⟨w.heap.size, 0, none⟩) (spl 9 s).length (spl 9 s).length) ∧ w' = w.alloc (.cells ((spl 9 s).map fun p => Value.string ⟨⟨p⟩⟩).toArray 9) := by
  have h1 : 1 ≤ (⟨#[9]⟩ : ByteArray).size := by decide
  have hsz : (⟨⟨s⟩⟩ : ByteArray).size = s.length := rfl
  have hle := Lib.countB_le ⟨#[9]⟩ h1 _ ⟨⟨s⟩⟩ (Nat.le_refl _)
  have hlen := Lib.splitB_all ⟨#[9]⟩ h1 0 _ ⟨⟨s⟩⟩ rfl
  have c := Any.strings_genSplit_core Tryz.lays221 (by kernel_rfl) ⟨⟨s⟩⟩ ⟨#[9]⟩ 0 (-1) (Lib.countB ⟨⟨s⟩⟩ ⟨#[9]⟩ + 1) w (by rw [hsz]; omega) h1 (Nat.zero_le _)
    (fun x c hx => (Any.strings_Index_one { Tryz.lays221 with } x 9 _).mono fun e w' ⟨he, hw⟩ => ⟨by rw [he]; show _ = Ending.returned (Value.int .i64 (Lib.index x.data.toList [9])); rw [Lib.index_one], hw⟩)
    ((Any.strings_Count_one { Tryz.lays221 with } ⟨⟨s⟩⟩ 9 w).mono fun e w' ⟨he, hw⟩ => ⟨by rw [he]; show _ = Ending.returned (Value.int .i64 ((Lib.count s [9] : Nat) : Int)); rw [Lib.count_one]; rfl, hw⟩)
    (by decide) (by decide) (by rw [if_pos (by decide)]; omega)
  rw [Nat.add_sub_cancel, hlen] at c
  have e2 : Lib.cellsOf (Lib.splitB ⟨#[9]⟩ 0 (Lib.countB ⟨⟨s⟩⟩ ⟨#[9]⟩) ⟨⟨s⟩⟩) (Lib.countB ⟨⟨s⟩⟩ ⟨#[9]⟩ + 1) = ((Lib.splitB ⟨#[9]⟩ 0 (Lib.countB ⟨⟨s⟩⟩ ⟨#[9]⟩) ⟨⟨s⟩⟩).map Value.string).toArray := by rw [← hlen]; exact Lib.cellsOf_full _
  rw [e2] at c
  have hspl := splitB_spl 9 s
  have e3 : (spl 9 s).map (fun p => Value.string ⟨⟨p⟩⟩) = (Lib.splitB ⟨#[9]⟩ 0 (Lib.countB ⟨⟨s⟩⟩ ⟨#[9]⟩) ⟨⟨s⟩⟩).map Value.string := by
    rw [← hspl, List.map_map]
    rfl
  have e4 : (spl 9 s).length = Lib.countB ⟨⟨s⟩⟩ ⟨#[9]⟩ + 1 := by rw [← hspl, List.length_map, hlen]
  rw [e3, e4]
  generalize Lib.countB ⟨⟨s⟩⟩ ⟨#[9]⟩ = N at *
  go_enter Tryz.func45, Tryz.ntmps45
  go_wp2_with (go_at_call 68; refine c.mono ?_; rintro e w' ⟨rfl, hw⟩; rw [hw])
  go_ret
  exact ⟨rfl, rfl⟩
theorem GW.err2 {w : World} (h : GW Tryz.prog w) : ∃ ev, w.cell? ⟨2, 0, none⟩ = some ev ∧ (ev = .nilIface ∨ ∃ te pe, ev = .iface te pe) := by
  obtain ⟨o, h1, cs, t, f, ev, rfl, h2, h3⟩ := h 2 (.inr (.inl rfl))
  exact ⟨ev, by rw [Lib.cell_of_heap h1]; exact h2, h3⟩
theorem GW.err3 {w : World} (h : GW Tryz.prog w) : ∃ ev, w.cell? ⟨3, 0, none⟩ = some ev ∧ (ev = .nilIface ∨ ∃ te pe, ev = .iface te pe) := by
  obtain ⟨o, h1, cs, t, f, ev, rfl, h2, h3⟩ := h 3 (.inr (.inr rfl))
  exact ⟨ev, by rw [Lib.cell_of_heap h1]; exact h2, h3⟩
theorem below_bytes (w : World) (e : TypeId) (t : ByteArray) : Below w.heap.size w (Lib.bytesWorld w e t) := by
  unfold Lib.bytesWorld
  exact Lib.below_freeze ((Below.refl w.heap.size w).drew.alloc (Nat.le_refl _) _) (p := ⟨w.heap.size, (Lib.bytesCells w e t).size, none⟩) (Nat.le_refl _) _
theorem Tryz.parseU (s : List UInt8) (hs : s.length ≤ 80000) (w : World) (hg : GW Tryz.prog w) : Calls Tryz.prog 46 #[.string ⟨⟨s⟩⟩, .int .i64 10, .int .i64 64] w fun e w' =>
    ∃ (v : Int) (er : Value), e = .returned (.tuple #[.int .u64 v, er]) ∧ Below w.heap.size w w' ∧ ((∃ u, natE (Lib.parseUintB 64 s) = some u ∧ v = u ∧ er = .nilIface) ∨ (natE (Lib.parseUintB 64 s) = none ∧ ∃ a, er = .iface 121 (.pointer (some a)))) := by
  have hsz : (⟨⟨s⟩⟩ : ByteArray).size = s.length := rfl
  obtain ⟨ev2, h2, h2'⟩ := hg.err2
  obtain ⟨ev3, h3, h3'⟩ := hg.err3
  cases h : Lib.parseUintB 64 s
  · rename_i u
    refine (Tryz.strconv_ParseUint_10_at64_ok ⟨⟨s⟩⟩ (by rw [hsz]; omega) u h w).mono ?_
    rintro e w' ⟨rfl, hw⟩
    refine ⟨u, .nilIface, rfl, ?_, .inl ⟨u, rfl, rfl, rfl⟩⟩
    rcases hw with rfl | rfl
    · exact Below.refl _ _
    · exact below_bytes _ _ _
  · refine (Tryz.strconv_ParseUint_10_at64_syntax ⟨⟨s⟩⟩ (by rw [hsz]; omega) (fun v hv => by rw [h] at hv; cases hv) (fun hv => by rw [h] at hv; cases hv) ev2 w h2 h2').mono ?_
    rintro e w' ⟨N, rfl, _, _, hb⟩
    exact ⟨_, _, rfl, hb, .inr ⟨rfl, _, rfl⟩⟩
  · refine (Tryz.strconv_ParseUint_10_at64_range ⟨⟨s⟩⟩ (by rw [hsz]; omega) h ev3 w h3 h3').mono ?_
    rintro e w' ⟨N, rfl, _, _, hb⟩
    exact ⟨_, _, rfl, hb, .inr ⟨rfl, _, rfl⟩⟩
theorem Tryz.atoiA (s : List UInt8) (hs : s.length ≤ 80000) (w : World) (hg : GW Tryz.prog w) : Calls Tryz.prog 47 #[.string ⟨⟨s⟩⟩] w fun e w' =>
    ∃ (v : Int) (er : Value), e = .returned (.tuple #[.int .i64 v, er]) ∧ Below w.heap.size w w' ∧ ((intE (Lib.atoiAll s) = some v ∧ er = .nilIface) ∨ (intE (Lib.atoiAll s) = none ∧ ∃ a, er = .iface 121 (.pointer (some a)))) := by
  have hsz : (⟨⟨s⟩⟩ : ByteArray).size = s.length := rfl
  obtain ⟨ev2, h2, h2'⟩ := hg.err2
  obtain ⟨ev3, h3, h3'⟩ := hg.err3
  cases h : Lib.atoiAll s
  · rename_i v
    refine (Tryz.strconv_Atoi_ok ⟨⟨s⟩⟩ (by rw [hsz]; omega) v h w).mono ?_
    rintro e w' ⟨rfl, hw⟩
    refine ⟨v, .nilIface, rfl, ?_, .inl ⟨rfl, rfl⟩⟩
    rcases hw with rfl | ⟨t, rfl⟩
    · exact Below.refl _ _
    · exact below_bytes _ _ _
  · refine (Tryz.strconv_Atoi_syntax ⟨⟨s⟩⟩ (by rw [hsz]; omega) (fun v hv => by rw [h] at hv; cases hv) (fun hv => by rw [h] at hv; cases hv) ev2 w h2 h2').mono ?_
    rintro e w' ⟨N, rfl, _, _, hb⟩
    exact ⟨_, _, rfl, hb, .inr ⟨rfl, _, rfl⟩⟩
  · refine (Tryz.strconv_Atoi_range ⟨⟨s⟩⟩ (by rw [hsz]; omega) h ev3 w h3 h3').mono ?_
    rintro e w' ⟨N, rfl, _, _, hb⟩
    exact ⟨_, _, rfl, hb, .inr ⟨rfl, _, rfl⟩⟩
end Go.Sx

/-
  The statement DatabaseDumps: the law returns true for every input; the library's tables and errors stand as the program lays them.
-/
import Derived.Test.YtdpbmmmdmecfdaaGreatDoorCDumpX
import Derived.Test.YtdpbmmmdmecfdaaGreatDoorCDumpJ
import Derived.Test.YtdpbmmmdmecfdaaGreatDoorCDumpM
import Derived.Test.YtdpbmmmdmecfdaaGreatDoorLDoorD
set_option linter.all false
namespace Go.Sx
open Go.Proofs Go.RowKit
set_option maxRecDepth 100000 in
theorem c_DatabaseDumps (r : List UInt8) (rows : List (List L)) (hrows : ∀ r ∈ rows, Typ (tabF tab) 45 r) (l text : List UInt8) (how : Int) (hh : 0 ≤ how ∧ how ≤ 65535) (parts : List UInt8) : Fn Tryz.prog 3 [.a [.s r, .sl rows.flatten rows.length], .o (.sl (l.map u8) l.length), .o (.s text), .o (.i .u16 how), .o (.sl (parts.map u8) parts.length)] [] (.one (.c (.o (.b true)))) [] :=
  c_DatabaseDumpsP c_readEntry c_Dump r rows hrows l text how hh parts
end Go.Sx
namespace Go.Proofs.YtdpbmmmdmecfdaaGreatDoor
open Go.ChangeShapes Go.WideShapes Go.ChangeAt Go.RowKit Go.Sx
namespace DatabaseDumpsProof
set_option maxRecDepth 100000 in
theorem walk (W : World) (v0 v1 v2 v3 v4 : Value) (ls0 ls1 ls2 ls3 ls4 : List L)
    (t0 : Typ (tabF tab) 24 ls0) (t1 : Typ (tabF tab) 25 ls1) (t2 : Typ (tabF tab) 9 ls2) (t3 : Typ (tabF tab) 26 ls3) (t4 : Typ (tabF tab) 25 ls4)
    (r0 : RelC (fun _ => False) W noMu (argC (tabF tab 24).agg ls0) v0) (r1 : RelC (fun _ => False) W noMu (argC (tabF tab 25).agg ls1) v1) (r2 : RelC (fun _ => False) W noMu (argC (tabF tab 9).agg ls2) v2) (r3 : RelC (fun _ => False) W noMu (argC (tabF tab 26).agg ls3) v3) (r4 : RelC (fun _ => False) W noMu (argC (tabF tab 25).agg ls4) v4) (hL : laidMetH Tryz.prog laidA W) :
    Calls Tryz.prog 3 #[v0, v1, v2, v3, v4] W fun e w' => e = .returned (.bool true) ∧ Below W.heap.size W w' := by
  obtain ⟨partsa0, rfl, hla0, hpa0⟩ := typ_struct t0 rfl
  obtain ⟨qa0_0, qa0_1, rfl⟩ : ∃ qa0_0 qa0_1, partsa0 = [qa0_0, qa0_1] := by
    match partsa0, hla0 with
    | [qa0_0, qa0_1], _ => exact ⟨qa0_0, qa0_1, rfl⟩
  have ta0_0 := hpa0 0 _ qa0_0 rfl rfl
  obtain ⟨a0_0, rfl, wa0_0⟩ := typ_strB ta0_0 rfl
  have ta0_1 := hpa0 1 _ qa0_1 rfl rfl
  obtain ⟨a0_1, rfl, wa0_1⟩ := typ_slice ta0_1 rfl
  obtain ⟨a1, rfl, wa1⟩ := typ_bytesB t1 rfl rfl
  obtain ⟨a2, rfl, wa2⟩ := typ_strB t2 rfl
  obtain ⟨a3, rfl, wa3⟩ := typ_int t3 rfl
  obtain ⟨a4, rfl, wa4⟩ := typ_bytesB t4 rfl rfl
  exact calls_of_fn Tryz.func3 rfl rfl (c_DatabaseDumps a0_0 a0_1 wa0_1 a1 a2 a3 (wf_u16 wa3) a4) (relCs_cons r0 (relCs_cons r1 (relCs_cons r2 (relCs_cons r3 (relCs_cons r4 relCs_nil))))) (gw_laid hL)

set_option maxRecDepth 100000 in
theorem lifted (os : Os) (started : os.Started) (H : Type) (enc : TypeId × Value → H) :
    ReturnsInHanded {} Tryz.checked os 3 .any (fun w args => (Rows.databaseDumpsSpec.pre enc Tryz.prog Tryz.f3 [] false w args ∧ laidMetH Tryz.prog laidA w) ∧ sizedMet enc Tryz.prog Tryz.f3 (OpenSpec.ofChange Rows.databaseDumpsSpec) false w args) (Rows.databaseDumpsSpec.post enc Tryz.prog Tryz.f3 false true false false) := by
  refine returnsInHanded_of_change_and (C := Tryz.checked) (X := fun w _ => laidMetH Tryz.prog laidA w) (fun _ _ _ hh h => h.of_heap hh) ownA started (by kernel_rfl) Tryz.func3
    (ChangeSpec.witness_shaped (enc := enc) (C := Tryz.checked) (os := os) (X := fun w _ => laidMetH Tryz.prog laidA w) false (World.laidAll Tryz.prog os laidA) #[.agg #[.string ByteArray.empty, .slice none 0 0], .slice none 0 0, .string ByteArray.empty, .int .u16 0, .slice none 0 0] 8 (World.laidAll_os _ _ _) (World.shaped_of_ZipB (by kernel_rfl) (by kernel_rfl)) (by kernel_rfl) (by kernel_rfl) (by kernel_rfl) (door_metA os _)) ?_
  intro W base args ds gs before hval0 hW _ _ hL _
  have hval : ∀ (j : Nat) t v, Tryz.f3.params[j]? = some t → args[j]? = some v → Value.okWide Tryz.prog W .any base t v := hval0
  have hW' := hW
  obtain ⟨p, q, hA0, hV, rfl, hfz, hnd⟩ := hW
  have hA : DataW.TrodAll enc Tryz.prog W 0 (fun _ => true) true Tryz.f3.params.toList args.toList ds p := hA0
  rw [Tryz.params3] at hA hval
  obtain ⟨v0, vs0, d0, ds0, p0, q0, hargs, rfl, rfl, h0, r0⟩ := trodAll_cons hA
  obtain ⟨v1, vs1, d1, ds1, p1, q1, rfl, rfl, rfl, h1, r1⟩ := trodAll_cons r0
  obtain ⟨v2, vs2, d2, ds2, p2, q2, rfl, rfl, rfl, h2, r2⟩ := trodAll_cons r1
  obtain ⟨v3, vs3, d3, ds3, p3, q3, rfl, rfl, rfl, h3, r3⟩ := trodAll_cons r2
  obtain ⟨v4, vs4, d4, ds4, p4, q4, rfl, rfl, rfl, h4, r4⟩ := trodAll_cons r3
  obtain ⟨rfl, rfl, rfl⟩ := trodAll_nil r4
  obtain rfl : args = #[v0, v1, v2, v3, v4] := by cases args; simp_all
  obtain ⟨rfl, rfl⟩ := trodVars_none hV
  obtain ⟨ls0, t0, c0⟩ := rel_arg tokA (n := 9) rfl h0 (hval 0 24 v0 rfl rfl)
  obtain ⟨ls1, t1, c1⟩ := rel_arg tokA (n := 9) rfl h1 (hval 1 25 v1 rfl rfl)
  obtain ⟨ls2, t2, c2⟩ := rel_arg tokA (n := 9) rfl h2 (hval 2 9 v2 rfl rfl)
  obtain ⟨ls3, t3, c3⟩ := rel_arg tokA (n := 9) rfl h3 (hval 3 26 v3 rfl rfl)
  obtain ⟨ls4, t4, c4⟩ := rel_arg tokA (n := 9) rfl h4 (hval 4 25 v4 rfl rfl)
  have lt0 : ∀ x ∈ p0, x.block < W.heap.size := by obtain ⟨m, hm⟩ := h0; exact DataW.trod_lt m _ _ _ hm
  have lt1 : ∀ x ∈ p1, x.block < W.heap.size := by obtain ⟨m, hm⟩ := h1; exact DataW.trod_lt m _ _ _ hm
  have lt2 : ∀ x ∈ p2, x.block < W.heap.size := by obtain ⟨m, hm⟩ := h2; exact DataW.trod_lt m _ _ _ hm
  have lt3 : ∀ x ∈ p3, x.block < W.heap.size := by obtain ⟨m, hm⟩ := h3; exact DataW.trod_lt m _ _ _ hm
  have lt4 : ∀ x ∈ p4, x.block < W.heap.size := by obtain ⟨m, hm⟩ := h4; exact DataW.trod_lt m _ _ _ hm
  clear hA0 hval0
  refine (walk W v0 v1 v2 v3 v4 ls0 ls1 ls2 ls3 ls4 t0 t1 t2 t3 t4 c0 c1 c2 c3 c4 hL).mono fun e W' ⟨he, bel⟩ => ?_
  subst he
  exact ⟨_, rfl, _, _, _, [], _, [], hW', trodAll_mk1 (shut_bool Tryz.underlying4 _), (trodAll_cons_mk (Below.trod laidOutA (by kernel_rfl) (of_decide_eq_true (by kernel_rfl)) h0 bel lt0) (trodAll_cons_mk (Below.trod laidOutA (by kernel_rfl) (of_decide_eq_true (by kernel_rfl)) h1 bel lt1) (trodAll_cons_mk (Below.trod laidOutA (by kernel_rfl) (of_decide_eq_true (by kernel_rfl)) h2 bel lt2) (trodAll_cons_mk (Below.trod laidOutA (by kernel_rfl) (of_decide_eq_true (by kernel_rfl)) h3 bel lt3) (trodAll_cons_mk (Below.trod laidOutA (by kernel_rfl) (of_decide_eq_true (by kernel_rfl)) h4 bel lt4) trodAll_mk0))))), rfl, bel.frame _, fun h => by cases h⟩

set_option maxRecDepth 100000 in
theorem over : Rows.databaseDumpsRow.holds Tryz.pinned (OpenSpec.ofChange Rows.databaseDumpsSpec) :=
  OpenClaim.holds_of_wide 3 Tryz.f3 rfl rfl rfl rfl rfl rfl rfl ⟨rfl, rfl, rfl, rfl, rfl⟩ rfl rfl rfl rfl rfl (by kernel_rfl) Tryz.func3 (by kernel_rfl)
    (of_decide_eq_true (by kernel_rfl)) (by unfold Func.isWrapper; first | (rw [if_pos (by decide +kernel)]; kernel_rfl) | (rw [if_neg (by decide +kernel)]; exact ⟨rfl, rfl⟩))
    (fun os started H enc _ => lifted os started H enc)
set_option maxRecDepth 100000 in
theorem card : Claim7.holds Tryz.pinned (.plain (OpenSpec.ofChange Rows.databaseDumpsSpec)) Rows.databaseDumpsCard :=
  Claim7.holds_tied_plain_at .later [] [.data, .data, .data, .data, .sentinel, .sentinel, .pinned] true (true, "6c05c057eeeda2ddd1b3b37a220deb855b70fdec2a191e74bddbcfdc1829b677") true
    over (fun _ h => by cases h) (by kernel_rfl) (fun _ h => by cases h) databaseDumps_row_tie rfl ⟨rfl, rfl⟩ (by kernel_rfl) rfl
    (fun f fn hf hfn => by
      obtain rfl : f = 3 := Option.some.inj ((show Tryz.prog.funcNamed "kerbsuite/kerbsuitelaw12.DatabaseDumps" = some 3 by kernel_rfl).symm.trans hf) |>.symm
      obtain rfl : fn = Tryz.f3 := (Option.some.inj (Tryz.func3.symm.trans hfn)).symm
      exact ⟨by kernel_rfl, fun j t ht => by
        rw [Tryz.params3] at ht
        have hm : t ∈ [24, 25, 9, 26, 25] := by simpa using Array.mem_of_getElem? ht
        have hall : ([24, 25, 9, 26, 25].all fun u => !Tryz.prog.wantsStandIn u) = true := by kernel_rfl
        exact (show Tryz.prog.wantsStandIn t = false by simpa using List.all_eq_true.1 hall t hm)⟩)
    (by kernel_rfl)
end DatabaseDumpsProof

theorem databaseDumps_proved : Rows.DatabaseDumpsCardSaid := DatabaseDumpsProof.card
#print axioms databaseDumps_proved
end Go.Proofs.YtdpbmmmdmecfdaaGreatDoor

/-
  The statement TopChange: after a change of the password through the kaserver a person logs in with the new key, and the key that was typed before opens nothing any more: the law returns true for every input; the table of texts stands as the program lays it.
-/
import Derived.Test.YtihnbghdddbimaaGreatDoorKC00
import Derived.Test.YtihnbghdddbimaaGreatDoorKC01
import Derived.Test.YtihnbghdddbimaaGreatDoorKC02
import Derived.Test.YtihnbghdddbimaaGreatDoorKC03
import Derived.Test.YtihnbghdddbimaaGreatDoorKC10
import Derived.Test.YtihnbghdddbimaaGreatDoorKC11
import Derived.Test.YtihnbghdddbimaaGreatDoorKC12
import Derived.Test.YtihnbghdddbimaaGreatDoorKC13
import Derived.Test.YtihnbghdddbimaaGreatDoorKC20
import Derived.Test.YtihnbghdddbimaaGreatDoorKC21
import Derived.Test.YtihnbghdddbimaaGreatDoorKC22
import Derived.Test.YtihnbghdddbimaaGreatDoorKC23
import Derived.Test.YtihnbghdddbimaaGreatDoorKC30
import Derived.Test.YtihnbghdddbimaaGreatDoorKC31
import Derived.Test.YtihnbghdddbimaaGreatDoorKC32
import Derived.Test.YtihnbghdddbimaaGreatDoorKC33
import Derived.Test.YtihnbghdddbimaaGreatDoorLDoorX
import Derived.Test.YtihnbghdddbimaaGreatDoorKFa
import Derived.Test.YtihnbghdddbimaaGreatDoorKFb
import Derived.Test.YtihnbghdddbimaaGreatDoorKFc
import Derived.Test.YtihnbghdddbimaaGreatDoorKFd
import Derived.Test.YtihnbghdddbimaaGreatDoorKFe
import Derived.Test.YtihnbghdddbimaaGreatDoorKFf
import Derived.Test.YtihnbghdddbimaaGreatDoorKFg
set_option linter.all false
namespace Go.Sx
open Go.Proofs
set_option maxRecDepth 100000 in
theorem c_In (i : In13) : FnX Tryz.prog 3 (dCs (rho i) inS) [] [.o (.b true)] [] := by
  rcases (show i.who % 4 = 0 ∨ i.who % 4 = 1 ∨ i.who % 4 = 2 ∨ i.who % 4 = 3 by omega) with h | h | h | h
  · rcases (show i.ord / 1 % 2 = 0 ∨ i.ord / 1 % 2 = 1 by omega) with h1 | h1
    · rcases (show i.ord / 4 % 2 = 0 ∨ i.ord / 4 % 2 = 1 by omega) with h2 | h2
      · exact top00 i h h1 h2
      · exact top02 i h h1 h2
    · rcases (show i.ord / 4 % 2 = 0 ∨ i.ord / 4 % 2 = 1 by omega) with h2 | h2
      · exact top01 i h h1 h2
      · exact top03 i h h1 h2
  · rcases (show i.ord / 1 % 2 = 0 ∨ i.ord / 1 % 2 = 1 by omega) with h1 | h1
    · rcases (show i.ord / 8 % 2 = 0 ∨ i.ord / 8 % 2 = 1 by omega) with h2 | h2
      · exact top10 i h h1 h2
      · exact top12 i h h1 h2
    · rcases (show i.ord / 8 % 2 = 0 ∨ i.ord / 8 % 2 = 1 by omega) with h2 | h2
      · exact top11 i h h1 h2
      · exact top13 i h h1 h2
  · rcases (show i.ord / 2 % 2 = 0 ∨ i.ord / 2 % 2 = 1 by omega) with h1 | h1
    · rcases (show i.ord / 16 % 2 = 0 ∨ i.ord / 16 % 2 = 1 by omega) with h2 | h2
      · exact top20 i h h1 h2
      · exact top22 i h h1 h2
    · rcases (show i.ord / 16 % 2 = 0 ∨ i.ord / 16 % 2 = 1 by omega) with h2 | h2
      · exact top21 i h h1 h2
      · exact top23 i h h1 h2
  · rcases (show i.ord / 2 % 2 = 0 ∨ i.ord / 2 % 2 = 1 by omega) with h1 | h1
    · rcases (show i.ord / 32 % 2 = 0 ∨ i.ord / 32 % 2 = 1 by omega) with h2 | h2
      · exact top30 i h h1 h2
      · exact top32 i h h1 h2
    · rcases (show i.ord / 32 % 2 = 0 ∨ i.ord / 32 % 2 = 1 by omega) with h2 | h2
      · exact top31 i h h1 h2
      · exact top33 i h h1 h2
set_option maxRecDepth 100000 in
theorem c_In2 (i : In13) : FnX Tryz.prog 3 [.a [(.i .u8 i.c0), (.i .u8 i.c1), (.i .u8 i.c2), (.i .u8 i.c3), (.i .u8 i.c4), (.i .u8 i.ord), (.i .u8 i.skew), (.i .u8 i.size), (.i .u8 i.life), (.i .u8 i.flaw)], .o (.i .u8 i.who), .o (.i .u8 i.what), .o (.i .u8 i.apart)] [] [.o (.b true)] [] := by
  have h := c_In i
  rewrite [inS_d i] at h
  exact h
theorem nat_u8 (x : UInt8) : (0 : Int) ≤ (x.toNat : Int) ∧ (x.toNat : Int) ≤ 255 := by have := UInt8.toNat_lt x; omega
set_option maxRecDepth 100000 in
theorem c_TopChange (c0 c1 c2 c3 c4 ord skew size life flaw who what apart : UInt8) : FnX Tryz.prog 3 [.a [.i .u8 (c0.toNat : Int), .i .u8 (c1.toNat : Int), .i .u8 (c2.toNat : Int), .i .u8 (c3.toNat : Int), .i .u8 (c4.toNat : Int), .i .u8 (ord.toNat : Int), .i .u8 (skew.toNat : Int), .i .u8 (size.toNat : Int), .i .u8 (life.toNat : Int), .i .u8 (flaw.toNat : Int)], .o (.i .u8 (who.toNat : Int)), .o (.i .u8 (what.toNat : Int)), .o (.i .u8 (apart.toNat : Int))] [] [.o (.b true)] [] :=
  c_In2 ⟨c0.toNat, c1.toNat, c2.toNat, c3.toNat, c4.toNat, ord.toNat, skew.toNat, size.toNat, life.toNat, flaw.toNat, who.toNat, what.toNat, apart.toNat, nat_u8 c0, nat_u8 c1, nat_u8 c2, nat_u8 c3, nat_u8 c4, nat_u8 ord, nat_u8 skew, nat_u8 size, nat_u8 life, nat_u8 flaw, nat_u8 who, nat_u8 what, nat_u8 apart⟩
end Go.Sx
namespace Go.Proofs.YtihnbghdddbimaaGreatDoor
open Go.ChangeShapes Go.WideShapes Go.ChangeAt Go.RowKit Go.Sx
namespace TopChangeProof
set_option maxRecDepth 100000 in
theorem walk (W : World) (v0 v1 v2 v3 : Value) (ls0 ls1 ls2 ls3 : List L)
    (t0 : Typ (tabF tab) 24 ls0) (t1 : Typ (tabF tab) 5 ls1) (t2 : Typ (tabF tab) 5 ls2) (t3 : Typ (tabF tab) 5 ls3)
    (r0 : RelC (fun _ => False) W noMu (argC (tabF tab 24).agg ls0) v0) (r1 : RelC (fun _ => False) W noMu (argC (tabF tab 5).agg ls1) v1) (r2 : RelC (fun _ => False) W noMu (argC (tabF tab 5).agg ls2) v2) (r3 : RelC (fun _ => False) W noMu (argC (tabF tab 5).agg ls3) v3) :
    Calls Tryz.prog 3 #[v0, v1, v2, v3] W fun e w' => e = .returned (.bool true) ∧ Below W.heap.size W w' := by
  obtain ⟨partsa0, rfl, hla0, hpa0⟩ := typ_struct t0 rfl
  obtain ⟨qa0_0, qa0_1, qa0_2, qa0_3, qa0_4, qa0_5, rfl⟩ : ∃ qa0_0 qa0_1 qa0_2 qa0_3 qa0_4 qa0_5, partsa0 = [qa0_0, qa0_1, qa0_2, qa0_3, qa0_4, qa0_5] := by
    match partsa0, hla0 with
    | [qa0_0, qa0_1, qa0_2, qa0_3, qa0_4, qa0_5], _ => exact ⟨qa0_0, qa0_1, qa0_2, qa0_3, qa0_4, qa0_5, rfl⟩
  have ta0_0 := hpa0 0 _ qa0_0 rfl rfl
  obtain ⟨partsa0_0, rfl, hla0_0, hpa0_0⟩ := typ_array ta0_0 rfl
  obtain ⟨qa0_0_0, qa0_0_1, qa0_0_2, qa0_0_3, qa0_0_4, rfl⟩ : ∃ qa0_0_0 qa0_0_1 qa0_0_2 qa0_0_3 qa0_0_4, partsa0_0 = [qa0_0_0, qa0_0_1, qa0_0_2, qa0_0_3, qa0_0_4] := by
    match partsa0_0, hla0_0 with
    | [qa0_0_0, qa0_0_1, qa0_0_2, qa0_0_3, qa0_0_4], _ => exact ⟨qa0_0_0, qa0_0_1, qa0_0_2, qa0_0_3, qa0_0_4, rfl⟩
  have ta0_0_0 := hpa0_0 qa0_0_0 (by simp)
  obtain ⟨a0_0_0, rfl⟩ := typ_u8 ta0_0_0 rfl
  have ta0_0_1 := hpa0_0 qa0_0_1 (by simp)
  obtain ⟨a0_0_1, rfl⟩ := typ_u8 ta0_0_1 rfl
  have ta0_0_2 := hpa0_0 qa0_0_2 (by simp)
  obtain ⟨a0_0_2, rfl⟩ := typ_u8 ta0_0_2 rfl
  have ta0_0_3 := hpa0_0 qa0_0_3 (by simp)
  obtain ⟨a0_0_3, rfl⟩ := typ_u8 ta0_0_3 rfl
  have ta0_0_4 := hpa0_0 qa0_0_4 (by simp)
  obtain ⟨a0_0_4, rfl⟩ := typ_u8 ta0_0_4 rfl
  have ta0_1 := hpa0 1 _ qa0_1 rfl rfl
  obtain ⟨a0_1, rfl⟩ := typ_u8 ta0_1 rfl
  have ta0_2 := hpa0 2 _ qa0_2 rfl rfl
  obtain ⟨a0_2, rfl⟩ := typ_u8 ta0_2 rfl
  have ta0_3 := hpa0 3 _ qa0_3 rfl rfl
  obtain ⟨a0_3, rfl⟩ := typ_u8 ta0_3 rfl
  have ta0_4 := hpa0 4 _ qa0_4 rfl rfl
  obtain ⟨a0_4, rfl⟩ := typ_u8 ta0_4 rfl
  have ta0_5 := hpa0 5 _ qa0_5 rfl rfl
  obtain ⟨a0_5, rfl⟩ := typ_u8 ta0_5 rfl
  obtain ⟨a1, rfl⟩ := typ_u8 t1 rfl
  obtain ⟨a2, rfl⟩ := typ_u8 t2 rfl
  obtain ⟨a3, rfl⟩ := typ_u8 t3 rfl
  exact calls_of_fnX Tryz.func3 rfl rfl (c_TopChange a0_0_0 a0_0_1 a0_0_2 a0_0_3 a0_0_4 a0_1 a0_2 a0_3 a0_4 a0_5 a1 a2 a3) (relCs_cons r0 (relCs_cons r1 (relCs_cons r2 (relCs_cons r3 relCs_nil))))

set_option maxRecDepth 100000 in
theorem lifted (os : Os) (started : os.Started) (H : Type) (enc : TypeId × Value → H) :
    ReturnsInHanded {} Tryz.checked os 3 .any (fun w args => (Rows.topChangeSpec.pre enc Tryz.prog Tryz.f3 [] false w args ∧ laidMetH Tryz.prog laidA w) ∧ sizedMet enc Tryz.prog Tryz.f3 (OpenSpec.ofChange Rows.topChangeSpec) false w args) (Rows.topChangeSpec.post enc Tryz.prog Tryz.f3 false true false false) := by
  refine returnsInHanded_of_change_and (C := Tryz.checked) (X := fun w _ => laidMetH Tryz.prog laidA w) (fun _ _ _ hh h => h.of_heap hh) ownA started (by kernel_rfl) Tryz.func3
    (ChangeSpec.witness_shaped (enc := enc) (C := Tryz.checked) (os := os) (X := fun w _ => laidMetH Tryz.prog laidA w) false (World.doorLaid Tryz.prog 24 os) #[.agg #[.int .u8 0, .int .u8 0, .int .u8 0, .int .u8 0, .int .u8 0, .int .u8 0, .int .u8 0, .int .u8 0, .int .u8 0, .int .u8 0], .int .u8 0, .int .u8 0, .int .u8 0] 8 rfl (World.shaped_of_RefB (by kernel_rfl) (by kernel_rfl)) (by kernel_rfl) (by kernel_rfl) (by kernel_rfl) (door_metA os _)) ?_
  intro W base args ds gs before hval0 hW _ _ hL _
  have hval : ∀ (j : Nat) t v, Tryz.f3.params[j]? = some t → args[j]? = some v → Value.okWide Tryz.prog W .any base t v := hval0
  have hW' := hW
  obtain ⟨p, q, hA0, hV, rfl, hfz, hnd⟩ := hW
  have hA : DataW.TrodAll enc Tryz.prog W 0 (fun _ => true) true Tryz.f3.params.toList args.toList ds p := hA0
  rw [Tryz.params3] at hA hval
  obtain ⟨v0, vs0, d0, ds0, p0, q0, hargs, rfl, rfl, h0, r0⟩ := trodAll_cons hA
  obtain ⟨v1, vs1, d1, ds1, p1, q1, rfl, rfl, rfl, h1, r1⟩ := trodAll_cons r0
  obtain ⟨v2, vs2, d2, ds2, p2, q2, rfl, rfl, rfl, h2, r2⟩ := trodAll_cons r1
  obtain ⟨v3, vs3, d3, ds3, p3, q3, rfl, rfl, rfl, h3, r3⟩ := trodAll_cons r2
  obtain ⟨rfl, rfl, rfl⟩ := trodAll_nil r3
  obtain rfl : args = #[v0, v1, v2, v3] := by cases args; simp_all
  obtain ⟨rfl, rfl⟩ := trodVars_none hV
  obtain ⟨ls0, t0, c0⟩ := rel_arg tokA (n := 9) rfl h0 (hval 0 24 v0 rfl rfl)
  obtain ⟨ls1, t1, c1⟩ := rel_arg tokA (n := 9) rfl h1 (hval 1 5 v1 rfl rfl)
  obtain ⟨ls2, t2, c2⟩ := rel_arg tokA (n := 9) rfl h2 (hval 2 5 v2 rfl rfl)
  obtain ⟨ls3, t3, c3⟩ := rel_arg tokA (n := 9) rfl h3 (hval 3 5 v3 rfl rfl)
  have lt0 : ∀ x ∈ p0, x.block < W.heap.size := by obtain ⟨m, hm⟩ := h0; exact DataW.trod_lt m _ _ _ hm
  have lt1 : ∀ x ∈ p1, x.block < W.heap.size := by obtain ⟨m, hm⟩ := h1; exact DataW.trod_lt m _ _ _ hm
  have lt2 : ∀ x ∈ p2, x.block < W.heap.size := by obtain ⟨m, hm⟩ := h2; exact DataW.trod_lt m _ _ _ hm
  have lt3 : ∀ x ∈ p3, x.block < W.heap.size := by obtain ⟨m, hm⟩ := h3; exact DataW.trod_lt m _ _ _ hm
  clear hA0 hval0
  refine (walk W v0 v1 v2 v3 ls0 ls1 ls2 ls3 t0 t1 t2 t3 c0 c1 c2 c3).mono fun e W' ⟨he, bel⟩ => ?_
  subst he
  exact ⟨_, rfl, _, _, _, [], _, [], hW', trodAll_mk1 (shut_bool Tryz.underlying4 _), (trodAll_cons_mk (Below.trod laidOutA (by kernel_rfl) (of_decide_eq_true (by kernel_rfl)) h0 bel lt0) (trodAll_cons_mk (Below.trod laidOutA (by kernel_rfl) (of_decide_eq_true (by kernel_rfl)) h1 bel lt1) (trodAll_cons_mk (Below.trod laidOutA (by kernel_rfl) (of_decide_eq_true (by kernel_rfl)) h2 bel lt2) (trodAll_cons_mk (Below.trod laidOutA (by kernel_rfl) (of_decide_eq_true (by kernel_rfl)) h3 bel lt3) trodAll_mk0)))), rfl, bel.frame _, fun h => by cases h⟩

theorem goes_no {P : Program} (h : P.funcs.any Func.goes = false) (f : FuncId) : P.goes f = false := by
  have key : ∀ g : Nat, ((P.funcs[g]?).any Func.goes) = false := fun g => by
    cases q : P.funcs[g]? with
    | none => rfl
    | some fn =>
      have hm : fn ∈ P.funcs := Array.mem_of_getElem? q
      cases r : fn.goes with
      | false => exact r
      | true =>
        have : P.funcs.any Func.goes = true := Array.any_eq_true'.2 ⟨fn, hm, r⟩
        rw [h] at this; cases this
  unfold Program.goes
  rw [h, Bool.and_false, Bool.or_false]
  exact List.any_eq_false.2 fun g _ => by rw [key g]; exact Bool.false_ne_true
theorem goes_at {P : Program} {func : String} {f : FuncId} (hn : P.funcNamed func = some f) (hg : P.goes f = false) (c : OpenClaim) (hs : c.start = .entering) (hf : c.func = func) : false = c.goesBy P := by
  unfold OpenClaim.goesBy Program.goesAt Program.goesFrom
  rw [hs, hf, hn]
  simp [hg]
theorem goes_not : false = Rows.topChangeRow.goesBy Tryz.pinned.checked.prog := goes_at (P := Tryz.prog) jA (goes_no jU 3) _ rfl rfl
set_option maxRecDepth 100000 in
theorem closed : joinedFacts Tryz.prog 3 Tryz.f3 Rows.topChangeSpec Rows.topChangeRow = true := by
  unfold joinedFacts
  rewrite [laidOutA, j2, j9, j10, j11, j12, j22, j24, j25]
  kernel_rfl
set_option maxRecDepth 100000 in
theorem over : Rows.topChangeRow.holds Tryz.pinned (OpenSpec.ofChange Rows.topChangeSpec) :=
  OpenClaim.holds_of_wide 3 Tryz.f3 rfl rfl rfl rfl rfl rfl rfl ⟨rfl, rfl, rfl, rfl, rfl⟩ rfl rfl rfl rfl rfl jA Tryz.func3 closed
    (of_decide_eq_true (by kernel_rfl)) (by unfold Func.isWrapper; first | (rw [if_pos (by decide +kernel)]; kernel_rfl) | (rw [if_neg (by decide +kernel)]; exact ⟨rfl, rfl⟩))
    (fun os started H enc _ => lifted os started H enc)
set_option maxRecDepth 100000 in
theorem card : Claim7.holds Tryz.pinned (.plain (OpenSpec.ofChange Rows.topChangeSpec)) Rows.topChangeCard :=
  Claim7.holds_tied_plain_at .later [] [.data] true (true, "b4676c08a81206cfc987f1ca7dd6b459a9fff728749eb185fff8d7e199e12ab5") false
    over (fun _ h => by cases h) (by kernel_rfl) (fun _ h => by cases h) topChange_row_tie rfl ⟨rfl, rfl⟩ (by kernel_rfl) rfl
    (fun f fn hf hfn => by
      obtain rfl : f = 3 := Option.some.inj ((show Tryz.prog.funcNamed "kerbsuite/kerbsuitetop.TopChange" = some 3 by exact jA).symm.trans hf) |>.symm
      obtain rfl : fn = Tryz.f3 := (Option.some.inj (Tryz.func3.symm.trans hfn)).symm
      exact ⟨jF, fun j t ht => by
        rw [Tryz.params3] at ht
        have hm : t ∈ [24, 5, 5, 5] := by simpa using Array.mem_of_getElem? ht
        have hall : ([24, 5, 5, 5].all fun u => !Tryz.prog.wantsStandIn u) = true := by kernel_rfl
        exact (show Tryz.prog.wantsStandIn t = false by simpa using List.all_eq_true.1 hall t hm)⟩)
    goes_not
end TopChangeProof

theorem topChange_proved : Rows.TopChangeCardSaid := TopChangeProof.card
#print axioms topChange_proved
end Go.Proofs.YtihnbghdddbimaaGreatDoor

/-
  The statement DatabaseFinds: the law returns true for every input; no conditions.
-/
import Derived.Test.YtfagmeafkddibaaDoorCDbL
import Derived.Test.YtfagmeafkddibaaDoorLDoor
set_option linter.all false
namespace Go.Sx
open Go.Proofs Go.RowKit
noncomputable def g4 : Par := par 165 (nthLL [[1, 2, 3, 4, 5, 6, 7], [1, 2, 3, 4, 5, 6, 7, 27], [14], [1, 2, 3, 4, 5, 6, 7, 44], [14], [2, 3, 4, 5, 6, 7, 15], [2, 3, 4, 5, 6, 7, 15, 16], [2, 3, 4, 5, 6, 7, 15, 16, 53], [2, 3, 4, 5, 7, 15, 16], [2, 3, 4, 5, 7, 15, 16, 17], [2, 3, 4, 5, 7, 15, 16, 17, 60], [2, 3, 4, 5, 7, 15, 16, 17], [2, 3, 4, 5, 7, 15, 16, 17, 18], [2, 3, 4, 5, 7, 15, 16, 17, 18, 19, 20], [2, 3, 4, 5, 7, 15, 16, 17, 18, 19, 20, 21], [2, 3, 4, 5, 7, 15, 16, 17, 18, 19, 20, 21, 22, 23], [2, 3, 4, 5, 7, 15, 16, 17, 18, 19, 20, 21, 22, 23, 24, 25], [2, 3, 4, 5, 7, 15, 16, 17, 18, 19, 20, 21, 116], [14], [2, 3, 4, 5, 7, 15, 16, 17, 18, 19, 20, 21, 22, 23], [2, 3, 4, 5, 7, 15, 16, 17, 18, 19, 20, 21, 22, 23, 24, 25], [2, 3, 4, 5, 7, 15, 16, 17, 18, 19, 20, 21, 140], [14], [2, 3, 4, 5, 7, 15, 16, 17, 18, 19, 20, 21, 22, 23], [2, 3, 4, 5, 7, 15, 16, 17, 22, 23, 24, 25], [2, 3, 4, 5, 7, 15, 16, 17, 164], [14], [14]]) [14] (nthLL [[], [], [], [], [], [], [], [], [], [], [], [], [], [0, 0, 2, 7, 0, 16, 63, 127, 0, 0, 512, 1792, 0, 4096, 16128, 32512, 255, 131071]])
set_option maxRecDepth 10000
set_option maxHeartbeats 16000000
theorem c_DatabaseFinds (r : List UInt8) (rows : List (List L)) (hrows : ∀ r ∈ rows, Typ (tabF tab) 35 r) (l nm ins : List UInt8) (now : Int) (sm who : UInt8) : Fn Tryd.prog 4 [.a [.s r, .sl rows.flatten rows.length], .o (.sl (l.map u8) l.length), .o (.s nm), .o (.s ins), .o (.i .i64 now), .o (.i .u8 (sm.toNat : Int)), .o (.i .u8 (who.toNat : Int))] [] (.one (.c (.o (.b true)))) [] := by
  obtain ⟨W, rfl, hW⟩ := de_rows hrows
  rw [List.length_map]
  show Fn Tryd.prog _ [.a [.s r, .sl (flat deR W) W.length], _, _, _, _, _, _] _ _ _
  have hsm := byte_lt sm
  have hwho := byte_lt who
  have cl1 := c_long12 r W rfl
  refine Fn_intro (G := g4) (goodA rfl) (fn := Tryd.f4) rfl rfl rfl rfl rfl ?_
  by_cases hlong : dbLg r W = true ∨ nm.length > 100 ∨ ins.length > 100 ∨ l.length > 300
  · generalize dbLg r W = A at *
    (repeat' ((conv => whnf) <;> first | exact rfl | with_reducible refine boolK_dec (fun _ => ?_) (fun _ => ?_) <;> try (exfalso; omega) | refine boolK_beq (fun _ => ?_) (fun _ => ?_) <;> try (exfalso; first | omega | contradiction) | refine boolK_bne (fun _ => ?_) (fun _ => ?_) <;> try (exfalso; first | omega | contradiction) | (with_reducible first | refine boolK_not ?_ | refine boolK_and ?_ | refine boolK_or ?_ | refine boolK_true ?_ | refine boolK_false ?_) | refine boolK_intro (fun _ => ?_) (fun _ => ?_) <;> try (exfalso; simp_all; done) | refine jA ?_ | refine jB ?_ | refine jC ?_ | refine jD ?_ | refine jE ?_ | refine jF ?_ | refine jG ?_ | refine jH ?_ | refine jI ?_ | refine jJ ?_ | refine jK ?_ | with_reducible refine natK_lit ?_ | refine natK_of rfl ?_ | refine natK_any ?_ | refine jL ?_ | refine jM ?_ | refine jN ?_ | refine jO ?_ | refine jP ?_ | refine jQ ?_ | refine jR ?_ | refine jS ?_ | refine jT ?_ | refine jU (fun _ => ?_) | refine jV ?_ | refine jW ?_ | refine jX ?_ | refine jY ?_ | refine jZ ?_ | refine ja ?_ | refine jb ?_ | refine jc ?_ | refine jd ?_ | refine je ?_ | refine jf ?_ | refine jg ?_ | refine jh ?_ | refine ji ?_ | refine jj ?_ | refine jk ?_ | refine jn ?_ | refine jo ?_ | refine jp ?_ | refine jq ?_ | refine jr ?_ | refine js ?_ | refine callK_intro (c_awake12) ?_ | refine callK_intro (cl1) ?_ | refine jt ?_ | refine jx ?_ | refine jy ?_ | refine ju ?_ | refine jv ?_)) <;> (try (conv => whnf))
    all_goals (exfalso; rcases hlong with h | h | h | h <;> first | omega | (simp_all; done))
  · have f1 : dbLg r W = false := by cases h : dbLg r W with
      | true => exact absurd (.inl h) hlong
      | false => rfl
    have f3 : nm.length ≤ 100 ∧ ins.length ≤ 100 ∧ l.length ≤ 300 := by
      have : ¬ (nm.length > 100 ∨ ins.length > 100 ∨ l.length > 300) := fun h => hlong (.inr h)
      omega
    rw [f1] at cl1
    obtain ⟨w1, w2⟩ := dbLg_is f1
    have hWs : ∀ s ∈ W, deSm 90000 s := fun s hs => by
      have h1 := w2 s hs
      exact ⟨by omega, by omega, hW s hs⟩
    obtain ⟨O, hO, cD⟩ := c_Database l rfl (by omega) 0 (by omega)
    obtain ⟨o1, o2, o3, _⟩ := dbC_un hO
    have hOs : ∀ s ∈ O, deSm 90000 s := fun s hs => de_grow (by omega) (deV_small (o3 s hs)).1
    clear hO o1 o3 hlong f1
    generalize realmN 0 = R at *
    (repeat' ((conv => whnf) <;> first | with_reducible refine boolK_refl ?_ | refine natK_of (j := 0) (by omega) ?_ | refine natK_of (j := 1) (by omega) ?_ | exact rfl | with_reducible refine boolK_dec (fun _ => ?_) (fun _ => ?_) <;> try (exfalso; omega) | refine boolK_beq (fun _ => ?_) (fun _ => ?_) <;> try (exfalso; first | omega | contradiction) | refine boolK_bne (fun _ => ?_) (fun _ => ?_) <;> try (exfalso; first | omega | contradiction) | (with_reducible first | refine boolK_not ?_ | refine boolK_and ?_ | refine boolK_or ?_ | refine boolK_true ?_ | refine boolK_false ?_) | refine boolK_intro (fun _ => ?_) (fun _ => ?_) <;> try (exfalso; simp_all; done) | refine jA ?_ | refine jB ?_ | refine jC ?_ | refine jD ?_ | refine jE ?_ | refine jF ?_ | refine jG ?_ | refine jH ?_ | refine jI ?_ | refine jJ ?_ | refine jK ?_ | with_reducible refine natK_lit ?_ | refine natK_of rfl ?_ | refine natK_any ?_ | refine jL ?_ | refine jM ?_ | refine jN ?_ | refine jO ?_ | refine jP ?_ | refine jQ ?_ | refine jR ?_ | refine jS ?_ | refine jT ?_ | refine jU (fun _ => ?_) | refine jV ?_ | refine jW ?_ | refine jX ?_ | refine jY ?_ | refine jZ ?_ | refine ja ?_ | refine jb ?_ | refine jc ?_ | refine jd ?_ | refine je ?_ | refine jf ?_ | refine jg ?_ | refine jh ?_ | refine ji ?_ | refine jj ?_ | refine jk ?_ | refine jn ?_ | refine jo ?_ | refine jp ?_ | refine jq ?_ | refine jr ?_ | refine js ?_ | refine callK_intro (c_awake12) ?_ | refine callK_intro (cl1) ?_ | refine callK_intro (cD) ?_ | refine callK_intro (c_User _ (by omega)) ?_ | refine callK_intro (c_Service _ (by omega)) ?_ | refine callK_intro (c_dbFind _ W rfl (by omega) _ _) ?_ | refine callK_intro (c_dbFind _ O rfl (by omega) _ _) ?_ | refine callK_intro (c_rdbFind _ W rfl (by omega) _ _) ?_ | refine callK_intro (c_rdbFind _ O rfl (by omega) _ _) ?_ | refine callK_intro (c_dbClient _ W rfl (by omega) _ _ hWs _) ?_ | refine callK_intro (c_dbClient _ O rfl (by omega) _ _ hOs _) ?_ | refine callK_intro (c_rdbClient _ W rfl (by omega) _ _ hWs _) ?_ | refine callK_intro (c_rdbClient _ O rfl (by omega) _ _ hOs _) ?_ | refine callK_intro (c_dbService _ W rfl (by omega) _ _ hWs _) ?_ | refine callK_intro (c_dbService _ O rfl (by omega) _ _ hOs _) ?_ | refine callK_intro (c_rdbService _ W rfl (by omega) _ _ hWs _) ?_ | refine callK_intro (c_rdbService _ O rfl (by omega) _ _ hOs _) ?_ | refine loopK_step (G := g4) ?_ | refine jt ?_ | refine jx ?_ | refine jy ?_ | refine ju ?_ | refine jv ?_)) <;> (try (conv => whnf))
end Go.Sx
namespace Go.Proofs.YtfagmeafkddibaaDoor
open Go.ChangeShapes Go.WideShapes Go.ChangeAt Go.RowKit Go.Sx
namespace DatabaseFindsProof
set_option maxRecDepth 100000 in
theorem walk (W : World) (v0 v1 v2 v3 v4 v5 v6 : Value) (ls0 ls1 ls2 ls3 ls4 ls5 ls6 : List L)
    (t0 : Typ (tabF tab) 24 ls0) (t1 : Typ (tabF tab) 25 ls1) (t2 : Typ (tabF tab) 9 ls2) (t3 : Typ (tabF tab) 9 ls3) (t4 : Typ (tabF tab) 3 ls4) (t5 : Typ (tabF tab) 5 ls5) (t6 : Typ (tabF tab) 5 ls6)
    (r0 : RelC (fun _ => False) W noMu (argC (tabF tab 24).agg ls0) v0) (r1 : RelC (fun _ => False) W noMu (argC (tabF tab 25).agg ls1) v1) (r2 : RelC (fun _ => False) W noMu (argC (tabF tab 9).agg ls2) v2) (r3 : RelC (fun _ => False) W noMu (argC (tabF tab 9).agg ls3) v3) (r4 : RelC (fun _ => False) W noMu (argC (tabF tab 3).agg ls4) v4) (r5 : RelC (fun _ => False) W noMu (argC (tabF tab 5).agg ls5) v5) (r6 : RelC (fun _ => False) W noMu (argC (tabF tab 5).agg ls6) v6) :
    Calls Tryd.prog 4 #[v0, v1, v2, v3, v4, v5, v6] W fun e w' => e = .returned (.bool true) ∧ Below W.heap.size W w' := by
  obtain ⟨partsa0, rfl, hla0, hpa0⟩ := typ_struct t0 rfl
  obtain ⟨qa0_0, qa0_1, rfl⟩ : ∃ qa0_0 qa0_1, partsa0 = [qa0_0, qa0_1] := by
    match partsa0, hla0 with
    | [qa0_0, qa0_1], _ => exact ⟨qa0_0, qa0_1, rfl⟩
  have ta0_0 := hpa0 0 _ qa0_0 rfl rfl
  obtain ⟨a0_0, rfl⟩ := typ_str ta0_0 rfl
  have ta0_1 := hpa0 1 _ qa0_1 rfl rfl
  obtain ⟨a0_1, rfl, wa0_1⟩ := typ_slice ta0_1 rfl
  obtain ⟨a1, rfl⟩ := typ_bytes t1 rfl rfl
  obtain ⟨a2, rfl⟩ := typ_str t2 rfl
  obtain ⟨a3, rfl⟩ := typ_str t3 rfl
  obtain ⟨a4, rfl, wa4⟩ := typ_int t4 rfl
  obtain ⟨a5, rfl⟩ := typ_u8 t5 rfl
  obtain ⟨a6, rfl⟩ := typ_u8 t6 rfl
  exact calls_of_fn Tryd.func4 rfl rfl (c_DatabaseFinds a0_0 _ wa0_1 a1 a2 a3 a4 a5 a6) (relCs_cons r0 (relCs_cons r1 (relCs_cons r2 (relCs_cons r3 (relCs_cons r4 (relCs_cons r5 (relCs_cons r6 relCs_nil)))))))

set_option maxRecDepth 100000 in
theorem lifted (os : Os) (started : os.Started) (H : Type) (enc : TypeId × Value → H) :
    ReturnsInHanded {} Tryd.checked os 4 .any (fun w args => (Rows.databaseFindsSpec.pre enc Tryd.prog Tryd.f4 [] false w args ∧ laidMetH Tryd.prog laidA w) ∧ sizedMet enc Tryd.prog Tryd.f4 (OpenSpec.ofChange Rows.databaseFindsSpec) false w args) (Rows.databaseFindsSpec.post enc Tryd.prog Tryd.f4 false true false false) := by
  refine returnsInHanded_of_change_and (C := Tryd.checked) (X := fun w _ => laidMetH Tryd.prog laidA w) (fun _ _ _ hh h => h.of_heap hh) ownA started (by kernel_rfl) Tryd.func4
    (ChangeSpec.witness_shaped (enc := enc) (C := Tryd.checked) (os := os) (X := fun w _ => laidMetH Tryd.prog laidA w) false (World.doorLaid Tryd.prog 24 os) #[.agg #[.string ByteArray.empty, .slice none 0 0], .slice none 0 0, .string ByteArray.empty, .string ByteArray.empty, .int .i64 0, .int .u8 0, .int .u8 0] 8 rfl (World.shaped_of_RefB (by kernel_rfl) (by kernel_rfl)) (by kernel_rfl) (by kernel_rfl) (by kernel_rfl) (door_metA os _)) ?_
  intro W base args ds gs before hval0 hW _ _ hL _
  have hval : ∀ (j : Nat) t v, Tryd.f4.params[j]? = some t → args[j]? = some v → Value.okWide Tryd.prog W .any base t v := hval0
  have hW' := hW
  obtain ⟨p, q, hA0, hV, rfl, hfz, hnd⟩ := hW
  have hA : DataW.TrodAll enc Tryd.prog W 0 (fun _ => true) true Tryd.f4.params.toList args.toList ds p := hA0
  rw [Tryd.params4] at hA hval
  obtain ⟨v0, vs0, d0, ds0, p0, q0, hargs, rfl, rfl, h0, r0⟩ := trodAll_cons hA
  obtain ⟨v1, vs1, d1, ds1, p1, q1, rfl, rfl, rfl, h1, r1⟩ := trodAll_cons r0
  obtain ⟨v2, vs2, d2, ds2, p2, q2, rfl, rfl, rfl, h2, r2⟩ := trodAll_cons r1
  obtain ⟨v3, vs3, d3, ds3, p3, q3, rfl, rfl, rfl, h3, r3⟩ := trodAll_cons r2
  obtain ⟨v4, vs4, d4, ds4, p4, q4, rfl, rfl, rfl, h4, r4⟩ := trodAll_cons r3
  obtain ⟨v5, vs5, d5, ds5, p5, q5, rfl, rfl, rfl, h5, r5⟩ := trodAll_cons r4
  obtain ⟨v6, vs6, d6, ds6, p6, q6, rfl, rfl, rfl, h6, r6⟩ := trodAll_cons r5
  obtain ⟨rfl, rfl, rfl⟩ := trodAll_nil r6
  obtain rfl : args = #[v0, v1, v2, v3, v4, v5, v6] := by cases args; simp_all
  obtain ⟨rfl, rfl⟩ := trodVars_none hV
  obtain ⟨ls0, t0, c0⟩ := rel_arg tokA (n := 9) rfl h0 (hval 0 24 v0 rfl rfl)
  obtain ⟨ls1, t1, c1⟩ := rel_arg tokA (n := 9) rfl h1 (hval 1 25 v1 rfl rfl)
  obtain ⟨ls2, t2, c2⟩ := rel_arg tokA (n := 9) rfl h2 (hval 2 9 v2 rfl rfl)
  obtain ⟨ls3, t3, c3⟩ := rel_arg tokA (n := 9) rfl h3 (hval 3 9 v3 rfl rfl)
  obtain ⟨ls4, t4, c4⟩ := rel_arg tokA (n := 9) rfl h4 (hval 4 3 v4 rfl rfl)
  obtain ⟨ls5, t5, c5⟩ := rel_arg tokA (n := 9) rfl h5 (hval 5 5 v5 rfl rfl)
  obtain ⟨ls6, t6, c6⟩ := rel_arg tokA (n := 9) rfl h6 (hval 6 5 v6 rfl rfl)
  have lt0 : ∀ x ∈ p0, x.block < W.heap.size := by obtain ⟨m, hm⟩ := h0; exact DataW.trod_lt m _ _ _ hm
  have lt1 : ∀ x ∈ p1, x.block < W.heap.size := by obtain ⟨m, hm⟩ := h1; exact DataW.trod_lt m _ _ _ hm
  have lt2 : ∀ x ∈ p2, x.block < W.heap.size := by obtain ⟨m, hm⟩ := h2; exact DataW.trod_lt m _ _ _ hm
  have lt3 : ∀ x ∈ p3, x.block < W.heap.size := by obtain ⟨m, hm⟩ := h3; exact DataW.trod_lt m _ _ _ hm
  have lt4 : ∀ x ∈ p4, x.block < W.heap.size := by obtain ⟨m, hm⟩ := h4; exact DataW.trod_lt m _ _ _ hm
  have lt5 : ∀ x ∈ p5, x.block < W.heap.size := by obtain ⟨m, hm⟩ := h5; exact DataW.trod_lt m _ _ _ hm
  have lt6 : ∀ x ∈ p6, x.block < W.heap.size := by obtain ⟨m, hm⟩ := h6; exact DataW.trod_lt m _ _ _ hm
  clear hA0 hval0
  refine (walk W v0 v1 v2 v3 v4 v5 v6 ls0 ls1 ls2 ls3 ls4 ls5 ls6 t0 t1 t2 t3 t4 t5 t6 c0 c1 c2 c3 c4 c5 c6).mono fun e W' ⟨he, bel⟩ => ?_
  subst he
  exact ⟨_, rfl, _, _, _, [], _, [], hW', trodAll_mk1 (shut_bool Tryd.underlying4 _), (trodAll_cons_mk (Below.trod laidOutA (by kernel_rfl) (of_decide_eq_true (by kernel_rfl)) h0 bel lt0) (trodAll_cons_mk (Below.trod laidOutA (by kernel_rfl) (of_decide_eq_true (by kernel_rfl)) h1 bel lt1) (trodAll_cons_mk (Below.trod laidOutA (by kernel_rfl) (of_decide_eq_true (by kernel_rfl)) h2 bel lt2) (trodAll_cons_mk (Below.trod laidOutA (by kernel_rfl) (of_decide_eq_true (by kernel_rfl)) h3 bel lt3) (trodAll_cons_mk (Below.trod laidOutA (by kernel_rfl) (of_decide_eq_true (by kernel_rfl)) h4 bel lt4) (trodAll_cons_mk (Below.trod laidOutA (by kernel_rfl) (of_decide_eq_true (by kernel_rfl)) h5 bel lt5) (trodAll_cons_mk (Below.trod laidOutA (by kernel_rfl) (of_decide_eq_true (by kernel_rfl)) h6 bel lt6) trodAll_mk0))))))), rfl, bel.frame _, fun h => by cases h⟩

set_option maxRecDepth 100000 in
theorem over : Rows.databaseFindsRow.holds Tryd.pinned (OpenSpec.ofChange Rows.databaseFindsSpec) :=
  OpenClaim.holds_of_wide 4 Tryd.f4 rfl rfl rfl rfl rfl rfl rfl ⟨rfl, rfl, rfl, rfl, rfl⟩ rfl rfl rfl rfl rfl (by kernel_rfl) Tryd.func4 (by kernel_rfl)
    (of_decide_eq_true (by kernel_rfl)) (by unfold Func.isWrapper; first | (rw [if_pos (by decide +kernel)]; kernel_rfl) | (rw [if_neg (by decide +kernel)]; exact ⟨rfl, rfl⟩))
    (fun os started H enc _ => lifted os started H enc)
set_option maxRecDepth 100000 in
theorem card : Claim7.holds Tryd.pinned (.plain (OpenSpec.ofChange Rows.databaseFindsSpec)) Rows.databaseFindsCard :=
  Claim7.holds_tied_plain_at .later [] [.data, .data, .data] true (true, "86da0c24c9236608754bf5c54e3aea5521f45cfe452094d8e1acd59017ce1540") false
    over (fun _ h => by cases h) (by kernel_rfl) (fun _ h => by cases h) databaseFinds_row_tie rfl ⟨rfl, rfl⟩ (by kernel_rfl) rfl
    (fun f fn hf hfn => by
      obtain rfl : f = 4 := Option.some.inj ((show Tryd.prog.funcNamed "kerbsuite/kerbsuitelaw12.DatabaseFinds" = some 4 by kernel_rfl).symm.trans hf) |>.symm
      obtain rfl : fn = Tryd.f4 := (Option.some.inj (Tryd.func4.symm.trans hfn)).symm
      exact ⟨by kernel_rfl, fun j t ht => by
        rw [Tryd.params4] at ht
        have hm : t ∈ [24, 25, 9, 9, 3, 5, 5] := by simpa using Array.mem_of_getElem? ht
        have hall : ([24, 25, 9, 9, 3, 5, 5].all fun u => !Tryd.prog.wantsStandIn u) = true := by kernel_rfl
        exact (show Tryd.prog.wantsStandIn t = false by simpa using List.all_eq_true.1 hall t hm)⟩)
    (by kernel_rfl)
end DatabaseFindsProof

theorem databaseFinds_proved : Rows.DatabaseFindsCardSaid := DatabaseFindsProof.card
#print axioms databaseFinds_proved
end Go.Proofs.YtfagmeafkddibaaDoor

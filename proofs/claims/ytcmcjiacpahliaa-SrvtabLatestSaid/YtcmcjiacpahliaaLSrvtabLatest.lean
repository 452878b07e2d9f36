/-
  The statement SrvtabLatest: the law returns true for every input; no conditions.
-/
import Derived.Test.YtcmcjiacpahliaaCSrvL
import Derived.Test.YtcmcjiacpahliaaLOwn
set_option linter.all false
namespace Go.Sx
open Go.Proofs Go.RowKit
noncomputable def g6 : Par := par 102 (nthLL [[0, 1, 2, 3], [0, 1, 2, 3, 20], [8], [0, 1, 2, 3, 23], [8], [1, 2, 3, 9], [2, 9, 10, 11], [2, 9, 10, 11, 12], [2, 9, 10, 11, 12, 14], [2, 9, 10, 11, 12, 14, 15, 16], [2, 9, 10, 11, 12, 15, 16, 58], [8], [2, 9, 10, 11, 12, 15, 16, 17, 18], [9, 10, 11, 15, 89], [8], [8]]) [8] (nthLL [[], [], [], [], [], [], [], [], [], [0, 0, 0, 4, 0, 30, 63, 127, 255, 255, 511, 2047], [], [], [], [], [], [0, 0, 3, 7, 15, 15, 63, 15, 15, 511, 1023, 2047, 4095]])
set_option maxRecDepth 10000
set_option maxHeartbeats 16000000
theorem c_SrvtabLatest (l : List UInt8) (who kv ot : UInt8) : Fn Try.prog 6 [.o (.sl (l.map u8) l.length), .o (.i .u8 (who.toNat : Int)), .o (.i .u8 (kv.toNat : Int)), .o (.i .u8 (ot.toNat : Int))] [] (.one (.c (.o (.b true)))) [] := by
  have hw := byte_lt who
  have hk := byte_lt kv
  have ho := byte_lt ot
  refine Fn_intro (G := g6) (goodA rfl) (fn := Try.f6) rfl rfl rfl rfl rfl ?_
  by_cases hl : l.length > 200
  · (repeat' ((conv => whnf) <;> first | exact rfl | with_reducible refine boolK_dec (fun _ => ?_) (fun _ => ?_) <;> try (exfalso; omega) | refine boolK_beq (fun _ => ?_) (fun _ => ?_) <;> try (exfalso; first | omega | contradiction) | refine boolK_bne (fun _ => ?_) (fun _ => ?_) <;> try (exfalso; first | omega | contradiction) | (with_reducible first | refine boolK_not ?_ | refine boolK_and ?_ | refine boolK_or ?_ | refine boolK_true ?_ | refine boolK_false ?_) | refine boolK_intro (fun _ => ?_) (fun _ => ?_) <;> try (exfalso; simp_all; done) | refine jC ?_ | refine jD ?_ | refine jE ?_ | refine jF ?_ | refine jG ?_ | with_reducible refine natK_lit ?_ | refine natK_of rfl ?_ | refine natK_any ?_ | refine jP ?_ | refine jQ ?_ | refine jR ?_ | refine jS ?_ | refine jT ?_ | refine jU (fun _ => ?_) | refine jV ?_ | refine jW ?_ | refine jX ?_ | refine jY ?_ | refine jZ ?_ | refine ja ?_ | refine jb ?_ | refine jc ?_ | refine jd ?_ | refine je ?_ | refine jf ?_ | refine jg ?_ | refine jh ?_ | refine ji ?_ | refine jj ?_ | refine jk ?_ | refine jn ?_ | refine jo ?_ | refine jp ?_ | refine jq ?_ | refine jr ?_ | refine js ?_ | refine callK_intro (c_awake13) ?_ | refine jt ?_ | refine jx ?_ | refine jy ?_ | refine ju ?_ | refine jv ?_)) <;> (try (conv => whnf))
  · have cG := c_GoodKeys l rfl (by omega)
    have hG := goodS_good l
    have cS := c_Service (who.toNat : Int) (by omega)
    have cT := c_Service (ot.toNat : Int) (by omega)
    have cL := c_Long 77 (by omega)
    have v : validS (serviceN (who.toNat : Int)) (serviceI (who.toNat : Int)) (realmN ((who.toNat : Int) / 3)) = true := by
      obtain ⟨h1, h2⟩ := service_valid (who.toNat : Int)
      unfold validS
      rw [h1, h2, realm_valid]; rfl
    have vk := (long_ok (n := 77) (by omega)).1
    generalize serviceN (who.toNat : Int) = N at *
    generalize serviceI (who.toNat : Int) = I at *
    generalize realmN ((who.toNat : Int) / 3) = R at *
    generalize serviceN (ot.toNat : Int) = N' at *
    generalize serviceI (ot.toNat : Int) = I' at *
    generalize realmN ((ot.toNat : Int) / 3) = R' at *
    generalize longK 77 = K at *
    generalize goodS l = O at *
    have h60 := hG.1
    have hO : ∀ s ∈ O, skSm 1000 s := fun s hs => sk_grow (by omega) (sk_small (hG.2.1 s hs))
    have hs := sk_small (s := ⟨N, I, R, (kv.toNat : Int), K⟩) ⟨v, (by omega : 0 ≤ (kv.toNat : Int) ∧ (kv.toNat : Int) ≤ 255), vk⟩
    have c1 := c_srvLatest O rfl (by omega) N I R
    have c2 := c_srvFind O rfl (by omega) N I R (kv.toNat : Int)
    have c3 := c_srvAdd O rfl (by omega) hO N I R (kv.toNat : Int) K (sk_grow (by omega) hs)
    have c6 := c_srvLatest O rfl (by omega) N' I' R'
    by_cases hx : O.length = 60 ∨ (skF O N I R (kv.toNat : Int)).2 = true
    · have e : (skA O ⟨N, I, R, (kv.toNat : Int), K⟩).2 ≠ 0 := by
        rcases hx with h | h
        · exact add_full _ h
        · exact add_had h
      generalize skA O ⟨N, I, R, (kv.toNat : Int), K⟩ = X at *
      generalize skF O N I R (kv.toNat : Int) = Y at *
      (repeat' ((conv => whnf) <;> first | exact rfl | with_reducible refine boolK_dec (fun _ => ?_) (fun _ => ?_) <;> try (exfalso; omega) | refine boolK_beq (fun _ => ?_) (fun _ => ?_) <;> try (exfalso; first | omega | contradiction) | refine boolK_bne (fun _ => ?_) (fun _ => ?_) <;> try (exfalso; first | omega | contradiction) | (with_reducible first | refine boolK_not ?_ | refine boolK_and ?_ | refine boolK_or ?_ | refine boolK_true ?_ | refine boolK_false ?_) | refine boolK_intro (fun _ => ?_) (fun _ => ?_) <;> try (exfalso; simp_all; done) | refine jC ?_ | refine jD ?_ | refine jE ?_ | refine jF ?_ | refine jG ?_ | with_reducible refine natK_lit ?_ | refine natK_of rfl ?_ | refine natK_any ?_ | refine jP ?_ | refine jQ ?_ | refine jR ?_ | refine jS ?_ | refine jT ?_ | refine jU (fun _ => ?_) | refine jV ?_ | refine jW ?_ | refine jX ?_ | refine jY ?_ | refine jZ ?_ | refine ja ?_ | refine jb ?_ | refine jc ?_ | refine jd ?_ | refine je ?_ | refine jf ?_ | refine jg ?_ | refine jh ?_ | refine ji ?_ | refine jj ?_ | refine jk ?_ | refine jn ?_ | refine jo ?_ | refine jp ?_ | refine jq ?_ | refine jr ?_ | refine js ?_ | refine callK_intro (c_awake13) ?_ | refine callK_intro (cG) ?_ | refine callK_intro (cS) ?_ | refine callK_intro (cT) ?_ | refine callK_intro (cL) ?_ | refine callK_intro (c1) ?_ | refine callK_intro (c2) ?_ | refine callK_intro (c3) ?_ | refine jt ?_ | refine jx ?_ | refine jy ?_ | refine ju ?_ | refine sideK_intro (by first | (exact congrArg (fun x => [L.b x]) (by simp [e]))) ?_ | refine jv ?_)) <;> (try (conv => whnf))
    · have hy : (skF O N I R (kv.toNat : Int)).2 = false := by
        cases h : (skF O N I R (kv.toNat : Int)).2 with
        | true => exact absurd (.inr h) hx
        | false => rfl
      have hz : O.length < 60 := by omega
      obtain ⟨e1, e2⟩ := add_new (k := K) hG hz ⟨v, (by omega : 0 ≤ (kv.toNat : Int) ∧ (kv.toNat : Int) ≤ 255), vk⟩ hy
      have c4 := c_srvFind (O ++ [⟨N, I, R, (kv.toNat : Int), K⟩]) (m := O.length + 1) (by simp) (by simp; omega) N I R (kv.toNat : Int)
      have c5 := c_srvLatest (O ++ [⟨N, I, R, (kv.toNat : Int), K⟩]) (m := O.length + 1) (by simp) (by simp; omega) N I R
      have c7 := c_srvLatest (O ++ [⟨N, I, R, (kv.toNat : Int), K⟩]) (m := O.length + 1) (by simp) (by simp; omega) N' I' R'
      have e3 := lat_same (O := O) (x := N) (y := I) (z := R) (n := (kv.toNat : Int)) (k := K) (by omega)
      have e4 := fun h => lat_other (O := O) (x := N) (y := I) (z := R) (u := N') (v := I') (w := R') (n := (kv.toNat : Int)) (k := K) h
      rw [e1] at c3
      rw [e2] at c4
      rw [e3] at c5
      rw [List.length_append, List.length_singleton] at c3
      generalize O ++ [(⟨N, I, R, (kv.toNat : Int), K⟩ : SK)] = O' at *
      generalize skF O N I R (kv.toNat : Int) = Y at *
      generalize latS O N I R = A at *
      generalize latS O' N' I' R' = B at *
      generalize latS O N' I' R' = C at *
      (repeat' ((conv => whnf) <;> first | with_reducible refine boolK_refl ?_ | exact rfl | with_reducible refine boolK_dec (fun _ => ?_) (fun _ => ?_) <;> try (exfalso; omega) | refine boolK_beq (fun _ => ?_) (fun _ => ?_) <;> try (exfalso; first | omega | contradiction) | refine boolK_bne (fun _ => ?_) (fun _ => ?_) <;> try (exfalso; first | omega | contradiction) | (with_reducible first | refine boolK_not ?_ | refine boolK_and ?_ | refine boolK_or ?_ | refine boolK_true ?_ | refine boolK_false ?_) | refine boolK_intro (fun _ => ?_) (fun _ => ?_) <;> try (exfalso; simp_all; done) | refine jC ?_ | refine jD ?_ | refine jE ?_ | refine jF ?_ | refine jG ?_ | with_reducible refine natK_lit ?_ | refine natK_of rfl ?_ | refine natK_any ?_ | refine jP ?_ | refine jQ ?_ | refine jR ?_ | refine jS ?_ | refine jT ?_ | refine jU (fun _ => ?_) | refine jV ?_ | refine jW ?_ | refine jX ?_ | refine jY ?_ | refine jZ ?_ | refine ja ?_ | refine jb ?_ | refine jc ?_ | refine jd ?_ | refine je ?_ | refine jf ?_ | refine jg ?_ | refine jh ?_ | refine ji ?_ | refine jj ?_ | refine jk ?_ | refine jn ?_ | refine jo ?_ | refine jp ?_ | refine jq ?_ | refine jr ?_ | refine js ?_ | refine callK_intro (c_awake13) ?_ | refine callK_intro (cG) ?_ | refine callK_intro (cS) ?_ | refine callK_intro (cT) ?_ | refine callK_intro (cL) ?_ | refine callK_intro (c1) ?_ | refine callK_intro (c2) ?_ | refine callK_intro (c3) ?_ | refine callK_intro (c4) ?_ | refine callK_intro (c5) ?_ | refine callK_intro (c6) ?_ | refine callK_intro (c7) ?_ | refine jt ?_ | refine jx ?_ | refine jy ?_ | refine ju ?_ | refine sideK_intro (by first | (rw [e4 (by rintro ⟨_, _, _⟩; contradiction)]; simp; done)) ?_ | refine jv ?_)) <;> (try (conv => whnf))
end Go.Sx
namespace Go.Proofs.Ytcmcjiacpahliaa
open Go.ChangeShapes Go.WideShapes Go.ChangeAt Go.RowKit Go.Sx
namespace SrvtabLatestProof
set_option maxRecDepth 100000 in
theorem walk (W : World) (v0 v1 v2 v3 : Value) (ls0 ls1 ls2 ls3 : List L)
    (t0 : Typ (tabF tab) 41 ls0) (t1 : Typ (tabF tab) 5 ls1) (t2 : Typ (tabF tab) 5 ls2) (t3 : Typ (tabF tab) 5 ls3)
    (r0 : RelC (fun _ => False) W noMu (argC (tabF tab 41).agg ls0) v0) (r1 : RelC (fun _ => False) W noMu (argC (tabF tab 5).agg ls1) v1) (r2 : RelC (fun _ => False) W noMu (argC (tabF tab 5).agg ls2) v2) (r3 : RelC (fun _ => False) W noMu (argC (tabF tab 5).agg ls3) v3) :
    Calls Try.prog 6 #[v0, v1, v2, v3] W fun e w' => e = .returned (.bool true) ∧ Below W.heap.size W w' := by
  obtain ⟨a0, rfl⟩ := typ_bytes t0 rfl rfl
  obtain ⟨a1, rfl⟩ := typ_u8 t1 rfl
  obtain ⟨a2, rfl⟩ := typ_u8 t2 rfl
  obtain ⟨a3, rfl⟩ := typ_u8 t3 rfl
  exact calls_of_fn Try.func6 rfl rfl (c_SrvtabLatest a0 a1 a2 a3) (relCs_cons r0 (relCs_cons r1 (relCs_cons r2 (relCs_cons r3 relCs_nil))))

set_option maxRecDepth 100000 in
theorem lifted (os : Os) (started : os.Started) (H : Type) (enc : TypeId × Value → H) :
    ReturnsInHanded {} Try.checked os 6 .any (Rows.srvtabLatestSpec.pre6 enc Try.prog Try.f6 Rows.srvtabLatestRow.domain false) (Rows.srvtabLatestSpec.post enc Try.prog Try.f6 false true false false) := by
  refine returnsInHanded_of_change (C := Try.checked) ownA started (by kernel_rfl) Try.func6
    (ChangeSpec.witness6 (enc := enc) (C := Try.checked) false ⟨#[], #[.slice none 0 0, .int .u8 0, .int .u8 0, .int .u8 0], []⟩ 8 (by kernel_rfl) (by kernel_rfl) (by kernel_rfl) (by kernel_rfl)) ?_
  intro W base args ds gs before hval0 hW hcnd _
  have hval : ∀ (j : Nat) t v, Try.f6.params[j]? = some t → args[j]? = some v → Value.okWide Try.prog W .any base t v := hval0
  have hW' := hW
  obtain ⟨p, q, hA0, hV, rfl, hfz, hnd⟩ := hW
  have hA : DataW.TrodAll enc Try.prog W 0 (fun _ => true) true Try.f6.params.toList args.toList ds p := hA0
  rw [Try.params6] at hA hval
  obtain ⟨v0, vs0, d0, ds0, p0, q0, hargs, rfl, rfl, h0, r0⟩ := trodAll_cons hA
  obtain ⟨v1, vs1, d1, ds1, p1, q1, rfl, rfl, rfl, h1, r1⟩ := trodAll_cons r0
  obtain ⟨v2, vs2, d2, ds2, p2, q2, rfl, rfl, rfl, h2, r2⟩ := trodAll_cons r1
  obtain ⟨v3, vs3, d3, ds3, p3, q3, rfl, rfl, rfl, h3, r3⟩ := trodAll_cons r2
  obtain ⟨rfl, rfl, rfl⟩ := trodAll_nil r3
  obtain rfl : args = #[v0, v1, v2, v3] := by cases args; simp_all
  obtain ⟨rfl, rfl⟩ := trodVars_none hV
  obtain ⟨ls0, t0, c0⟩ := rel_arg tokA (n := 9) rfl h0 (hval 0 41 v0 rfl rfl)
  obtain ⟨ls1, t1, c1⟩ := rel_arg tokA (n := 9) rfl h1 (hval 1 5 v1 rfl rfl)
  obtain ⟨ls2, t2, c2⟩ := rel_arg tokA (n := 9) rfl h2 (hval 2 5 v2 rfl rfl)
  obtain ⟨ls3, t3, c3⟩ := rel_arg tokA (n := 9) rfl h3 (hval 3 5 v3 rfl rfl)
  have lt0 : ∀ x ∈ p0, x.block < W.heap.size := by obtain ⟨m, hm⟩ := h0; exact DataW.trod_lt m _ _ _ hm
  have lt1 : ∀ x ∈ p1, x.block < W.heap.size := by obtain ⟨m, hm⟩ := h1; exact DataW.trod_lt m _ _ _ hm
  have lt2 : ∀ x ∈ p2, x.block < W.heap.size := by obtain ⟨m, hm⟩ := h2; exact DataW.trod_lt m _ _ _ hm
  have lt3 : ∀ x ∈ p3, x.block < W.heap.size := by obtain ⟨m, hm⟩ := h3; exact DataW.trod_lt m _ _ _ hm
  clear hA0 hval0
  refine (walk W v0 v1 v2 v3 ls0 ls1 ls2 ls3 t0 t1 t2 t3 c0 c1 c2 c3).mono fun e W' ⟨he, bel⟩ => ?_
  subst he
  exact ⟨_, rfl, _, _, _, [], _, [], hW', trodAll_mk1 (shut_bool Try.underlying4 _), (trodAll_cons_mk (Below.trod laidOutA (by kernel_rfl) (of_decide_eq_true (by kernel_rfl)) h0 bel lt0) (trodAll_cons_mk (Below.trod laidOutA (by kernel_rfl) (of_decide_eq_true (by kernel_rfl)) h1 bel lt1) (trodAll_cons_mk (Below.trod laidOutA (by kernel_rfl) (of_decide_eq_true (by kernel_rfl)) h2 bel lt2) (trodAll_cons_mk (Below.trod laidOutA (by kernel_rfl) (of_decide_eq_true (by kernel_rfl)) h3 bel lt3) trodAll_mk0)))), rfl, bel.frame _, fun h => by cases h⟩

theorem over : Rows.srvtabLatestRow.holds Try.pinned (OpenSpec.ofChange Rows.srvtabLatestSpec) :=
  OpenClaim.holds_of_wide 6 Try.f6 rfl rfl rfl rfl rfl rfl rfl ⟨rfl, rfl, rfl, rfl, rfl⟩ rfl rfl rfl rfl rfl (by kernel_rfl) Try.func6 (by kernel_rfl)
    (of_decide_eq_true (by kernel_rfl)) (by unfold Func.isWrapper; first | (rw [if_pos (by decide +kernel)]; kernel_rfl) | (rw [if_neg (by decide +kernel)]; exact ⟨rfl, rfl⟩))
    (fun os started H enc _ => lifted os started H enc)
end SrvtabLatestProof

theorem srvtabLatest_proved : Rows.SrvtabLatestSaid := SrvtabLatestProof.over
#print axioms srvtabLatest_proved
end Go.Proofs.Ytcmcjiacpahliaa

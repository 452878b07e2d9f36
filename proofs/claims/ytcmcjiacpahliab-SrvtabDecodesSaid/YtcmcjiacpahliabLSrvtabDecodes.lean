/-
  The statement SrvtabDecodes: the law returns true for every input; no conditions.
-/
import Derived.Test.YtcmcjiacpahliabCSrvL
import Derived.Test.YtcmcjiacpahliabCSrvD
import Derived.Test.YtcmcjiacpahliabLOwn
set_option linter.all false
namespace Go.Sx
open Go.Proofs Go.RowKit
noncomputable def g4 : Par := par 63 (nthLL [[0, 1, 2], [0, 1, 2, 16], [6], [0, 1, 2, 24], [6], [0, 2, 7], [0, 2, 7, 9], [0, 2, 7, 9, 32], [0, 2, 7, 9], [0, 2, 7, 9, 10], [0, 2, 7, 9, 10, 11, 12], [0, 2, 7, 9, 11, 12, 13, 14], [0, 2, 7, 9, 62], [6], [6]]) [6] (nthLL [])
set_option maxRecDepth 10000
set_option maxHeartbeats 16000000
theorem c_SrvtabDecodes (b l : List UInt8) (h : Int) (hh : 0 ≤ h ∧ h ≤ 65535) : Fn Try.prog 4 [.o (.sl (b.map u8) b.length), .o (.sl (l.map u8) l.length), .o (.i .u16 h)] [] (.one (.c (.o (.b true)))) [] := by
  refine Fn_intro (G := g4) (goodA rfl) (fn := Try.f4) rfl rfl rfl rfl rfl ?_
  by_cases hlong : b.length > 400 ∨ l.length > 100
  · (repeat' ((conv => whnf) <;> first | exact rfl | with_reducible refine boolK_dec (fun _ => ?_) (fun _ => ?_) <;> try (exfalso; omega) | refine boolK_beq (fun _ => ?_) (fun _ => ?_) <;> try (exfalso; first | omega | contradiction) | refine boolK_bne (fun _ => ?_) (fun _ => ?_) <;> try (exfalso; first | omega | contradiction) | (with_reducible first | refine boolK_not ?_ | refine boolK_and ?_ | refine boolK_or ?_ | refine boolK_true ?_ | refine boolK_false ?_) | refine boolK_intro (fun _ => ?_) (fun _ => ?_) <;> try (exfalso; simp_all; done) | refine jA ?_ | refine jB ?_ | refine jH ?_ | refine jI ?_ | refine jJ ?_ | refine jK ?_ | with_reducible refine natK_lit ?_ | refine natK_of rfl ?_ | refine natK_any ?_ | refine jP ?_ | refine jQ ?_ | refine jR ?_ | refine jS ?_ | refine jT ?_ | refine jU (fun _ => ?_) | refine jV ?_ | refine jW ?_ | refine jX ?_ | refine jY ?_ | refine jZ ?_ | refine ja ?_ | refine jb ?_ | refine jc ?_ | refine jd ?_ | refine je ?_ | refine jf ?_ | refine jg ?_ | refine jh ?_ | refine ji ?_ | refine jj ?_ | refine jk ?_ | refine jn ?_ | refine jo ?_ | refine jp ?_ | refine jq ?_ | refine jr ?_ | refine js ?_ | refine callK_intro (c_awake13) ?_ | refine jt ?_ | refine jx ?_ | refine jy ?_ | refine ju ?_ | refine jv ?_)) <;> (try (conv => whnf))
  · have cG := c_GoodKeys l rfl (by omega)
    have hG := goodS_good l
    have hGs : ∀ s ∈ goodS l, skSm 1000 s := fun s hs => sk_grow (by omega) (sk_small (hG.2.1 s hs))
    have h60 := hG.1
    generalize goodS l = G at *
    have cE := c_rsrvEncode G rfl (by omega) hGs
    have lE := skN_len G
    generalize (skN G).1 = E at *
    generalize (skN G).2 = e at *
    obtain ⟨r, br, cS⟩ := c_Spoil E rfl (by omega) h hh
    have d1 := c_srvDecode b rfl (by omega)
    have d2 := c_rsrvDecode b rfl (by omega)
    have d3 := c_srvDecode E rfl (by omega)
    have d4 := c_rsrvDecode E rfl (by omega)
    have d5 := c_srvDecode r rfl (by omega)
    have d6 := c_rsrvDecode r rfl (by omega)
    have s1 := c_rsrvSame (skD b).1 rfl rfl (Nat.le_trans (skD_len b) (by omega))
    have s2 := c_rsrvSame (skD E).1 rfl rfl (Nat.le_trans (skD_len E) (by omega))
    have s3 := c_rsrvSame (skD r).1 rfl rfl (Nat.le_trans (skD_len r) (by omega))
    generalize skD b = D1 at *
    generalize skD E = D2 at *
    generalize skD r = D3 at *
    (repeat' ((conv => whnf) <;> first | with_reducible refine boolK_refl ?_ | refine natK_of (j := 0) (by omega) ?_ | refine natK_of (j := 1) (by omega) ?_ | refine natK_of (j := 2) (by omega) ?_ | exact rfl | with_reducible refine boolK_dec (fun _ => ?_) (fun _ => ?_) <;> try (exfalso; omega) | refine boolK_beq (fun _ => ?_) (fun _ => ?_) <;> try (exfalso; first | omega | contradiction) | refine boolK_bne (fun _ => ?_) (fun _ => ?_) <;> try (exfalso; first | omega | contradiction) | (with_reducible first | refine boolK_not ?_ | refine boolK_and ?_ | refine boolK_or ?_ | refine boolK_true ?_ | refine boolK_false ?_) | refine boolK_intro (fun _ => ?_) (fun _ => ?_) <;> try (exfalso; simp_all; done) | refine jA ?_ | refine jB ?_ | refine jH ?_ | refine jI ?_ | refine jJ ?_ | refine jK ?_ | with_reducible refine natK_lit ?_ | refine natK_of rfl ?_ | refine natK_any ?_ | refine jP ?_ | refine jQ ?_ | refine jR ?_ | refine jS ?_ | refine jT ?_ | refine jU (fun _ => ?_) | refine jV ?_ | refine jW ?_ | refine jX ?_ | refine jY ?_ | refine jZ ?_ | refine ja ?_ | refine jb ?_ | refine jc ?_ | refine jd ?_ | refine je ?_ | refine jf ?_ | refine jg ?_ | refine jh ?_ | refine ji ?_ | refine jj ?_ | refine jk ?_ | refine jn ?_ | refine jo ?_ | refine jp ?_ | refine jq ?_ | refine jr ?_ | refine js ?_ | refine callK_intro (c_awake13) ?_ | refine callK_intro (cG) ?_ | refine callK_intro (cE) ?_ | refine callK_intro (cS) ?_ | refine callK_intro (d1) ?_ | refine callK_intro (d2) ?_ | refine callK_intro (d3) ?_ | refine callK_intro (d4) ?_ | refine callK_intro (d5) ?_ | refine callK_intro (d6) ?_ | refine callK_intro (s1) ?_ | refine callK_intro (s2) ?_ | refine callK_intro (s3) ?_ | refine loopK_step (G := g4) ?_ | refine jt ?_ | refine jx ?_ | refine jy ?_ | refine ju ?_ | refine jv ?_)) <;> (try (conv => whnf))
end Go.Sx
namespace Go.Proofs.Ytcmcjiacpahliab
open Go.ChangeShapes Go.WideShapes Go.ChangeAt Go.RowKit Go.Sx
namespace SrvtabDecodesProof
set_option maxRecDepth 100000 in
theorem walk (W : World) (v0 v1 v2 : Value) (ls0 ls1 ls2 : List L)
    (t0 : Typ (tabF tab) 23 ls0) (t1 : Typ (tabF tab) 23 ls1) (t2 : Typ (tabF tab) 42 ls2)
    (r0 : RelC (fun _ => False) W noMu (argC (tabF tab 23).agg ls0) v0) (r1 : RelC (fun _ => False) W noMu (argC (tabF tab 23).agg ls1) v1) (r2 : RelC (fun _ => False) W noMu (argC (tabF tab 42).agg ls2) v2) :
    Calls Try.prog 4 #[v0, v1, v2] W fun e w' => e = .returned (.bool true) ∧ Below W.heap.size W w' := by
  obtain ⟨a0, rfl⟩ := typ_bytes t0 rfl rfl
  obtain ⟨a1, rfl⟩ := typ_bytes t1 rfl rfl
  obtain ⟨a2, rfl, wa2⟩ := typ_int t2 rfl
  exact calls_of_fn Try.func4 rfl rfl (c_SrvtabDecodes a0 a1 a2 (wf_u16 wa2)) (relCs_cons r0 (relCs_cons r1 (relCs_cons r2 relCs_nil)))

set_option maxRecDepth 100000 in
theorem lifted (os : Os) (started : os.Started) (H : Type) (enc : TypeId × Value → H) :
    ReturnsInHanded {} Try.checked os 4 .any (Rows.srvtabDecodesSpec.pre6 enc Try.prog Try.f4 Rows.srvtabDecodesRow.domain false) (Rows.srvtabDecodesSpec.post enc Try.prog Try.f4 false true false false) := by
  refine returnsInHanded_of_change (C := Try.checked) ownA started (by kernel_rfl) Try.func4
    (ChangeSpec.witness6 (enc := enc) (C := Try.checked) false ⟨#[], #[.slice none 0 0, .slice none 0 0, .int .u16 0], []⟩ 8 (by kernel_rfl) (by kernel_rfl) (by kernel_rfl) (by kernel_rfl)) ?_
  intro W base args ds gs before hval0 hW hcnd _
  have hval : ∀ (j : Nat) t v, Try.f4.params[j]? = some t → args[j]? = some v → Value.okWide Try.prog W .any base t v := hval0
  have hW' := hW
  obtain ⟨p, q, hA0, hV, rfl, hfz, hnd⟩ := hW
  have hA : DataW.TrodAll enc Try.prog W 0 (fun _ => true) true Try.f4.params.toList args.toList ds p := hA0
  rw [Try.params4] at hA hval
  obtain ⟨v0, vs0, d0, ds0, p0, q0, hargs, rfl, rfl, h0, r0⟩ := trodAll_cons hA
  obtain ⟨v1, vs1, d1, ds1, p1, q1, rfl, rfl, rfl, h1, r1⟩ := trodAll_cons r0
  obtain ⟨v2, vs2, d2, ds2, p2, q2, rfl, rfl, rfl, h2, r2⟩ := trodAll_cons r1
  obtain ⟨rfl, rfl, rfl⟩ := trodAll_nil r2
  obtain rfl : args = #[v0, v1, v2] := by cases args; simp_all
  obtain ⟨rfl, rfl⟩ := trodVars_none hV
  obtain ⟨ls0, t0, c0⟩ := rel_arg tokA (n := 9) rfl h0 (hval 0 23 v0 rfl rfl)
  obtain ⟨ls1, t1, c1⟩ := rel_arg tokA (n := 9) rfl h1 (hval 1 23 v1 rfl rfl)
  obtain ⟨ls2, t2, c2⟩ := rel_arg tokA (n := 9) rfl h2 (hval 2 42 v2 rfl rfl)
  have lt0 : ∀ x ∈ p0, x.block < W.heap.size := by obtain ⟨m, hm⟩ := h0; exact DataW.trod_lt m _ _ _ hm
  have lt1 : ∀ x ∈ p1, x.block < W.heap.size := by obtain ⟨m, hm⟩ := h1; exact DataW.trod_lt m _ _ _ hm
  have lt2 : ∀ x ∈ p2, x.block < W.heap.size := by obtain ⟨m, hm⟩ := h2; exact DataW.trod_lt m _ _ _ hm
  clear hA0 hval0
  refine (walk W v0 v1 v2 ls0 ls1 ls2 t0 t1 t2 c0 c1 c2).mono fun e W' ⟨he, bel⟩ => ?_
  subst he
  exact ⟨_, rfl, _, _, _, [], _, [], hW', trodAll_mk1 (shut_bool Try.underlying4 _), (trodAll_cons_mk (Below.trod laidOutA (by kernel_rfl) (of_decide_eq_true (by kernel_rfl)) h0 bel lt0) (trodAll_cons_mk (Below.trod laidOutA (by kernel_rfl) (of_decide_eq_true (by kernel_rfl)) h1 bel lt1) (trodAll_cons_mk (Below.trod laidOutA (by kernel_rfl) (of_decide_eq_true (by kernel_rfl)) h2 bel lt2) trodAll_mk0))), rfl, bel.frame _, fun h => by cases h⟩

theorem over : Rows.srvtabDecodesRow.holds Try.pinned (OpenSpec.ofChange Rows.srvtabDecodesSpec) :=
  OpenClaim.holds_of_wide 4 Try.f4 rfl rfl rfl rfl rfl rfl rfl ⟨rfl, rfl, rfl, rfl, rfl⟩ rfl rfl rfl rfl rfl (by kernel_rfl) Try.func4 (by kernel_rfl)
    (of_decide_eq_true (by kernel_rfl)) (by unfold Func.isWrapper; first | (rw [if_pos (by decide +kernel)]; kernel_rfl) | (rw [if_neg (by decide +kernel)]; exact ⟨rfl, rfl⟩))
    (fun os started H enc _ => lifted os started H enc)
end SrvtabDecodesProof

theorem srvtabDecodes_proved : Rows.SrvtabDecodesSaid := SrvtabDecodesProof.over
#print axioms srvtabDecodes_proved
end Go.Proofs.Ytcmcjiacpahliab

/-
  The statement CcacheKeeps: the law returns true for every input; no conditions.
-/
import Derived.Test.YtcmcjiacpahliabCCcL
import Derived.Test.YtcmcjiacpahliabPCcF
import Derived.Test.YtcmcjiacpahliabLOwn
set_option linter.all false
namespace Go.Sx
open Go.Proofs Go.RowKit
noncomputable def g7 : Par := par 114 (nthLL [[0, 1, 2], [0, 1, 2, 20], [6], [0, 1, 2, 28], [6], [1, 7], [7, 8], [7, 8, 9, 10], [7, 8, 9, 10, 11, 12], [7, 8, 9, 66], [6], [7, 8, 9, 13], [7, 8, 9, 13, 68], [7, 8, 9, 13], [7, 8, 9, 13, 14], [7, 8, 9, 13, 14, 76], [7, 8, 9, 13, 14, 15, 16], [7, 8, 9, 13, 15, 16, 17, 18], [7, 8, 9, 13, 97], [6], [6]]) [6] (nthLL [[], [], [], [], [], [], [], [], [], [], [], [], [], [], [], [], [], [], [], [], [0, 1, 3, 7, 15, 31, 63, 31, 159, 415, 927, 2047, 4095, 31, 16383, 32767, 65535]])
set_option maxRecDepth 10000
set_option maxHeartbeats 16000000
theorem c_Credential0 (l : List UInt8) {m : Nat} (hm : m = l.length) (hl : l.length ≤ 900000) : Fn Try.prog 38 [.o (.p 1000 0)] [(1000, .st [.sl (l.map u8) m, .i .i64 0])] (.one (.c (.a [.s (credE l 0).x, .s (credE l 0).y, .s (credE l 0).z, .i .u64 (credE l 0).k, .i .i64 (credE l 0).lf, .i .i64 (credE l 0).kv, .i .i64 (credE l 0).is, .sl ((credE l 0).t.map u8) (credE l 0).t.length]))) [(1000, .st [.sl (l.map u8) m, .i .i64 (atS l (credP l 0))])] := by
  have c := c_Credential l hm hl 0
  rwa [show atS l 0 = 0 by simp [atS]] at c
theorem c_CcacheKeeps (l m : List UInt8) (w : UInt8) : Fn Try.prog 7 [.o (.sl (l.map u8) l.length), .o (.sl (m.map u8) m.length), .o (.i .u8 (w.toNat : Int))] [] (.one (.c (.o (.b true)))) [] := by
  have hw := byte_lt w
  refine Fn_intro (G := g7) (goodA rfl) (fn := Try.f7) rfl rfl rfl rfl rfl ?_
  by_cases hlong : l.length > 300 ∨ m.length > 60
  · (repeat' ((conv => whnf) <;> first | exact rfl | with_reducible refine boolK_dec (fun _ => ?_) (fun _ => ?_) <;> try (exfalso; omega) | refine boolK_beq (fun _ => ?_) (fun _ => ?_) <;> try (exfalso; first | omega | contradiction) | refine boolK_bne (fun _ => ?_) (fun _ => ?_) <;> try (exfalso; first | omega | contradiction) | (with_reducible first | refine boolK_not ?_ | refine boolK_and ?_ | refine boolK_or ?_ | refine boolK_true ?_ | refine boolK_false ?_) | refine boolK_intro (fun _ => ?_) (fun _ => ?_) <;> try (exfalso; simp_all; done) | refine jA ?_ | refine jB ?_ | refine jC ?_ | refine jD ?_ | refine jE ?_ | refine jF ?_ | refine jG ?_ | refine jH ?_ | refine jI ?_ | refine jJ ?_ | refine jK ?_ | with_reducible refine natK_lit ?_ | refine natK_of rfl ?_ | refine natK_any ?_ | refine jP ?_ | refine jQ ?_ | refine jR ?_ | refine jS ?_ | refine jT ?_ | refine jU (fun _ => ?_) | refine jV ?_ | refine jW ?_ | refine jX ?_ | refine jY ?_ | refine jZ ?_ | refine ja ?_ | refine jb ?_ | refine jc ?_ | refine jd ?_ | refine je ?_ | refine jf ?_ | refine jg ?_ | refine jh ?_ | refine ji ?_ | refine jj ?_ | refine jk ?_ | refine jn ?_ | refine jo ?_ | refine jp ?_ | refine jq ?_ | refine jr ?_ | refine js ?_ | refine callK_intro (c_awake15) ?_ | refine jt ?_ | refine jx ?_ | refine jy ?_ | refine ju ?_ | refine jv ?_)) <;> (try (conv => whnf))
  · have cC := c_Cache l rfl (by omega) (w.toNat : Int) (by omega)
    have hG := cachS_good l
    have cY := c_Credential0 m rfl (by omega)
    have hY := credE_ok m 0
    have hv := user_valid (w.toNat : Int) ((w.toNat : Int) / 3)
    generalize userN (w.toNat : Int) = U at *
    generalize realmN ((w.toNat : Int) / 3) = R at *
    generalize cachS l = O at *
    generalize credE m 0 = Y at *
    have h9 := crGood_len hG
    have hs := crV_mem hG
    have hD := crGood_store hG hY
    have h9' := crGood_len hD
    have hs' := crV_mem hD
    have cS := c_crStore U [] R O rfl (by omega) (by have := valid_len hv; simp; omega) hs Y.x Y.y Y.z Y.k Y.lf Y.kv Y.is Y.t rfl (cr_grow (by omega) (crV_small hY.1))
    rw [show (⟨Y.x, Y.y, Y.z, Y.k, Y.lf, Y.kv, Y.is, Y.t⟩ : CR) = Y from rfl, ccS_good hv hG hY] at cS
    have cG := c_crGet U [] R (keepS Y.x Y.y Y.z O ++ [Y]) rfl (by omega) hs' Y.x Y.y Y.z
    rw [crG_new', crR] at cG
    have cK := c_crCheck U [] R (keepS Y.x Y.y Y.z O ++ [Y]) rfl (by omega) (by have := valid_len hv; simp; omega) hs'
    rw [crGood_C hv hD] at cK
    have cQ := c_sameCred Y
    rw [crR] at cQ
    have cL : Fn Try.prog 42 [.a (crR ((keepS Y.x Y.y Y.z O ++ [Y]).getD (keepS Y.x Y.y Y.z O).length cr0)), .a (crR Y)] [] (.one (.c (.o (.b true)))) [] := by rw [keep_last]; exact c_sameCred Y
    rw [crR, crR] at cL
    have hk := fun x y z h => crG_keep (O := O) (Y := Y) (x := x) (y := y) (z := z) h
    have hl1 : (keepS Y.x Y.y Y.z O ++ [Y]).length = (keepS Y.x Y.y Y.z O).length + 1 := by simp
    generalize (keepS Y.x Y.y Y.z O).length = J at *
    generalize keepS Y.x Y.y Y.z O ++ [Y] = D at *
    (repeat' ((conv => whnf) <;> first | exact rfl | with_reducible refine boolK_dec (fun _ => ?_) (fun _ => ?_) <;> try (exfalso; omega) | refine boolK_beq (fun _ => ?_) (fun _ => ?_) <;> try (exfalso; first | omega | contradiction) | refine boolK_bne (fun _ => ?_) (fun _ => ?_) <;> try (exfalso; first | omega | contradiction) | (with_reducible first | refine boolK_not ?_ | refine boolK_and ?_ | refine boolK_or ?_ | refine boolK_true ?_ | refine boolK_false ?_) | refine boolK_intro (fun _ => ?_) (fun _ => ?_) <;> try (exfalso; simp_all; done) | refine jA ?_ | refine jB ?_ | refine jC ?_ | refine jD ?_ | refine jE ?_ | refine jF ?_ | refine jG ?_ | refine jH ?_ | refine jI ?_ | refine jJ ?_ | refine jK ?_ | with_reducible refine natK_lit ?_ | refine natK_of rfl ?_ | refine natK_any ?_ | refine jP ?_ | refine jQ ?_ | refine jR ?_ | refine jS ?_ | refine jT ?_ | refine jU (fun _ => ?_) | refine jV ?_ | refine jW ?_ | refine jX ?_ | refine jY ?_ | refine jZ ?_ | refine ja ?_ | refine jb ?_ | refine jc ?_ | refine jd ?_ | refine je ?_ | refine jf ?_ | refine jg ?_ | refine jh ?_ | refine ji ?_ | refine jj ?_ | refine jk ?_ | refine jn ?_ | refine jo ?_ | refine jp ?_ | refine jq ?_ | refine jr ?_ | refine js ?_ | refine callK_intro (c_awake15) ?_ | refine callK_intro (cC) ?_ | refine callK_intro (cY) ?_ | refine callK_intro (cS) ?_ | refine callK_intro (cG) ?_ | refine callK_intro (cK) ?_ | refine callK_intro (cQ) ?_ | refine jt ?_ | refine jx ?_ | refine jy ?_ | refine ju ?_ | refine jv ?_)) <;> (try (conv => whnf))
    refine loopK_inv (G := g7) (fun k st => ∃ j : Nat, k + j = 9 ∧
      st = ⟨[(7, .c (.o (.p 7 0))), (8, .c (.o (.p 8 0))), (9, .c (.o (.p 9 0))), (13, .c (.o (.i .i64 (j : Int))))], [(7, .st [.s U, .s [], .s R, .sl (flat crR O) O.length]), (8, .st [.s Y.x, .s Y.y, .s Y.z, .i .u64 Y.k, .i .i64 Y.lf, .i .i64 Y.kv, .i .i64 Y.is, .sl (Y.t.map u8) Y.t.length]), (9, .st [.s U, .s [], .s R, .sl (flat crR D) D.length])]⟩) (n := 9) ⟨0, by omega, rfl⟩ ?_
    rintro k st ⟨j, hj, rfl⟩
    by_cases hjl : j < 9
    · have cV := c_Service (j : Int) (by omega)
      generalize serviceN (j : Int) = N at *
      generalize serviceI (j : Int) = I at *
      generalize realmN ((j : Int) / 3) = Q at *
      by_cases hne : N = Y.x ∧ I = Y.y ∧ Q = Y.z
      · obtain ⟨rfl, rfl, rfl⟩ := hne
        (repeat' ((conv => whnf) <;> first | exact rfl | with_reducible refine boolK_dec (fun _ => ?_) (fun _ => ?_) <;> try (exfalso; omega) | refine boolK_beq (fun _ => ?_) (fun _ => ?_) <;> try (exfalso; first | omega | contradiction) | refine boolK_bne (fun _ => ?_) (fun _ => ?_) <;> try (exfalso; first | omega | contradiction) | (with_reducible first | refine boolK_not ?_ | refine boolK_and ?_ | refine boolK_or ?_ | refine boolK_true ?_ | refine boolK_false ?_) | refine boolK_intro (fun _ => ?_) (fun _ => ?_) <;> try (exfalso; simp_all; done) | refine jA ?_ | refine jB ?_ | refine jC ?_ | refine jD ?_ | refine jE ?_ | refine jF ?_ | refine jG ?_ | refine jH ?_ | refine jI ?_ | refine jJ ?_ | refine jK ?_ | with_reducible refine natK_lit ?_ | refine natK_of rfl ?_ | refine natK_any ?_ | refine jP ?_ | refine jQ ?_ | refine jR ?_ | refine jS ?_ | refine jT ?_ | refine jU (fun _ => ?_) | refine jV ?_ | refine jW ?_ | refine jX ?_ | refine jY ?_ | refine jZ ?_ | refine ja ?_ | refine jb ?_ | refine jc ?_ | refine jd ?_ | refine je ?_ | refine jf ?_ | refine jg ?_ | refine jh ?_ | refine ji ?_ | refine jj ?_ | refine jk ?_ | refine jn ?_ | refine jo ?_ | refine jp ?_ | refine jq ?_ | refine jr ?_ | refine js ?_ | refine callK_intro (cV) ?_ | exact ⟨k - 1, by omega, j + 1, by omega, rfl⟩ | refine jt ?_ | refine jx ?_ | refine jy ?_ | refine ju ?_ | refine jv ?_)) <;> (try (conv => whnf))
      · have g1 := c_crGet U [] R O rfl (by omega) hs N I Q
        have g2 := c_crGet U [] R D rfl (by omega) hs' N I Q
        rw [hk N I Q hne] at g2
        have cP := c_sameCred (crG O N I Q).1
        rw [crR] at g1 g2 cP
        generalize crG O N I Q = Z at *
        (repeat' ((conv => whnf) <;> first | exact rfl | with_reducible refine boolK_dec (fun _ => ?_) (fun _ => ?_) <;> try (exfalso; omega) | refine boolK_beq (fun _ => ?_) (fun _ => ?_) <;> try (exfalso; first | omega | contradiction) | refine boolK_bne (fun _ => ?_) (fun _ => ?_) <;> try (exfalso; first | omega | contradiction) | (with_reducible first | refine boolK_not ?_ | refine boolK_and ?_ | refine boolK_or ?_ | refine boolK_true ?_ | refine boolK_false ?_) | refine boolK_intro (fun _ => ?_) (fun _ => ?_) <;> try (exfalso; simp_all; done) | refine jA ?_ | refine jB ?_ | refine jC ?_ | refine jD ?_ | refine jE ?_ | refine jF ?_ | refine jG ?_ | refine jH ?_ | refine jI ?_ | refine jJ ?_ | refine jK ?_ | with_reducible refine natK_lit ?_ | refine natK_of rfl ?_ | refine natK_any ?_ | refine jP ?_ | refine jQ ?_ | refine jR ?_ | refine jS ?_ | refine jT ?_ | refine jU (fun _ => ?_) | refine jV ?_ | refine jW ?_ | refine jX ?_ | refine jY ?_ | refine jZ ?_ | refine ja ?_ | refine jb ?_ | refine jc ?_ | refine jd ?_ | refine je ?_ | refine jf ?_ | refine jg ?_ | refine jh ?_ | refine ji ?_ | refine jj ?_ | refine jk ?_ | refine jn ?_ | refine jo ?_ | refine jp ?_ | refine jq ?_ | refine jr ?_ | refine js ?_ | refine callK_intro (cV) ?_ | refine callK_intro (g1) ?_ | refine callK_intro (g2) ?_ | refine callK_intro (cP) ?_ | exact ⟨k - 1, by omega, j + 1, by omega, rfl⟩ | refine jt ?_ | refine jx ?_ | refine jy ?_ | refine ju ?_ | refine jv ?_)) <;> (try (conv => whnf))
        all_goals (exfalso; exact hne ⟨by assumption, by assumption, by assumption⟩)
    · (repeat' ((conv => whnf) <;> first | refine natK_of (j := J) (by omega) ?_ | exact rfl | with_reducible refine boolK_dec (fun _ => ?_) (fun _ => ?_) <;> try (exfalso; omega) | refine boolK_beq (fun _ => ?_) (fun _ => ?_) <;> try (exfalso; first | omega | contradiction) | refine boolK_bne (fun _ => ?_) (fun _ => ?_) <;> try (exfalso; first | omega | contradiction) | (with_reducible first | refine boolK_not ?_ | refine boolK_and ?_ | refine boolK_or ?_ | refine boolK_true ?_ | refine boolK_false ?_) | refine boolK_intro (fun _ => ?_) (fun _ => ?_) <;> try (exfalso; simp_all; done) | refine jA ?_ | refine jB ?_ | refine jC ?_ | refine jD ?_ | refine jE ?_ | refine jF ?_ | refine jG ?_ | refine jH ?_ | refine jI ?_ | refine jJ ?_ | refine jK ?_ | with_reducible refine natK_lit ?_ | refine natK_of rfl ?_ | refine natK_any ?_ | refine jP ?_ | refine jQ ?_ | refine jR ?_ | refine jS ?_ | refine jT ?_ | refine jU (fun _ => ?_) | refine jV ?_ | refine jW ?_ | refine jX ?_ | refine jY ?_ | refine jZ ?_ | refine ja ?_ | refine jb ?_ | refine jc ?_ | refine jd ?_ | refine je ?_ | refine jf ?_ | refine jg ?_ | refine jh ?_ | refine ji ?_ | refine jj ?_ | refine jk ?_ | refine jn ?_ | refine jo ?_ | refine jp ?_ | refine jq ?_ | refine jr ?_ | refine js ?_ | refine callK_intro (cL) ?_ | refine headS_cr (l := D) (j := J) (by omega) ?_ | refine jt ?_ | refine jx ?_ | refine jy ?_ | refine ju ?_ | refine jv ?_)) <;> (try (conv => whnf))
end Go.Sx
namespace Go.Proofs.Ytcmcjiacpahliab
open Go.ChangeShapes Go.WideShapes Go.ChangeAt Go.RowKit Go.Sx
namespace CcacheKeepsProof
set_option maxRecDepth 100000 in
theorem walk (W : World) (v0 v1 v2 : Value) (ls0 ls1 ls2 : List L)
    (t0 : Typ (tabF tab) 23 ls0) (t1 : Typ (tabF tab) 23 ls1) (t2 : Typ (tabF tab) 5 ls2)
    (r0 : RelC (fun _ => False) W noMu (argC (tabF tab 23).agg ls0) v0) (r1 : RelC (fun _ => False) W noMu (argC (tabF tab 23).agg ls1) v1) (r2 : RelC (fun _ => False) W noMu (argC (tabF tab 5).agg ls2) v2) :
    Calls Try.prog 7 #[v0, v1, v2] W fun e w' => e = .returned (.bool true) ∧ Below W.heap.size W w' := by
  obtain ⟨a0, rfl⟩ := typ_bytes t0 rfl rfl
  obtain ⟨a1, rfl⟩ := typ_bytes t1 rfl rfl
  obtain ⟨a2, rfl⟩ := typ_u8 t2 rfl
  exact calls_of_fn Try.func7 rfl rfl (c_CcacheKeeps a0 a1 a2) (relCs_cons r0 (relCs_cons r1 (relCs_cons r2 relCs_nil)))

set_option maxRecDepth 100000 in
theorem lifted (os : Os) (started : os.Started) (H : Type) (enc : TypeId × Value → H) :
    ReturnsInHanded {} Try.checked os 7 .any (Rows.ccacheKeepsSpec.pre6 enc Try.prog Try.f7 Rows.ccacheKeepsRow.domain false) (Rows.ccacheKeepsSpec.post enc Try.prog Try.f7 false true false false) := by
  refine returnsInHanded_of_change (C := Try.checked) ownA started (by kernel_rfl) Try.func7
    (ChangeSpec.witness6 (enc := enc) (C := Try.checked) false ⟨#[], #[.slice none 0 0, .slice none 0 0, .int .u8 0], []⟩ 8 (by kernel_rfl) (by kernel_rfl) (by kernel_rfl) (by kernel_rfl)) ?_
  intro W base args ds gs before hval0 hW hcnd _
  have hval : ∀ (j : Nat) t v, Try.f7.params[j]? = some t → args[j]? = some v → Value.okWide Try.prog W .any base t v := hval0
  have hW' := hW
  obtain ⟨p, q, hA0, hV, rfl, hfz, hnd⟩ := hW
  have hA : DataW.TrodAll enc Try.prog W 0 (fun _ => true) true Try.f7.params.toList args.toList ds p := hA0
  rw [Try.params7] at hA hval
  obtain ⟨v0, vs0, d0, ds0, p0, q0, hargs, rfl, rfl, h0, r0⟩ := trodAll_cons hA
  obtain ⟨v1, vs1, d1, ds1, p1, q1, rfl, rfl, rfl, h1, r1⟩ := trodAll_cons r0
  obtain ⟨v2, vs2, d2, ds2, p2, q2, rfl, rfl, rfl, h2, r2⟩ := trodAll_cons r1
  obtain ⟨rfl, rfl, rfl⟩ := trodAll_nil r2
  obtain rfl : args = #[v0, v1, v2] := by cases args; simp_all
  obtain ⟨rfl, rfl⟩ := trodVars_none hV
  obtain ⟨ls0, t0, c0⟩ := rel_arg tokA (n := 9) rfl h0 (hval 0 23 v0 rfl rfl)
  obtain ⟨ls1, t1, c1⟩ := rel_arg tokA (n := 9) rfl h1 (hval 1 23 v1 rfl rfl)
  obtain ⟨ls2, t2, c2⟩ := rel_arg tokA (n := 9) rfl h2 (hval 2 5 v2 rfl rfl)
  have lt0 : ∀ x ∈ p0, x.block < W.heap.size := by obtain ⟨m, hm⟩ := h0; exact DataW.trod_lt m _ _ _ hm
  have lt1 : ∀ x ∈ p1, x.block < W.heap.size := by obtain ⟨m, hm⟩ := h1; exact DataW.trod_lt m _ _ _ hm
  have lt2 : ∀ x ∈ p2, x.block < W.heap.size := by obtain ⟨m, hm⟩ := h2; exact DataW.trod_lt m _ _ _ hm
  clear hA0 hval0
  refine (walk W v0 v1 v2 ls0 ls1 ls2 t0 t1 t2 c0 c1 c2).mono fun e W' ⟨he, bel⟩ => ?_
  subst he
  exact ⟨_, rfl, _, _, _, [], _, [], hW', trodAll_mk1 (shut_bool Try.underlying4 _), (trodAll_cons_mk (Below.trod laidOutA (by kernel_rfl) (of_decide_eq_true (by kernel_rfl)) h0 bel lt0) (trodAll_cons_mk (Below.trod laidOutA (by kernel_rfl) (of_decide_eq_true (by kernel_rfl)) h1 bel lt1) (trodAll_cons_mk (Below.trod laidOutA (by kernel_rfl) (of_decide_eq_true (by kernel_rfl)) h2 bel lt2) trodAll_mk0))), rfl, bel.frame _, fun h => by cases h⟩

theorem over : Rows.ccacheKeepsRow.holds Try.pinned (OpenSpec.ofChange Rows.ccacheKeepsSpec) :=
  OpenClaim.holds_of_wide 7 Try.f7 rfl rfl rfl rfl rfl rfl rfl ⟨rfl, rfl, rfl, rfl, rfl⟩ rfl rfl rfl rfl rfl (by kernel_rfl) Try.func7 (by kernel_rfl)
    (of_decide_eq_true (by kernel_rfl)) (by unfold Func.isWrapper; first | (rw [if_pos (by decide +kernel)]; kernel_rfl) | (rw [if_neg (by decide +kernel)]; exact ⟨rfl, rfl⟩))
    (fun os started H enc _ => lifted os started H enc)
end CcacheKeepsProof

theorem ccacheKeeps_proved : Rows.CcacheKeepsSaid := CcacheKeepsProof.over
#print axioms ccacheKeeps_proved
end Go.Proofs.Ytcmcjiacpahliab

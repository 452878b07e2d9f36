/-
  The statement CcacheChecks: the law returns true for every input; no conditions.
-/
import Derived.Test.YtgiekmlofndeaaaCCcL
import Derived.Test.YtgiekmlofndeaaaPCcF
import Derived.Test.YtgiekmlofndeaaaLOwn
set_option linter.all false
namespace Go.Sx
open Go.Proofs Go.RowKit
theorem flat_set {α : Type} {f : α → List L} {sz : Nat} (hf : ∀ x, (f x).length = sz) {l : List α} {j : Nat} (x : α) (h : j < l.length) : putAt (flat f l) (j * sz) (f x) = flat f (l.set j x) := by
  rw [putAt, hf, show j * sz + sz = (j + 1) * sz by rw [Nat.succ_mul], flat_take hf, flat_drop hf, List.set_eq_take_append_cons_drop, if_pos h, flat_append, flat_cons]
  simp
theorem headI_6 {k : IntKind} {a0 a1 a2 a3 a4 a5 v : Int} {j : Nat} {K : Int → List L → Prop} (h : j < 6) (hv : ([a0, a1, a2, a3, a4, a5] : List Int).getD j 0 = v) (hk : ∀ r, K v r) : headI k (List.drop (j * 1) [.i k a0, .i k a1, .i k a2, .i k a3, .i k a4, .i k a5]) K := by
  refine ⟨v, ([a0, a1, a2, a3, a4, a5].drop (j + 1)).map (.i k), ?_, hk _⟩
  subst hv
  match j, h with
  | 0, _ => rfl
  | 1, _ => rfl
  | 2, _ => rfl
  | 3, _ => rfl
  | 4, _ => rfl
  | 5, _ => rfl
theorem headS_crz {l : List CR} {z : Nat} (hz : z = 0) {K : List UInt8 → List L → Prop} (h : 0 < l.length) (hk : K (l.getD 0 cr0).x (.s (l.getD 0 cr0).y :: .s (l.getD 0 cr0).z :: .i .u64 (l.getD 0 cr0).k :: .i .i64 (l.getD 0 cr0).lf :: .i .i64 (l.getD 0 cr0).kv :: .i .i64 (l.getD 0 cr0).is :: .sl ((l.getD 0 cr0).t.map u8) (l.getD 0 cr0).t.length :: flat crR (l.drop 1))) : headS ((flat crR l).drop z) K := by
  subst hz
  exact ⟨_, _, by have := flat_at crR_len cr0 h; rw [Nat.zero_mul] at this; rw [this]; rfl, hk⟩
theorem u64_range' (n : Int) : 0 ≤ IntKind.u64.wrap n ∧ IntKind.u64.wrap n ≤ 18446744073709551615 := by
  have : IntKind.u64.wrap n = n % 18446744073709551616 := by simp [IntKind.wrap, IntKind.bits, IntKind.signed]
  omega
noncomputable def g3 : Par := par 155 (nthLL [[1, 2, 3, 4, 5, 6, 7], [1, 2, 3, 4, 5, 6, 7, 24], [14], [1, 2, 3, 4, 5, 6, 7, 36], [14], [3, 4, 5, 6, 7, 15], [3, 4, 5, 6, 7, 15, 50], [14], [3, 4, 5, 6, 7, 15], [3, 4, 5, 6, 7, 15, 16], [3, 4, 5, 6, 7, 15, 16, 17], [3, 4, 5, 6, 7, 15, 16, 17, 18], [4, 5, 6, 7, 15, 16, 17, 18, 72], [4, 5, 6, 7, 15, 16, 17, 18, 72, 73], [7, 15, 16, 18], [4, 5, 7, 15, 16, 17, 18, 72, 78], [7, 15, 16, 18], [4, 7, 15, 16, 17, 18, 72, 83], [7, 15, 16, 18], [4, 7, 15, 16, 17, 18, 72, 87], [7, 15, 16, 18], [4, 7, 15, 16, 17, 18, 72, 91], [7, 15, 16, 18], [4, 7, 15, 16, 18, 72, 95], [7, 15, 16, 18], [7, 15, 16, 18, 72, 103], [7, 15, 16, 18], [7, 15, 16, 18, 111], [7, 15, 16, 18], [7, 15], [7, 15, 19, 20], [15, 19, 20, 21, 22], [14]]) [14, 100015] (nthLL [[], [], [], [], [], [], [0, 1, 3, 7, 15, 31, 15, 127, 255, 511], [], [], [], [], [], [], [], [], [], [], [], [], [], [], [], [], [], [], [], [], [], [], [], [], [], [0, 1, 0, 7, 15, 31, 63, 63, 255, 511, 1023, 2047, 2047, 8191, 16383, 32767]])
set_option maxRecDepth 10000
set_option maxHeartbeats 16000000
/-- what both sides say of a cache with another credential in it -/
theorem set_pack (U R : List UInt8) (O : List CR) (n J : Nat) (hO : n = O.length) (hn : n ≤ 1000) (hJ : J < n) (hU : U.length ≤ 1000 ∧ ([] : List UInt8).length ≤ 1000 ∧ R.length ≤ 1000) (hs : ∀ s ∈ O, crSm 90000 s) (x y z : List UInt8) (k lf kv is : Int) (t : List UInt8) (hX : crSm 90000 ⟨x, y, z, k, lf, kv, is, t⟩) : ∃ e : Int,
    Fn Try.prog 8 [.a [.s U, .s [], .s R, .sl (putAt (flat crR O) (J * 8) [.s x, .s y, .s z, .i .u64 k, .i .i64 lf, .i .i64 kv, .i .i64 is, .sl (t.map u8) t.length]) n]] [] (.one (.c (.o (.i .i64 e)))) [] ∧
    Fn Try.prog 9 [.a [.s U, .s [], .s R, .sl (putAt (flat crR O) (J * 8) [.s x, .s y, .s z, .i .u64 k, .i .i64 lf, .i .i64 kv, .i .i64 is, .sl (t.map u8) t.length]) n]] [] (.one (.c (.o (.i .i64 e)))) [] := by
  have e := flat_set crR_len (l := O) (j := J) ⟨x, y, z, k, lf, kv, is, t⟩ (by omega)
  have e : putAt (flat crR O) (J * 8) [.s x, .s y, .s z, .i .u64 k, .i .i64 lf, .i .i64 kv, .i .i64 is, .sl (t.map u8) t.length] = flat crR (O.set J ⟨x, y, z, k, lf, kv, is, t⟩) := e
  rw [e]
  have hl : (O.set J ⟨x, y, z, k, lf, kv, is, t⟩).length = O.length := List.length_set
  have hs' : ∀ s ∈ O.set J ⟨x, y, z, k, lf, kv, is, t⟩, crSm 90000 s := fun s h => by
    rcases List.mem_or_eq_of_mem_set h with h | h
    · exact hs s h
    · rw [h]; exact hX
  exact ⟨_, c_crCheck U [] R _ (by omega) (by omega) hU hs', c_rcrCheck U [] R _ (by omega) (by omega) hU hs'⟩
theorem c_CcacheChecks (o1 o2 o3 : List UInt8) (rows : List (List L)) (hrows : ∀ r ∈ rows, Typ (tabF tab) 38 r) (l : List UInt8) (w fd at_ : UInt8) (n : Int) (hn : i64R n) (s : List UInt8) : Fn Try.prog 3 [.a [.s o1, .s o2, .s o3, .sl rows.flatten rows.length], .o (.sl (l.map u8) l.length), .o (.i .u8 (w.toNat : Int)), .o (.i .u8 (fd.toNat : Int)), .o (.i .u8 (at_.toNat : Int)), .o (.i .i64 n), .o (.s s)] [] (.one (.c (.o (.b true)))) [] := by
  obtain ⟨W, rfl, hW⟩ := cr_rows hrows
  rw [List.length_map]
  show Fn Try.prog _ [.a [.s o1, .s o2, .s o3, .sl (flat crR W) W.length], _, _, _, _, _, _] _ _ _
  have hw := byte_lt w
  have hfd := byte_lt fd
  have hat := byte_lt at_
  have cl1 := c_long15 o1 o2 o3 W rfl
  refine Fn_intro (G := g3) (goodA rfl) (fn := Try.f3) rfl rfl rfl rfl rfl ?_
  by_cases hlong : ccLg o1 o2 o3 W = true ∨ l.length > 300 ∨ s.length > 100
  · generalize ccLg o1 o2 o3 W = A at *
    (repeat' ((conv => whnf) <;> first | exact rfl | with_reducible refine boolK_dec (fun _ => ?_) (fun _ => ?_) <;> try (exfalso; omega) | refine boolK_beq (fun _ => ?_) (fun _ => ?_) <;> try (exfalso; first | omega | contradiction) | refine boolK_bne (fun _ => ?_) (fun _ => ?_) <;> try (exfalso; first | omega | contradiction) | (with_reducible first | refine boolK_not ?_ | refine boolK_and ?_ | refine boolK_or ?_ | refine boolK_true ?_ | refine boolK_false ?_) | refine boolK_intro (fun _ => ?_) (fun _ => ?_) <;> try (exfalso; simp_all; done) | refine jA ?_ | refine jB ?_ | refine jC ?_ | refine jD ?_ | refine jE ?_ | refine jF ?_ | refine jG ?_ | refine jH ?_ | refine jI ?_ | refine jJ ?_ | refine jK ?_ | with_reducible refine natK_lit ?_ | refine natK_of rfl ?_ | refine natK_any ?_ | refine jO ?_ | refine jP ?_ | refine jQ ?_ | refine jR ?_ | refine jS ?_ | refine jT ?_ | refine jU (fun _ => ?_) | refine jV ?_ | refine jW ?_ | refine jX ?_ | refine jY ?_ | refine jZ ?_ | refine ja ?_ | refine jb ?_ | refine jc ?_ | refine jd ?_ | refine je ?_ | refine jf ?_ | refine jg ?_ | refine jh ?_ | refine ji ?_ | refine jj ?_ | refine jk ?_ | refine jn ?_ | refine jo ?_ | refine jp ?_ | refine jq ?_ | refine jr ?_ | refine js ?_ | refine callK_intro (c_awake15) ?_ | refine callK_intro (cl1) ?_ | refine jt ?_ | refine jx ?_ | refine jy ?_ | refine ju ?_ | refine jv ?_)) <;> (try (conv => whnf))
    all_goals (exfalso; rcases hlong with h | h | h <;> first | omega | (simp_all; done))
  · have f1 : ccLg o1 o2 o3 W = false := by cases h : ccLg o1 o2 o3 W with
      | true => exact absurd (.inl h) hlong
      | false => rfl
    have f3 : l.length ≤ 300 ∧ s.length ≤ 100 := by
      have : ¬ (l.length > 300 ∨ s.length > 100) := fun h => hlong (.inr h)
      omega
    rw [f1] at cl1
    obtain ⟨w1, w2⟩ := ccLg_is f1
    have hWs : ∀ s ∈ W, crSm 90000 s := fun s hs => by
      have h1 := w2 s hs
      have h2 := hW s hs
      exact ⟨by omega, by omega, by omega, by omega, h2.1, h2.2.1, h2.2.2.1, h2.2.2.2⟩
    have cC := c_Cache l rfl (by omega) (w.toNat : Int) (by omega)
    have hG := cachS_good l
    have h9 := crGood_len hG
    have hs := crV_mem hG
    have hv := user_valid (w.toNat : Int) ((w.toNat : Int) / 3)
    have cF := c_full15 (userN (w.toNat : Int)) [] (realmN ((w.toNat : Int) / 3)) (cachS l) rfl (by omega)
    have hFs := ful_small hs
    have hFl := fulS_len (O := cachS l) (by omega)
    have hu : (userN (w.toNat : Int)).length ≤ 1000 ∧ ([] : List UInt8).length ≤ 1000 ∧ (realmN ((w.toNat : Int) / 3)).length ≤ 1000 := by have := valid_len hv; simp; omega
    have k0 := c_crCheck (userN (w.toNat : Int)) [] (realmN ((w.toNat : Int) / 3)) (cachS l) rfl (by omega) hu hs
    rw [crGood_C hv hG] at k0
    have k1 := c_crCheck o1 o2 o3 W rfl (by omega) (by omega) hWs
    have k2 := c_rcrCheck o1 o2 o3 W rfl (by omega) (by omega) hWs
    have i1 := c_crInit o1 o2 o3 (by omega)
    have i2 := c_rcrInit o1 o2 o3 (by omega)
    have sm : ∀ x y z, Fn Try.prog 15 [.a [.s x, .s y, .s z, .sl [] 0], .a [.s x, .s y, .s z, .sl [] 0]] [] (.one (.c (.o (.b true)))) [] := fun x y z => c_sameCc x y z ([] : List CR) rfl rfl (by simp)
    have cU := c_User 1 (by omega)
    have cS := c_Session 1 (by omega)
    have hs1 : 0 ≤ sessN 1 ∧ sessN 1 ≤ 18446744073709551615 := by decide
    have hU1 : (userN 1).length ≤ 100 ∧ (realmN (1 / 3)).length ≤ 100 := by decide +kernel
    generalize ccC o1 o2 o3 W = Q at *
    generalize initS o1 o2 o3 = I at *
    rw [hFl] at cF
    clear hG hlong f1 hv
    generalize userN (w.toNat : Int) = U at *
    generalize realmN ((w.toNat : Int) / 3) = R at *
    generalize userN 1 = U1 at *
    generalize realmN (1 / 3) = R1 at *
    generalize sessN 1 = K1 at *
    generalize fulS (cachS l) = O' at *
    generalize cachS l = O at *
    obtain ⟨J, hJ⟩ : ∃ J : Nat, J = at_.toNat % 20 := ⟨_, rfl⟩
    obtain ⟨J6, hJ6⟩ : ∃ J : Nat, J = at_.toNat % 6 := ⟨_, rfl⟩
    obtain ⟨M, hM⟩ : ∃ M : Int, ([n, -1, 255, 256, 4294967295, 4294967296] : List Int).getD J6 0 = M := ⟨_, rfl⟩
    have hMr : i64R M := by
      unfold i64R at hn ⊢
      rw [← hM]
      match J6, (show J6 < 6 by omega) with
      | 0, _ => exact hn
      | 1, _ => exact (by decide : -9223372036854775808 ≤ (-1 : Int) ∧ (-1 : Int) ≤ 9223372036854775807)
      | 2, _ => exact (by decide : -9223372036854775808 ≤ (255 : Int) ∧ (255 : Int) ≤ 9223372036854775807)
      | 3, _ => exact (by decide : -9223372036854775808 ≤ (256 : Int) ∧ (256 : Int) ≤ 9223372036854775807)
      | 4, _ => exact (by decide : -9223372036854775808 ≤ (4294967295 : Int) ∧ (4294967295 : Int) ≤ 9223372036854775807)
      | 5, _ => exact (by decide : -9223372036854775808 ≤ (4294967296 : Int) ∧ (4294967296 : Int) ≤ 9223372036854775807)
    have hm6 := fun K hk => headI_6 (k := .i64) (K := K) (show J6 < 6 by omega) hM hk
    have hX0 := fun K hk => headS_cr (l := O') (j := J) (K := K) (by omega) hk
    have hZ0 := fun z hz K hk => headS_crz (l := O') (z := z) hz (K := K) (by omega) hk
    have sX := hFs (O'.getD J cr0) (getD_mem (d := cr0) (by omega))
    have sZ := hFs (O'.getD 0 cr0) (getD_mem (d := cr0) (by omega))
    have hfl := flat_len crR_len O'
    generalize O'.getD J cr0 = X at *
    generalize O'.getD 0 cr0 = Z at *
    obtain ⟨s1, s2, s3, s4, s5, s6, s7, s8⟩ := sX
    obtain ⟨z1, z2, z3, z4, z5, z6, z7, z8⟩ := sZ
    have h9 : (fd.toNat : Int) % 9 = 0 ∨ (fd.toNat : Int) % 9 = 1 ∨ (fd.toNat : Int) % 9 = 2 ∨ (fd.toNat : Int) % 9 = 3 ∨ (fd.toNat : Int) % 9 = 4 ∨ (fd.toNat : Int) % 9 = 5 ∨ (fd.toNat : Int) % 9 = 6 ∨ (fd.toNat : Int) % 9 = 7 ∨ (fd.toNat : Int) % 9 = 8 := by omega
    rcases h9 with h | h | h | h | h | h | h | h | h
    · obtain ⟨e, a1, b1⟩ := set_pack U R O' 20 J (by omega) (by omega) (by omega) hu hFs s X.y X.z X.k X.lf X.kv X.is X.t ⟨by show s.length ≤ _; omega, s2, s3, s4, s5, s6, s7, s8⟩
      (repeat' ((conv => whnf) <;> first | with_reducible refine boolK_refl ?_ | refine natK_of (j := J) (by omega) ?_ | refine natK_of (j := J6) (by omega) ?_ | exact rfl | with_reducible refine boolK_dec (fun _ => ?_) (fun _ => ?_) <;> try (exfalso; omega) | refine boolK_beq (fun _ => ?_) (fun _ => ?_) <;> try (exfalso; first | omega | contradiction) | refine boolK_bne (fun _ => ?_) (fun _ => ?_) <;> try (exfalso; first | omega | contradiction) | (with_reducible first | refine boolK_not ?_ | refine boolK_and ?_ | refine boolK_or ?_ | refine boolK_true ?_ | refine boolK_false ?_) | refine boolK_intro (fun _ => ?_) (fun _ => ?_) <;> try (exfalso; simp_all; done) | refine jA ?_ | refine jB ?_ | refine jC ?_ | refine jD ?_ | refine jE ?_ | refine jF ?_ | refine jG ?_ | refine jH ?_ | refine jI ?_ | refine jJ ?_ | refine jK ?_ | with_reducible refine natK_lit ?_ | refine natK_of rfl ?_ | refine natK_any ?_ | refine jO ?_ | refine jP ?_ | refine jQ ?_ | refine jR ?_ | refine jS ?_ | refine jT ?_ | refine jU (fun _ => ?_) | refine jV ?_ | refine jW ?_ | refine jX ?_ | refine jY ?_ | refine jZ ?_ | refine ja ?_ | refine jb ?_ | refine jc ?_ | refine jd ?_ | refine je ?_ | refine jf ?_ | refine jg ?_ | refine jh ?_ | refine ji ?_ | refine jj ?_ | refine jk ?_ | refine jn ?_ | refine jo ?_ | refine jp ?_ | refine jq ?_ | refine jr ?_ | refine js ?_ | refine callK_intro (c_awake15) ?_ | refine callK_intro (cl1) ?_ | refine callK_intro (cC) ?_ | refine callK_intro (k0) ?_ | refine callK_intro (k1) ?_ | refine callK_intro (k2) ?_ | refine callK_intro (cF) ?_ | refine callK_intro (a1) ?_ | refine callK_intro (b1) ?_ | refine callK_intro (i1) ?_ | refine callK_intro (i2) ?_ | refine callK_intro (sm _ _ _) ?_ | refine hm6 _ (fun _ => ?_) | refine hX0 _ ?_ | refine jt ?_ | refine jx ?_ | refine jy ?_ | refine ju ?_ | refine jv ?_)) <;> (try (conv => whnf))
    · obtain ⟨e, a1, b1⟩ := set_pack U R O' 20 J (by omega) (by omega) (by omega) hu hFs X.x X.y X.z (IntKind.u64.wrap n) X.lf X.kv X.is X.t ⟨s1, s2, s3, s4, u64_range' n, s6, s7, s8⟩
      (repeat' ((conv => whnf) <;> first | with_reducible refine boolK_refl ?_ | refine natK_of (j := J) (by omega) ?_ | refine natK_of (j := J6) (by omega) ?_ | exact rfl | with_reducible refine boolK_dec (fun _ => ?_) (fun _ => ?_) <;> try (exfalso; omega) | refine boolK_beq (fun _ => ?_) (fun _ => ?_) <;> try (exfalso; first | omega | contradiction) | refine boolK_bne (fun _ => ?_) (fun _ => ?_) <;> try (exfalso; first | omega | contradiction) | (with_reducible first | refine boolK_not ?_ | refine boolK_and ?_ | refine boolK_or ?_ | refine boolK_true ?_ | refine boolK_false ?_) | refine boolK_intro (fun _ => ?_) (fun _ => ?_) <;> try (exfalso; simp_all; done) | refine jA ?_ | refine jB ?_ | refine jC ?_ | refine jD ?_ | refine jE ?_ | refine jF ?_ | refine jG ?_ | refine jH ?_ | refine jI ?_ | refine jJ ?_ | refine jK ?_ | with_reducible refine natK_lit ?_ | refine natK_of rfl ?_ | refine natK_any ?_ | refine jO ?_ | refine jP ?_ | refine jQ ?_ | refine jR ?_ | refine jS ?_ | refine jT ?_ | refine jU (fun _ => ?_) | refine jV ?_ | refine jW ?_ | refine jX ?_ | refine jY ?_ | refine jZ ?_ | refine ja ?_ | refine jb ?_ | refine jc ?_ | refine jd ?_ | refine je ?_ | refine jf ?_ | refine jg ?_ | refine jh ?_ | refine ji ?_ | refine jj ?_ | refine jk ?_ | refine jn ?_ | refine jo ?_ | refine jp ?_ | refine jq ?_ | refine jr ?_ | refine js ?_ | refine callK_intro (c_awake15) ?_ | refine callK_intro (cl1) ?_ | refine callK_intro (cC) ?_ | refine callK_intro (k0) ?_ | refine callK_intro (k1) ?_ | refine callK_intro (k2) ?_ | refine callK_intro (cF) ?_ | refine callK_intro (a1) ?_ | refine callK_intro (b1) ?_ | refine callK_intro (i1) ?_ | refine callK_intro (i2) ?_ | refine callK_intro (sm _ _ _) ?_ | refine hm6 _ (fun _ => ?_) | refine hX0 _ ?_ | refine convK_any ?_ | refine jt ?_ | refine jx ?_ | refine jy ?_ | refine ju ?_ | refine jv ?_)) <;> (try (conv => whnf))
    · obtain ⟨e, a1, b1⟩ := set_pack U R O' 20 J (by omega) (by omega) (by omega) hu hFs X.x X.y X.z X.k M X.kv X.is X.t ⟨s1, s2, s3, s4, s5, hMr, s7, s8⟩
      (repeat' ((conv => whnf) <;> first | with_reducible refine boolK_refl ?_ | refine natK_of (j := J) (by omega) ?_ | refine natK_of (j := J6) (by omega) ?_ | exact rfl | with_reducible refine boolK_dec (fun _ => ?_) (fun _ => ?_) <;> try (exfalso; omega) | refine boolK_beq (fun _ => ?_) (fun _ => ?_) <;> try (exfalso; first | omega | contradiction) | refine boolK_bne (fun _ => ?_) (fun _ => ?_) <;> try (exfalso; first | omega | contradiction) | (with_reducible first | refine boolK_not ?_ | refine boolK_and ?_ | refine boolK_or ?_ | refine boolK_true ?_ | refine boolK_false ?_) | refine boolK_intro (fun _ => ?_) (fun _ => ?_) <;> try (exfalso; simp_all; done) | refine jA ?_ | refine jB ?_ | refine jC ?_ | refine jD ?_ | refine jE ?_ | refine jF ?_ | refine jG ?_ | refine jH ?_ | refine jI ?_ | refine jJ ?_ | refine jK ?_ | with_reducible refine natK_lit ?_ | refine natK_of rfl ?_ | refine natK_any ?_ | refine jO ?_ | refine jP ?_ | refine jQ ?_ | refine jR ?_ | refine jS ?_ | refine jT ?_ | refine jU (fun _ => ?_) | refine jV ?_ | refine jW ?_ | refine jX ?_ | refine jY ?_ | refine jZ ?_ | refine ja ?_ | refine jb ?_ | refine jc ?_ | refine jd ?_ | refine je ?_ | refine jf ?_ | refine jg ?_ | refine jh ?_ | refine ji ?_ | refine jj ?_ | refine jk ?_ | refine jn ?_ | refine jo ?_ | refine jp ?_ | refine jq ?_ | refine jr ?_ | refine js ?_ | refine callK_intro (c_awake15) ?_ | refine callK_intro (cl1) ?_ | refine callK_intro (cC) ?_ | refine callK_intro (k0) ?_ | refine callK_intro (k1) ?_ | refine callK_intro (k2) ?_ | refine callK_intro (cF) ?_ | refine callK_intro (a1) ?_ | refine callK_intro (b1) ?_ | refine callK_intro (i1) ?_ | refine callK_intro (i2) ?_ | refine callK_intro (sm _ _ _) ?_ | refine hm6 _ (fun _ => ?_) | refine hX0 _ ?_ | refine jt ?_ | refine jx ?_ | refine jy ?_ | refine ju ?_ | refine jv ?_)) <;> (try (conv => whnf))
    · obtain ⟨e, a1, b1⟩ := set_pack U R O' 20 J (by omega) (by omega) (by omega) hu hFs X.x X.y X.z X.k X.lf M X.is X.t ⟨s1, s2, s3, s4, s5, s6, hMr, s8⟩
      (repeat' ((conv => whnf) <;> first | with_reducible refine boolK_refl ?_ | refine natK_of (j := J) (by omega) ?_ | refine natK_of (j := J6) (by omega) ?_ | exact rfl | with_reducible refine boolK_dec (fun _ => ?_) (fun _ => ?_) <;> try (exfalso; omega) | refine boolK_beq (fun _ => ?_) (fun _ => ?_) <;> try (exfalso; first | omega | contradiction) | refine boolK_bne (fun _ => ?_) (fun _ => ?_) <;> try (exfalso; first | omega | contradiction) | (with_reducible first | refine boolK_not ?_ | refine boolK_and ?_ | refine boolK_or ?_ | refine boolK_true ?_ | refine boolK_false ?_) | refine boolK_intro (fun _ => ?_) (fun _ => ?_) <;> try (exfalso; simp_all; done) | refine jA ?_ | refine jB ?_ | refine jC ?_ | refine jD ?_ | refine jE ?_ | refine jF ?_ | refine jG ?_ | refine jH ?_ | refine jI ?_ | refine jJ ?_ | refine jK ?_ | with_reducible refine natK_lit ?_ | refine natK_of rfl ?_ | refine natK_any ?_ | refine jO ?_ | refine jP ?_ | refine jQ ?_ | refine jR ?_ | refine jS ?_ | refine jT ?_ | refine jU (fun _ => ?_) | refine jV ?_ | refine jW ?_ | refine jX ?_ | refine jY ?_ | refine jZ ?_ | refine ja ?_ | refine jb ?_ | refine jc ?_ | refine jd ?_ | refine je ?_ | refine jf ?_ | refine jg ?_ | refine jh ?_ | refine ji ?_ | refine jj ?_ | refine jk ?_ | refine jn ?_ | refine jo ?_ | refine jp ?_ | refine jq ?_ | refine jr ?_ | refine js ?_ | refine callK_intro (c_awake15) ?_ | refine callK_intro (cl1) ?_ | refine callK_intro (cC) ?_ | refine callK_intro (k0) ?_ | refine callK_intro (k1) ?_ | refine callK_intro (k2) ?_ | refine callK_intro (cF) ?_ | refine callK_intro (a1) ?_ | refine callK_intro (b1) ?_ | refine callK_intro (i1) ?_ | refine callK_intro (i2) ?_ | refine callK_intro (sm _ _ _) ?_ | refine hm6 _ (fun _ => ?_) | refine hX0 _ ?_ | refine jt ?_ | refine jx ?_ | refine jy ?_ | refine ju ?_ | refine jv ?_)) <;> (try (conv => whnf))
    · obtain ⟨e, a1, b1⟩ := set_pack U R O' 20 J (by omega) (by omega) (by omega) hu hFs X.x X.y X.z X.k X.lf X.kv M X.t ⟨s1, s2, s3, s4, s5, s6, s7, hMr⟩
      (repeat' ((conv => whnf) <;> first | with_reducible refine boolK_refl ?_ | refine natK_of (j := J) (by omega) ?_ | refine natK_of (j := J6) (by omega) ?_ | exact rfl | with_reducible refine boolK_dec (fun _ => ?_) (fun _ => ?_) <;> try (exfalso; omega) | refine boolK_beq (fun _ => ?_) (fun _ => ?_) <;> try (exfalso; first | omega | contradiction) | refine boolK_bne (fun _ => ?_) (fun _ => ?_) <;> try (exfalso; first | omega | contradiction) | (with_reducible first | refine boolK_not ?_ | refine boolK_and ?_ | refine boolK_or ?_ | refine boolK_true ?_ | refine boolK_false ?_) | refine boolK_intro (fun _ => ?_) (fun _ => ?_) <;> try (exfalso; simp_all; done) | refine jA ?_ | refine jB ?_ | refine jC ?_ | refine jD ?_ | refine jE ?_ | refine jF ?_ | refine jG ?_ | refine jH ?_ | refine jI ?_ | refine jJ ?_ | refine jK ?_ | with_reducible refine natK_lit ?_ | refine natK_of rfl ?_ | refine natK_any ?_ | refine jO ?_ | refine jP ?_ | refine jQ ?_ | refine jR ?_ | refine jS ?_ | refine jT ?_ | refine jU (fun _ => ?_) | refine jV ?_ | refine jW ?_ | refine jX ?_ | refine jY ?_ | refine jZ ?_ | refine ja ?_ | refine jb ?_ | refine jc ?_ | refine jd ?_ | refine je ?_ | refine jf ?_ | refine jg ?_ | refine jh ?_ | refine ji ?_ | refine jj ?_ | refine jk ?_ | refine jn ?_ | refine jo ?_ | refine jp ?_ | refine jq ?_ | refine jr ?_ | refine js ?_ | refine callK_intro (c_awake15) ?_ | refine callK_intro (cl1) ?_ | refine callK_intro (cC) ?_ | refine callK_intro (k0) ?_ | refine callK_intro (k1) ?_ | refine callK_intro (k2) ?_ | refine callK_intro (cF) ?_ | refine callK_intro (a1) ?_ | refine callK_intro (b1) ?_ | refine callK_intro (i1) ?_ | refine callK_intro (i2) ?_ | refine callK_intro (sm _ _ _) ?_ | refine hm6 _ (fun _ => ?_) | refine hX0 _ ?_ | refine jt ?_ | refine jx ?_ | refine jy ?_ | refine ju ?_ | refine jv ?_)) <;> (try (conv => whnf))
    · have hZ : rep [cz (L.i .u8 0)] (255 + (at_.toNat : Int) % 2).toNat = (List.replicate (255 + (at_.toNat : Int) % 2).toNat (0 : UInt8)).map u8 := rep_u8 0 _
      obtain ⟨e, a1, b1⟩ := set_pack U R O' 20 J (by omega) (by omega) (by omega) hu hFs X.x X.y X.z X.k X.lf X.kv X.is (List.replicate (255 + (at_.toNat : Int) % 2).toNat (0 : UInt8)) ⟨s1, s2, s3, by show (List.replicate _ _).length ≤ _; rw [List.length_replicate]; omega, s5, s6, s7, s8⟩
      rw [List.length_replicate, ← hZ] at a1 b1
      (repeat' ((conv => whnf) <;> first | with_reducible refine boolK_refl ?_ | refine natK_of (j := J) (by omega) ?_ | refine natK_of (j := J6) (by omega) ?_ | exact rfl | with_reducible refine boolK_dec (fun _ => ?_) (fun _ => ?_) <;> try (exfalso; omega) | refine boolK_beq (fun _ => ?_) (fun _ => ?_) <;> try (exfalso; first | omega | contradiction) | refine boolK_bne (fun _ => ?_) (fun _ => ?_) <;> try (exfalso; first | omega | contradiction) | (with_reducible first | refine boolK_not ?_ | refine boolK_and ?_ | refine boolK_or ?_ | refine boolK_true ?_ | refine boolK_false ?_) | refine boolK_intro (fun _ => ?_) (fun _ => ?_) <;> try (exfalso; simp_all; done) | refine jA ?_ | refine jB ?_ | refine jC ?_ | refine jD ?_ | refine jE ?_ | refine jF ?_ | refine jG ?_ | refine jH ?_ | refine jI ?_ | refine jJ ?_ | refine jK ?_ | with_reducible refine natK_lit ?_ | refine natK_of rfl ?_ | refine natK_any ?_ | refine jO ?_ | refine jP ?_ | refine jQ ?_ | refine jR ?_ | refine jS ?_ | refine jT ?_ | refine jU (fun _ => ?_) | refine jV ?_ | refine jW ?_ | refine jX ?_ | refine jY ?_ | refine jZ ?_ | refine ja ?_ | refine jb ?_ | refine jc ?_ | refine jd ?_ | refine je ?_ | refine jf ?_ | refine jg ?_ | refine jh ?_ | refine ji ?_ | refine jj ?_ | refine jk ?_ | refine jn ?_ | refine jo ?_ | refine jp ?_ | refine jq ?_ | refine jr ?_ | refine js ?_ | refine callK_intro (c_awake15) ?_ | refine callK_intro (cl1) ?_ | refine callK_intro (cC) ?_ | refine callK_intro (k0) ?_ | refine callK_intro (k1) ?_ | refine callK_intro (k2) ?_ | refine callK_intro (cF) ?_ | refine callK_intro (a1) ?_ | refine callK_intro (b1) ?_ | refine callK_intro (i1) ?_ | refine callK_intro (i2) ?_ | refine callK_intro (sm _ _ _) ?_ | refine hm6 _ (fun _ => ?_) | refine hX0 _ ?_ | refine jt ?_ | refine jx ?_ | refine jy ?_ | refine ju ?_ | refine jv ?_)) <;> (try (conv => whnf))
    · obtain ⟨e, a1, b1⟩ := set_pack U R O' 20 J (by omega) (by omega) (by omega) hu hFs Z.x Z.y Z.z X.k X.lf X.kv X.is X.t ⟨z1, z2, z3, s4, s5, s6, s7, s8⟩
      (repeat' ((conv => whnf) <;> first | with_reducible refine boolK_refl ?_ | refine natK_of (j := J) (by omega) ?_ | refine natK_of (j := J6) (by omega) ?_ | exact rfl | with_reducible refine boolK_dec (fun _ => ?_) (fun _ => ?_) <;> try (exfalso; omega) | refine boolK_beq (fun _ => ?_) (fun _ => ?_) <;> try (exfalso; first | omega | contradiction) | refine boolK_bne (fun _ => ?_) (fun _ => ?_) <;> try (exfalso; first | omega | contradiction) | (with_reducible first | refine boolK_not ?_ | refine boolK_and ?_ | refine boolK_or ?_ | refine boolK_true ?_ | refine boolK_false ?_) | refine boolK_intro (fun _ => ?_) (fun _ => ?_) <;> try (exfalso; simp_all; done) | refine jA ?_ | refine jB ?_ | refine jC ?_ | refine jD ?_ | refine jE ?_ | refine jF ?_ | refine jG ?_ | refine jH ?_ | refine jI ?_ | refine jJ ?_ | refine jK ?_ | with_reducible refine natK_lit ?_ | refine natK_of rfl ?_ | refine natK_any ?_ | refine jO ?_ | refine jP ?_ | refine jQ ?_ | refine jR ?_ | refine jS ?_ | refine jT ?_ | refine jU (fun _ => ?_) | refine jV ?_ | refine jW ?_ | refine jX ?_ | refine jY ?_ | refine jZ ?_ | refine ja ?_ | refine jb ?_ | refine jc ?_ | refine jd ?_ | refine je ?_ | refine jf ?_ | refine jg ?_ | refine jh ?_ | refine ji ?_ | refine jj ?_ | refine jk ?_ | refine jn ?_ | refine jo ?_ | refine jp ?_ | refine jq ?_ | refine jr ?_ | refine js ?_ | refine callK_intro (c_awake15) ?_ | refine callK_intro (cl1) ?_ | refine callK_intro (cC) ?_ | refine callK_intro (k0) ?_ | refine callK_intro (k1) ?_ | refine callK_intro (k2) ?_ | refine callK_intro (cF) ?_ | refine callK_intro (a1) ?_ | refine callK_intro (b1) ?_ | refine callK_intro (i1) ?_ | refine callK_intro (i2) ?_ | refine callK_intro (sm _ _ _) ?_ | refine hm6 _ (fun _ => ?_) | refine hX0 _ ?_ | refine hZ0 _ rfl _ ?_ | refine jt ?_ | refine jx ?_ | refine jy ?_ | refine ju ?_ | refine jv ?_)) <;> (try (conv => whnf))
    · have ef : flat crR O' ++ [.s U1, .s [], .s R1, .i .u64 K1, .i .i64 0, .i .i64 0, .i .i64 0, .sl [] 0] = flat crR (O' ++ [⟨U1, [], R1, K1, 0, 0, 0, []⟩]) := by rw [flat_append, flat_one]; rfl
      have hs2 : ∀ s ∈ O' ++ [(⟨U1, [], R1, K1, 0, 0, 0, []⟩ : CR)], crSm 90000 s := fun s hs => by
        rcases List.mem_append.1 hs with q | q
        · exact hFs s q
        · simp at q; subst q; exact ⟨by show U1.length ≤ _; omega, by simp, by show R1.length ≤ _; omega, by simp, hs1, by simp [i64R], by simp [i64R], by simp [i64R]⟩
      have hl2 : 21 = (O' ++ [(⟨U1, [], R1, K1, 0, 0, 0, []⟩ : CR)]).length := by rw [List.length_append, hFl]; rfl
      have hfl2 := flat_len crR_len (O' ++ [(⟨U1, [], R1, K1, 0, 0, 0, []⟩ : CR)])
      generalize O' ++ [(⟨U1, [], R1, K1, 0, 0, 0, []⟩ : CR)] = P at *
      obtain ⟨e, a1, b1⟩ := set_pack U R P 21 J hl2 (by omega) (by omega) hu hs2 X.x X.y X.z X.k X.lf X.kv X.is X.t ⟨s1, s2, s3, s4, s5, s6, s7, s8⟩
      (repeat' ((conv => whnf) <;> first | with_reducible refine boolK_refl ?_ | refine natK_of (j := J) (by omega) ?_ | refine natK_of (j := J6) (by omega) ?_ | exact rfl | with_reducible refine boolK_dec (fun _ => ?_) (fun _ => ?_) <;> try (exfalso; omega) | refine boolK_beq (fun _ => ?_) (fun _ => ?_) <;> try (exfalso; first | omega | contradiction) | refine boolK_bne (fun _ => ?_) (fun _ => ?_) <;> try (exfalso; first | omega | contradiction) | (with_reducible first | refine boolK_not ?_ | refine boolK_and ?_ | refine boolK_or ?_ | refine boolK_true ?_ | refine boolK_false ?_) | refine boolK_intro (fun _ => ?_) (fun _ => ?_) <;> try (exfalso; simp_all; done) | refine jA ?_ | refine jB ?_ | refine jC ?_ | refine jD ?_ | refine jE ?_ | refine jF ?_ | refine jG ?_ | refine jH ?_ | refine jI ?_ | refine jJ ?_ | refine jK ?_ | with_reducible refine natK_lit ?_ | refine natK_of rfl ?_ | refine natK_any ?_ | refine jO ?_ | refine jP ?_ | refine jQ ?_ | refine jR ?_ | refine jS ?_ | refine jT ?_ | refine jU (fun _ => ?_) | refine jV ?_ | refine jW ?_ | refine jX ?_ | refine jY ?_ | refine jZ ?_ | refine ja ?_ | refine jb ?_ | refine jc ?_ | refine jd ?_ | refine je ?_ | refine jf ?_ | refine jg ?_ | refine jh ?_ | refine ji ?_ | refine jj ?_ | refine jk ?_ | refine jn ?_ | refine jo ?_ | refine jp ?_ | refine jq ?_ | refine jr ?_ | refine js ?_ | refine callK_intro (c_awake15) ?_ | refine callK_intro (cl1) ?_ | refine callK_intro (cC) ?_ | refine callK_intro (k0) ?_ | refine callK_intro (k1) ?_ | refine callK_intro (k2) ?_ | refine callK_intro (cF) ?_ | refine callK_intro (a1) ?_ | refine callK_intro (b1) ?_ | refine callK_intro (i1) ?_ | refine callK_intro (i2) ?_ | refine callK_intro (sm _ _ _) ?_ | refine callK_intro (cU) ?_ | refine callK_intro (cS) ?_ | refine hm6 _ (fun _ => ?_) | refine hX0 _ ?_ | refine catK_of ef ?_ | refine jt ?_ | refine jx ?_ | refine jy ?_ | refine ju ?_ | refine jv ?_)) <;> (try (conv => whnf))
    · obtain ⟨e, a1, b1⟩ := set_pack U R O' 20 J (by omega) (by omega) (by omega) hu hFs X.x X.y X.z X.k X.lf X.kv X.is X.t ⟨s1, s2, s3, s4, s5, s6, s7, s8⟩
      (repeat' ((conv => whnf) <;> first | with_reducible refine boolK_refl ?_ | refine natK_of (j := J) (by omega) ?_ | refine natK_of (j := J6) (by omega) ?_ | exact rfl | with_reducible refine boolK_dec (fun _ => ?_) (fun _ => ?_) <;> try (exfalso; omega) | refine boolK_beq (fun _ => ?_) (fun _ => ?_) <;> try (exfalso; first | omega | contradiction) | refine boolK_bne (fun _ => ?_) (fun _ => ?_) <;> try (exfalso; first | omega | contradiction) | (with_reducible first | refine boolK_not ?_ | refine boolK_and ?_ | refine boolK_or ?_ | refine boolK_true ?_ | refine boolK_false ?_) | refine boolK_intro (fun _ => ?_) (fun _ => ?_) <;> try (exfalso; simp_all; done) | refine jA ?_ | refine jB ?_ | refine jC ?_ | refine jD ?_ | refine jE ?_ | refine jF ?_ | refine jG ?_ | refine jH ?_ | refine jI ?_ | refine jJ ?_ | refine jK ?_ | with_reducible refine natK_lit ?_ | refine natK_of rfl ?_ | refine natK_any ?_ | refine jO ?_ | refine jP ?_ | refine jQ ?_ | refine jR ?_ | refine jS ?_ | refine jT ?_ | refine jU (fun _ => ?_) | refine jV ?_ | refine jW ?_ | refine jX ?_ | refine jY ?_ | refine jZ ?_ | refine ja ?_ | refine jb ?_ | refine jc ?_ | refine jd ?_ | refine je ?_ | refine jf ?_ | refine jg ?_ | refine jh ?_ | refine ji ?_ | refine jj ?_ | refine jk ?_ | refine jn ?_ | refine jo ?_ | refine jp ?_ | refine jq ?_ | refine jr ?_ | refine js ?_ | refine callK_intro (c_awake15) ?_ | refine callK_intro (cl1) ?_ | refine callK_intro (cC) ?_ | refine callK_intro (k0) ?_ | refine callK_intro (k1) ?_ | refine callK_intro (k2) ?_ | refine callK_intro (cF) ?_ | refine callK_intro (a1) ?_ | refine callK_intro (b1) ?_ | refine callK_intro (i1) ?_ | refine callK_intro (i2) ?_ | refine callK_intro (sm _ _ _) ?_ | refine hm6 _ (fun _ => ?_) | refine hX0 _ ?_ | refine jt ?_ | refine jx ?_ | refine jy ?_ | refine ju ?_ | refine jv ?_)) <;> (try (conv => whnf))
end Go.Sx
namespace Go.Proofs.Ytgiekmlofndeaaa
open Go.ChangeShapes Go.WideShapes Go.ChangeAt Go.RowKit Go.Sx
namespace CcacheChecksProof
set_option maxRecDepth 100000 in
theorem walk (W : World) (v0 v1 v2 v3 v4 v5 v6 : Value) (ls0 ls1 ls2 ls3 ls4 ls5 ls6 : List L)
    (t0 : Typ (tabF tab) 26 ls0) (t1 : Typ (tabF tab) 27 ls1) (t2 : Typ (tabF tab) 5 ls2) (t3 : Typ (tabF tab) 5 ls3) (t4 : Typ (tabF tab) 5 ls4) (t5 : Typ (tabF tab) 3 ls5) (t6 : Typ (tabF tab) 9 ls6)
    (r0 : RelC (fun _ => False) W noMu (argC (tabF tab 26).agg ls0) v0) (r1 : RelC (fun _ => False) W noMu (argC (tabF tab 27).agg ls1) v1) (r2 : RelC (fun _ => False) W noMu (argC (tabF tab 5).agg ls2) v2) (r3 : RelC (fun _ => False) W noMu (argC (tabF tab 5).agg ls3) v3) (r4 : RelC (fun _ => False) W noMu (argC (tabF tab 5).agg ls4) v4) (r5 : RelC (fun _ => False) W noMu (argC (tabF tab 3).agg ls5) v5) (r6 : RelC (fun _ => False) W noMu (argC (tabF tab 9).agg ls6) v6) :
    Calls Try.prog 3 #[v0, v1, v2, v3, v4, v5, v6] W fun e w' => e = .returned (.bool true) ∧ Below W.heap.size W w' := by
  obtain ⟨partsa0, rfl, hla0, hpa0⟩ := typ_struct t0 rfl
  obtain ⟨qa0_0, qa0_1, rfl⟩ : ∃ qa0_0 qa0_1, partsa0 = [qa0_0, qa0_1] := by
    match partsa0, hla0 with
    | [qa0_0, qa0_1], _ => exact ⟨qa0_0, qa0_1, rfl⟩
  have ta0_0 := hpa0 0 _ qa0_0 rfl rfl
  obtain ⟨partsa0_0, rfl, hla0_0, hpa0_0⟩ := typ_struct ta0_0 rfl
  obtain ⟨qa0_0_0, qa0_0_1, qa0_0_2, rfl⟩ : ∃ qa0_0_0 qa0_0_1 qa0_0_2, partsa0_0 = [qa0_0_0, qa0_0_1, qa0_0_2] := by
    match partsa0_0, hla0_0 with
    | [qa0_0_0, qa0_0_1, qa0_0_2], _ => exact ⟨qa0_0_0, qa0_0_1, qa0_0_2, rfl⟩
  have ta0_0_0 := hpa0_0 0 _ qa0_0_0 rfl rfl
  obtain ⟨a0_0_0, rfl⟩ := typ_str ta0_0_0 rfl
  have ta0_0_1 := hpa0_0 1 _ qa0_0_1 rfl rfl
  obtain ⟨a0_0_1, rfl⟩ := typ_str ta0_0_1 rfl
  have ta0_0_2 := hpa0_0 2 _ qa0_0_2 rfl rfl
  obtain ⟨a0_0_2, rfl⟩ := typ_str ta0_0_2 rfl
  have ta0_1 := hpa0 1 _ qa0_1 rfl rfl
  obtain ⟨a0_1, rfl, wa0_1⟩ := typ_slice ta0_1 rfl
  obtain ⟨a1, rfl⟩ := typ_bytes t1 rfl rfl
  obtain ⟨a2, rfl⟩ := typ_u8 t2 rfl
  obtain ⟨a3, rfl⟩ := typ_u8 t3 rfl
  obtain ⟨a4, rfl⟩ := typ_u8 t4 rfl
  obtain ⟨a5, rfl, wa5⟩ := typ_int t5 rfl
  obtain ⟨a6, rfl⟩ := typ_str t6 rfl
  exact calls_of_fn Try.func3 rfl rfl (c_CcacheChecks a0_0_0 a0_0_1 a0_0_2 _ wa0_1 a1 a2 a3 a4 a5 (wf_i64 wa5) a6) (relCs_cons r0 (relCs_cons r1 (relCs_cons r2 (relCs_cons r3 (relCs_cons r4 (relCs_cons r5 (relCs_cons r6 relCs_nil)))))))

set_option maxRecDepth 100000 in
theorem lifted (os : Os) (started : os.Started) (H : Type) (enc : TypeId × Value → H) :
    ReturnsInHanded {} Try.checked os 3 .any (Rows.ccacheChecksSpec.pre6 enc Try.prog Try.f3 Rows.ccacheChecksRow.domain false) (Rows.ccacheChecksSpec.post enc Try.prog Try.f3 false true false false) := by
  refine returnsInHanded_of_change (C := Try.checked) ownA started (by kernel_rfl) Try.func3
    (ChangeSpec.witness6 (enc := enc) (C := Try.checked) false ⟨#[], #[.agg #[.string ByteArray.empty, .string ByteArray.empty, .string ByteArray.empty, .slice none 0 0], .slice none 0 0, .int .u8 0, .int .u8 0, .int .u8 0, .int .i64 0, .string ByteArray.empty], []⟩ 8 (by kernel_rfl) (by kernel_rfl) (by kernel_rfl) (by kernel_rfl)) ?_
  intro W base args ds gs before hval0 hW hcnd _
  have hval : ∀ (j : Nat) t v, Try.f3.params[j]? = some t → args[j]? = some v → Value.okWide Try.prog W .any base t v := hval0
  have hW' := hW
  obtain ⟨p, q, hA0, hV, rfl, hfz, hnd⟩ := hW
  have hA : DataW.TrodAll enc Try.prog W 0 (fun _ => true) true Try.f3.params.toList args.toList ds p := hA0
  rw [Try.params3] at hA hval
  obtain ⟨v0, vs0, d0, ds0, p0, q0, hargs, rfl, rfl, h0, r0⟩ := trodAll_cons hA
  obtain ⟨v1, vs1, d1, ds1, p1, q1, rfl, rfl, rfl, h1, r1⟩ := trodAll_cons r0
  obtain ⟨v2, vs2, d2, ds2, p2, q2, rfl, rfl, rfl, h2, r2⟩ := trodAll_cons r1
  obtain ⟨v3, vs3, d3, ds3, p3, q3, rfl, rfl, rfl, h3, r3⟩ := trodAll_cons r2
  obtain ⟨v4, vs4, d4, ds4, p4, q4, rfl, rfl, rfl, h4, r4⟩ := trodAll_cons r3
  obtain ⟨v5, vs5, d5, ds5, p5, q5, rfl, rfl, rfl, h5, r5⟩ := trodAll_cons r4
  obtain ⟨v6, vs6, d6, ds6, p6, q6, rfl, rfl, rfl, h6, r6⟩ := trodAll_cons r5
  obtain ⟨rfl, rfl, rfl⟩ := trodAll_nil r6
  obtain rfl : args = #[v0, v1, v2, v3, v4, v5, v6] := by cases args; simp_all
  obtain ⟨rfl, rfl⟩ := trodVars_none hV
  obtain ⟨ls0, t0, c0⟩ := rel_arg tokA (n := 9) rfl h0 (hval 0 26 v0 rfl rfl)
  obtain ⟨ls1, t1, c1⟩ := rel_arg tokA (n := 9) rfl h1 (hval 1 27 v1 rfl rfl)
  obtain ⟨ls2, t2, c2⟩ := rel_arg tokA (n := 9) rfl h2 (hval 2 5 v2 rfl rfl)
  obtain ⟨ls3, t3, c3⟩ := rel_arg tokA (n := 9) rfl h3 (hval 3 5 v3 rfl rfl)
  obtain ⟨ls4, t4, c4⟩ := rel_arg tokA (n := 9) rfl h4 (hval 4 5 v4 rfl rfl)
  obtain ⟨ls5, t5, c5⟩ := rel_arg tokA (n := 9) rfl h5 (hval 5 3 v5 rfl rfl)
  obtain ⟨ls6, t6, c6⟩ := rel_arg tokA (n := 9) rfl h6 (hval 6 9 v6 rfl rfl)
  have lt0 : ∀ x ∈ p0, x.block < W.heap.size := by obtain ⟨m, hm⟩ := h0; exact DataW.trod_lt m _ _ _ hm
  have lt1 : ∀ x ∈ p1, x.block < W.heap.size := by obtain ⟨m, hm⟩ := h1; exact DataW.trod_lt m _ _ _ hm
  have lt2 : ∀ x ∈ p2, x.block < W.heap.size := by obtain ⟨m, hm⟩ := h2; exact DataW.trod_lt m _ _ _ hm
  have lt3 : ∀ x ∈ p3, x.block < W.heap.size := by obtain ⟨m, hm⟩ := h3; exact DataW.trod_lt m _ _ _ hm
  have lt4 : ∀ x ∈ p4, x.block < W.heap.size := by obtain ⟨m, hm⟩ := h4; exact DataW.trod_lt m _ _ _ hm
  have lt5 : ∀ x ∈ p5, x.block < W.heap.size := by obtain ⟨m, hm⟩ := h5; exact DataW.trod_lt m _ _ _ hm
  have lt6 : ∀ x ∈ p6, x.block < W.heap.size := by obtain ⟨m, hm⟩ := h6; exact DataW.trod_lt m _ _ _ hm
  clear hA0 hval0
  refine (walk W v0 v1 v2 v3 v4 v5 v6 ls0 ls1 ls2 ls3 ls4 ls5 ls6 t0 t1 t2 t3 t4 t5 t6 c0 c1 c2 c3 c4 c5 c6).mono fun e W' ⟨he, bel⟩ => ?_
  subst he
  exact ⟨_, rfl, _, _, _, [], _, [], hW', trodAll_mk1 (shut_bool Try.underlying4 _), (trodAll_cons_mk (Below.trod laidOutA (by kernel_rfl) (of_decide_eq_true (by kernel_rfl)) h0 bel lt0) (trodAll_cons_mk (Below.trod laidOutA (by kernel_rfl) (of_decide_eq_true (by kernel_rfl)) h1 bel lt1) (trodAll_cons_mk (Below.trod laidOutA (by kernel_rfl) (of_decide_eq_true (by kernel_rfl)) h2 bel lt2) (trodAll_cons_mk (Below.trod laidOutA (by kernel_rfl) (of_decide_eq_true (by kernel_rfl)) h3 bel lt3) (trodAll_cons_mk (Below.trod laidOutA (by kernel_rfl) (of_decide_eq_true (by kernel_rfl)) h4 bel lt4) (trodAll_cons_mk (Below.trod laidOutA (by kernel_rfl) (of_decide_eq_true (by kernel_rfl)) h5 bel lt5) (trodAll_cons_mk (Below.trod laidOutA (by kernel_rfl) (of_decide_eq_true (by kernel_rfl)) h6 bel lt6) trodAll_mk0))))))), rfl, bel.frame _, fun h => by cases h⟩

theorem over : Rows.ccacheChecksRow.holds Try.pinned (OpenSpec.ofChange Rows.ccacheChecksSpec) :=
  OpenClaim.holds_of_wide 3 Try.f3 rfl rfl rfl rfl rfl rfl rfl ⟨rfl, rfl, rfl, rfl, rfl⟩ rfl rfl rfl rfl rfl (by kernel_rfl) Try.func3 (by kernel_rfl)
    (of_decide_eq_true (by kernel_rfl)) (by unfold Func.isWrapper; first | (rw [if_pos (by decide +kernel)]; kernel_rfl) | (rw [if_neg (by decide +kernel)]; exact ⟨rfl, rfl⟩))
    (fun os started H enc _ => lifted os started H enc)
end CcacheChecksProof

theorem ccacheChecks_proved : Rows.CcacheChecksSaid := CcacheChecksProof.over
#print axioms ccacheChecks_proved
end Go.Proofs.Ytgiekmlofndeaaa

/-
  The statement DatabaseChecks: the law returns true for every input; no conditions.
-/
import Derived.Test.YtfagmeafkddibaaDoorCDbL
import Derived.Test.YtfagmeafkddibaaDoorLDoor
set_option linter.all false
namespace Go.Sx
open Go.Proofs Go.RowKit
def annE : DE := ⟨[97, 110, 110], [], 0, 0, 0, 0, 0, 0, 0⟩
theorem headI_10 {k : IntKind} {a0 a1 a2 a3 a4 a5 a6 a7 a8 a9 v : Int} {j : Nat} {K : Int → List L → Prop} (h : j < 10) (hv : ([a0, a1, a2, a3, a4, a5, a6, a7, a8, a9] : List Int).getD j 0 = v) (hk : ∀ r, K v r) : headI k (List.drop (j * 1) [.i k a0, .i k a1, .i k a2, .i k a3, .i k a4, .i k a5, .i k a6, .i k a7, .i k a8, .i k a9]) K := by
  refine ⟨v, ([a0, a1, a2, a3, a4, a5, a6, a7, a8, a9].drop (j + 1)).map (.i k), ?_, hk _⟩
  subst hv
  match j, h with
  | 0, _ => rfl
  | 1, _ => rfl
  | 2, _ => rfl
  | 3, _ => rfl
  | 4, _ => rfl
  | 5, _ => rfl
  | 6, _ => rfl
  | 7, _ => rfl
  | 8, _ => rfl
  | 9, _ => rfl
theorem remK_to {a b c : Int} {K : Int → Prop} (h : 0 ≤ a ∧ 0 < b) (hc : a % b = c) (hk : K c) : remK a b K := remK_pos h (by rw [hc]; exact hk)
theorem headS_deE {l : List DE} {j z : Nat} (hz : z = j * 9) {E : DE} (hE : l.getD j de0 = E) {K : List UInt8 → List L → Prop} (h : j < l.length) (hk : K E.x (.s E.y :: .i .u64 E.k :: .i .i64 E.kv :: .i .i64 E.ex :: .i .i64 E.ml :: .i .i64 E.atr :: .i .i64 E.fl :: .i .i64 E.un :: flat deR (l.drop (j + 1)))) : headS ((flat deR l).drop z) K := by
  subst hE
  exact headS_deJ hz h hk
noncomputable def g3 : Par := par 162 (nthLL [[1, 2, 3, 4, 5, 6], [1, 2, 3, 4, 5, 6, 22], [12], [1, 2, 3, 4, 5, 6, 34], [12], [2, 3, 4, 5, 6, 13], [2, 3, 4, 5, 13, 48], [12], [2, 3, 5, 13, 14], [2, 3, 5, 13, 14, 15], [2, 3, 5, 13, 14, 75], [12], [2, 3, 5, 13, 14, 16], [2, 3, 5, 13, 14, 16, 86], [3, 5, 13, 14, 16, 17], [3, 5, 13, 16, 17], [3, 5, 13, 16], [3, 13, 16, 18], [3, 16, 18, 19], [3, 16, 18, 19, 20], [3, 16, 18, 19, 20, 134], [3, 16, 18, 19, 20], [3, 16, 18, 19, 20], [12]]) [12, 100016, 100019] (nthLL [[], [], [], [], [], [], [0, 1, 3, 7, 15, 31, 15, 127, 255, 511], [], [], [], [0, 1, 0, 7, 15, 31, 63, 127, 255, 63, 575, 2047, 4095, 8191], [], [0, 1, 0, 0, 8, 28, 63, 0, 255], [], [], [0, 1, 0, 0, 8, 0, 56, 120, 0, 0, 0, 2040, 4095, 8191], [0, 1, 0, 4, 0, 0, 32, 0, 224, 480, 0, 1024, 3072, 7168, 16355, 32739, 65535, 131071], [], [], [], [], [], [], [0, 1, 0, 7, 15, 31, 63, 127, 63, 511, 1023, 2047, 4095, 8191, 16383, 8191, 65535, 131071, 262143, 524287]])
set_option maxRecDepth 10000
set_option maxHeartbeats 16000000
theorem c_DatabaseChecks (r : List UInt8) (rows : List (List L)) (hrows : ∀ r ∈ rows, Typ (tabF tab) 35 r) (l : List UInt8) (fd at_ : UInt8) (n : Int) (s : List UInt8) : Fn Tryd.prog 3 [.a [.s r, .sl rows.flatten rows.length], .o (.sl (l.map u8) l.length), .o (.i .u8 (fd.toNat : Int)), .o (.i .u8 (at_.toNat : Int)), .o (.i .i64 n), .o (.s s)] [] (.one (.c (.o (.b true)))) [] := by
  obtain ⟨W, rfl, hW⟩ := de_rows hrows
  rw [List.length_map]
  show Fn Tryd.prog _ [.a [.s r, .sl (flat deR W) W.length], _, _, _, _, _] _ _ _
  have hat := byte_lt at_
  have hfd := byte_lt fd
  have cl1 := c_long12 r W rfl
  refine Fn_intro (G := g3) (goodA rfl) (fn := Tryd.f3) rfl rfl rfl rfl rfl ?_
  by_cases hlong : dbLg r W = true ∨ s.length > 100 ∨ l.length > 700
  · generalize dbLg r W = A at *
    (repeat' ((conv => whnf) <;> first | exact rfl | with_reducible refine boolK_dec (fun _ => ?_) (fun _ => ?_) <;> try (exfalso; omega) | refine boolK_beq (fun _ => ?_) (fun _ => ?_) <;> try (exfalso; first | omega | contradiction) | refine boolK_bne (fun _ => ?_) (fun _ => ?_) <;> try (exfalso; first | omega | contradiction) | (with_reducible first | refine boolK_not ?_ | refine boolK_and ?_ | refine boolK_or ?_ | refine boolK_true ?_ | refine boolK_false ?_) | refine boolK_intro (fun _ => ?_) (fun _ => ?_) <;> try (exfalso; simp_all; done) | refine jA ?_ | refine jB ?_ | refine jC ?_ | refine jD ?_ | refine jE ?_ | refine jF ?_ | refine jG ?_ | refine jH ?_ | refine jI ?_ | refine jJ ?_ | refine jK ?_ | with_reducible refine natK_lit ?_ | refine natK_of rfl ?_ | refine natK_any ?_ | refine jO ?_ | refine jP ?_ | refine jQ ?_ | refine jR ?_ | refine jS ?_ | refine jT ?_ | refine jU (fun _ => ?_) | refine jV ?_ | refine jW ?_ | refine jX ?_ | refine jY ?_ | refine jZ ?_ | refine ja ?_ | refine jb ?_ | refine jc ?_ | refine jd ?_ | refine je ?_ | refine jf ?_ | refine jg ?_ | refine jh ?_ | refine ji ?_ | refine jj ?_ | refine jk ?_ | refine jn ?_ | refine jo ?_ | refine jp ?_ | refine jq ?_ | refine jr ?_ | refine js ?_ | refine callK_intro (c_awake12) ?_ | refine callK_intro (cl1) ?_ | refine jt ?_ | refine jx ?_ | refine jy ?_ | refine ju ?_ | refine jv ?_)) <;> (try (conv => whnf))
    all_goals (exfalso; rcases hlong with h | h | h <;> first | omega | (simp_all; done))
  · have f1 : dbLg r W = false := by cases h : dbLg r W with
      | true => exact absurd (.inl h) hlong
      | false => rfl
    have f3 : s.length ≤ 100 ∧ l.length ≤ 700 := by
      have : ¬ (s.length > 100 ∨ l.length > 700) := fun h => hlong (.inr h)
      omega
    rw [f1] at cl1
    obtain ⟨w1, w2⟩ := dbLg_is f1
    have hWs : ∀ s ∈ W, deSm 90000 s := fun s hs => by
      have h1 := w2 s hs
      exact ⟨by omega, by omega, hW s hs⟩
    obtain ⟨O, hO, cD⟩ := c_Database l rfl (by omega) (at_.toNat : Int) (by omega)
    obtain ⟨o1, o2, o3, _⟩ := dbC_un hO
    have hr0 : (realmN (at_.toNat : Int)).length ≤ 1000 := by
      have := valid_len (user_valid 0 (at_.toNat : Int))
      simp at this; omega
    have hOs : ∀ s ∈ O, deSm 90000 s := fun s hs => de_grow (by omega) (deV_small (o3 s hs)).1
    have k0 := c_dbCheck (realmN (at_.toNat : Int)) O (m := O.length) rfl (by omega) (by omega) hOs
    rw [hO] at k0
    obtain ⟨ew, k1, k2⟩ := chk_pack r W W.length rfl (by omega) (by omega) hWs
    obtain ⟨ey, y1, y2⟩ := chk_pack s O O.length rfl (by omega) (by omega) hOs
    obtain ⟨J, hJ⟩ : ∃ J : Nat, J = at_.toNat % 10 := ⟨_, rfl⟩
    obtain ⟨M, hM⟩ : ∃ M : Int, ([n, -1, 0, 256, 255, 21, 20, 4, 4294967295, 4294967296] : List Int).getD J 0 = M := ⟨_, rfl⟩
    have hm := fun K hk => headI_10 (k := .i64) (K := K) (show J < 10 by omega) hM hk
    obtain ⟨e', he', cX⟩ := c_changed12 ⟨[97, 110, 110], [], longK 2, 0, 0, 0, 0, 0, 0⟩ 90000 ⟨by decide, by decide, by decide⟩ fd M s (by omega)
    have q1 := c_dbCheckEntry e' he'
    have q2 := c_rdbCheckEntry e' he'
    have hsE : deSm 90000 ⟨s, [], 0, 0, 0, 0, 0, 0, 0⟩ := ⟨by show s.length ≤ _; omega, Nat.zero_le _, by show (0:Int) ≤ 0 ∧ (0 : Int) ≤ 18446744073709551615; omega⟩
    have q3 := c_dbCheckEntry ⟨s, [], 0, 0, 0, 0, 0, 0, 0⟩ hsE
    have q4 := c_rdbCheckEntry ⟨s, [], 0, 0, 0, 0, 0, 0, 0⟩ hsE
    have cL := c_Long 2 (by omega)
    dsimp only at cX q3 q4
    generalize deC ⟨s, [], 0, 0, 0, 0, 0, 0, 0⟩ = ES at *
    generalize deC e' = EE at *
    clear hlong f1 hO o1 o3
    generalize longK 2 = K2 at *
    generalize realmN (at_.toNat : Int) = R at *
    by_cases h0 : O.length = 0
    · obtain rfl : O = [] := List.length_eq_zero_iff.1 h0
      simp only [show flat deR ([] : List DE) = [] from rfl, List.length_nil] at cD k0 y1 y2
      obtain ⟨ex, x1, x2⟩ := chk_pack R ([] : List DE) 0 rfl (by simp) hr0 (by simp)
      simp only [show flat deR ([] : List DE) = [] from rfl] at x1 x2
      (repeat' ((conv => whnf) <;> first | with_reducible refine boolK_refl ?_ | refine natK_of (j := J) (by omega) ?_ | exact rfl | with_reducible refine boolK_dec (fun _ => ?_) (fun _ => ?_) <;> try (exfalso; omega) | refine boolK_beq (fun _ => ?_) (fun _ => ?_) <;> try (exfalso; first | omega | contradiction) | refine boolK_bne (fun _ => ?_) (fun _ => ?_) <;> try (exfalso; first | omega | contradiction) | (with_reducible first | refine boolK_not ?_ | refine boolK_and ?_ | refine boolK_or ?_ | refine boolK_true ?_ | refine boolK_false ?_) | refine boolK_intro (fun _ => ?_) (fun _ => ?_) <;> try (exfalso; simp_all; done) | refine jA ?_ | refine jB ?_ | refine jC ?_ | refine jD ?_ | refine jE ?_ | refine jF ?_ | refine jG ?_ | refine jH ?_ | refine jI ?_ | refine jJ ?_ | refine jK ?_ | with_reducible refine natK_lit ?_ | refine natK_of rfl ?_ | refine natK_any ?_ | refine jO ?_ | refine jP ?_ | refine jQ ?_ | refine jR ?_ | refine jS ?_ | refine jT ?_ | refine jU (fun _ => ?_) | refine jV ?_ | refine jW ?_ | refine jX ?_ | refine jY ?_ | refine jZ ?_ | refine ja ?_ | refine jb ?_ | refine jc ?_ | refine jd ?_ | refine je ?_ | refine jf ?_ | refine jg ?_ | refine jh ?_ | refine ji ?_ | refine jj ?_ | refine jk ?_ | refine jn ?_ | refine jo ?_ | refine jp ?_ | refine jq ?_ | refine jr ?_ | refine js ?_ | refine callK_intro (c_awake12) ?_ | refine callK_intro (cl1) ?_ | refine callK_intro (cD) ?_ | refine callK_intro (k0) ?_ | refine callK_intro (k1) ?_ | refine callK_intro (k2) ?_ | refine callK_intro (cL) ?_ | refine callK_intro (cX) ?_ | refine callK_intro (q1) ?_ | refine callK_intro (q2) ?_ | refine callK_intro (q3) ?_ | refine callK_intro (q4) ?_ | refine hm _ (fun _ => ?_) | refine jt ?_ | refine jx ?_ | refine jy ?_ | refine ju ?_ | refine jv ?_)) <;> (try (conv => whnf))
      refine loopK_inv (G := g3) (fun n st => ∃ j : Nat, n = 61 - j ∧ (j : Int) ≤ 60 + (at_.toNat : Int) % 2 ∧
        ((j = 0 ∧ st = ⟨[(3, .c (.o (.i .u8 (at_.toNat : Int)))), (16, .c (.o (.p 16 0))), (18, .c (.o (.p 18 0))), (19, .c (.o (.p 19 0))), (20, .c (.o (.i .i64 (j : Int))))], [(16, .st [.s R, .gw 2257 0 9]), (18, .st [.s s, .sl [] 0]), (19, .st [.s R, .nl]), (2257, .ar [])]⟩) ∨
         (0 < j ∧ st = ⟨[(3, .c (.o (.i .u8 (at_.toNat : Int)))), (16, .c (.o (.p 16 0))), (18, .c (.o (.p 18 0))), (19, .c (.o (.p 19 0))), (20, .c (.o (.i .i64 (j : Int))))], [(16, .st [.s R, .gw 2257 0 9]), (18, .st [.s s, .sl [] 0]), (19, .st [.s R, .gw 2305 j 9]), (2257, .ar []), (2305, .ar (flat deR (List.replicate j annE)))]⟩))) (n := 61) ⟨0, by omega, by omega, .inl ⟨rfl, rfl⟩⟩ ?_
      rintro n st ⟨j, hn, hj, hst⟩
      by_cases hjl : (j : Int) < 60 + (at_.toNat : Int) % 2
      · have fz : flat deR (List.replicate j annE) ++ [.s [97, 110, 110], .s [], .i .u64 0, .i .i64 0, .i .i64 0, .i .i64 0, .i .i64 0, .i .i64 0, .i .i64 0] = flat deR (List.replicate (j + 1) annE) := by rw [List.replicate_succ', flat_append, flat_one]; rfl
        rcases hst with ⟨rfl, rfl⟩ | ⟨hj0, rfl⟩
        · (repeat' ((conv => whnf) <;> first | assumption | exact rfl | with_reducible refine boolK_dec (fun _ => ?_) (fun _ => ?_) <;> try (exfalso; omega) | refine boolK_beq (fun _ => ?_) (fun _ => ?_) <;> try (exfalso; first | omega | contradiction) | refine boolK_bne (fun _ => ?_) (fun _ => ?_) <;> try (exfalso; first | omega | contradiction) | (with_reducible first | refine boolK_not ?_ | refine boolK_and ?_ | refine boolK_or ?_ | refine boolK_true ?_ | refine boolK_false ?_) | refine boolK_intro (fun _ => ?_) (fun _ => ?_) <;> try (exfalso; simp_all; done) | refine jA ?_ | refine jB ?_ | refine jC ?_ | refine jD ?_ | refine jE ?_ | refine jF ?_ | refine jG ?_ | refine jH ?_ | refine jI ?_ | refine jJ ?_ | refine jK ?_ | with_reducible refine natK_lit ?_ | refine natK_of rfl ?_ | refine natK_any ?_ | refine jO ?_ | refine jP ?_ | refine jQ ?_ | refine jR ?_ | refine jS ?_ | refine jT ?_ | refine jU (fun _ => ?_) | refine jV ?_ | refine jW ?_ | refine jX ?_ | refine jY ?_ | refine jZ ?_ | refine ja ?_ | refine jb ?_ | refine jc ?_ | refine jd ?_ | refine je ?_ | refine jf ?_ | refine jg ?_ | refine jh ?_ | refine ji ?_ | refine jj ?_ | refine jk ?_ | refine jn ?_ | refine jo ?_ | refine jp ?_ | refine jq ?_ | refine jr ?_ | refine js ?_ | exact ⟨n - 1, by omega, 1, by omega, by omega, .inr ⟨by omega, rfl⟩⟩ | refine jt ?_ | refine jx ?_ | refine jy ?_ | refine ju ?_ | refine jv ?_)) <;> (try (conv => whnf))
        · (repeat' ((conv => whnf) <;> first | refine catK_of fz ?_ | exact rfl | with_reducible refine boolK_dec (fun _ => ?_) (fun _ => ?_) <;> try (exfalso; omega) | refine boolK_beq (fun _ => ?_) (fun _ => ?_) <;> try (exfalso; first | omega | contradiction) | refine boolK_bne (fun _ => ?_) (fun _ => ?_) <;> try (exfalso; first | omega | contradiction) | (with_reducible first | refine boolK_not ?_ | refine boolK_and ?_ | refine boolK_or ?_ | refine boolK_true ?_ | refine boolK_false ?_) | refine boolK_intro (fun _ => ?_) (fun _ => ?_) <;> try (exfalso; simp_all; done) | refine jA ?_ | refine jB ?_ | refine jC ?_ | refine jD ?_ | refine jE ?_ | refine jF ?_ | refine jG ?_ | refine jH ?_ | refine jI ?_ | refine jJ ?_ | refine jK ?_ | with_reducible refine natK_lit ?_ | refine natK_of rfl ?_ | refine natK_any ?_ | refine jO ?_ | refine jP ?_ | refine jQ ?_ | refine jR ?_ | refine jS ?_ | refine jT ?_ | refine jU (fun _ => ?_) | refine jV ?_ | refine jW ?_ | refine jX ?_ | refine jY ?_ | refine jZ ?_ | refine ja ?_ | refine jb ?_ | refine jc ?_ | refine jd ?_ | refine je ?_ | refine jf ?_ | refine jg ?_ | refine jh ?_ | refine ji ?_ | refine jj ?_ | refine jk ?_ | refine jn ?_ | refine jo ?_ | refine jp ?_ | refine jq ?_ | refine jr ?_ | refine js ?_ | exact ⟨n - 1, by omega, j + 1, by omega, by omega, .inr ⟨by omega, rfl⟩⟩ | refine jt ?_ | refine jx ?_ | refine jy ?_ | refine ju ?_ | refine jv ?_)) <;> (try (conv => whnf))
      · obtain ⟨ez, z1, z2⟩ := chk_pack R (List.replicate j annE) j (by simp) (by simp; omega) hr0 (fun s hs => by
          obtain rfl := List.eq_of_mem_replicate hs
          exact ⟨by decide, by decide, by decide⟩)
        rcases hst with ⟨rfl, rfl⟩ | ⟨hj0, rfl⟩
        · exfalso; omega
        · (repeat' ((conv => whnf) <;> first | with_reducible refine boolK_refl ?_ | exact rfl | with_reducible refine boolK_dec (fun _ => ?_) (fun _ => ?_) <;> try (exfalso; omega) | refine boolK_beq (fun _ => ?_) (fun _ => ?_) <;> try (exfalso; first | omega | contradiction) | refine boolK_bne (fun _ => ?_) (fun _ => ?_) <;> try (exfalso; first | omega | contradiction) | (with_reducible first | refine boolK_not ?_ | refine boolK_and ?_ | refine boolK_or ?_ | refine boolK_true ?_ | refine boolK_false ?_) | refine boolK_intro (fun _ => ?_) (fun _ => ?_) <;> try (exfalso; simp_all; done) | refine jA ?_ | refine jB ?_ | refine jC ?_ | refine jD ?_ | refine jE ?_ | refine jF ?_ | refine jG ?_ | refine jH ?_ | refine jI ?_ | refine jJ ?_ | refine jK ?_ | with_reducible refine natK_lit ?_ | refine natK_of rfl ?_ | refine natK_any ?_ | refine jO ?_ | refine jP ?_ | refine jQ ?_ | refine jR ?_ | refine jS ?_ | refine jT ?_ | refine jU (fun _ => ?_) | refine jV ?_ | refine jW ?_ | refine jX ?_ | refine jY ?_ | refine jZ ?_ | refine ja ?_ | refine jb ?_ | refine jc ?_ | refine jd ?_ | refine je ?_ | refine jf ?_ | refine jg ?_ | refine jh ?_ | refine ji ?_ | refine jj ?_ | refine jk ?_ | refine jn ?_ | refine jo ?_ | refine jp ?_ | refine jq ?_ | refine jr ?_ | refine js ?_ | refine callK_intro (z1) ?_ | refine callK_intro (z2) ?_ | refine callK_intro (y1) ?_ | refine callK_intro (y2) ?_ | refine callK_intro (x1) ?_ | refine callK_intro (x2) ?_ | assumption | refine jt ?_ | refine jx ?_ | refine jy ?_ | refine ju ?_ | refine sideK_intro (by first | (exact ⟨rfl⟩)) ?_ | refine jv ?_)) <;> (try (conv => whnf))
    · have hfl := flat_len deR_len O
      obtain ⟨k, hk, hmod⟩ : ∃ k : Nat, k < O.length ∧ (fd.toNat : Int) % ((0 + O.length : Nat) : Int) = (k : Int) := ⟨fd.toNat % O.length, Nat.mod_lt _ (by omega), by rw [Nat.zero_add]; exact (Int.natCast_emod ..).symm⟩
      have hX0 := fun K hK => headS_de (l := O) (j := k) (K := K) hk hK
      have sX := hOs (O.getD k de0) (getD_mem (d := de0) hk)
      obtain ⟨e2, he2, cY⟩ := c_changed12 (O.getD k de0) 90000 sX at_ M s (by omega)
      have hput := flat_put deR_len (l := O) (j := k) e2 hk
      have hput0 := hput
      rw [deR] at hput
      have l1 : (O.set k e2).length = O.length := List.length_set
      have g1 : (O.set k e2).getD k de0 = e2 := by rw [set_getD hk, if_pos rfl]
      have hs1 : ∀ s ∈ O.set k e2, deSm 90000 s := fun s hs => by
        rcases List.mem_or_eq_of_mem_set hs with h | h
        · exact hOs s h
        · subst h; exact he2
      generalize O.set k e2 = O1 at *
      have sZ := hs1 (O1.getD 0 de0) (getD_mem (d := de0) (by omega))
      have hX1 := fun K hK => headS_deE (l := O1) (j := k) (z := k * 9) rfl g1 (K := K) (by omega) hK
      have hZ1 := fun z hz K hK => headS_deE (l := O1) (j := 0) (z := z) hz (E := O1.getD 0 de0) rfl (K := K) (by omega) hK
      generalize O1.getD 0 de0 = Z at *
      have hput2 := flat_put deR_len (l := O1) (j := 0) e2 (by omega)
      have l2 : (O1.set 0 e2).length = O1.length := List.length_set
      have hs2 : ∀ s ∈ O1.set 0 e2, deSm 90000 s := fun s hs => by
        rcases List.mem_or_eq_of_mem_set hs with h | h
        · exact hs1 s h
        · subst h; exact he2
      generalize O1.set 0 e2 = O2 at *
      have sd3 : k * 9 + (deR Z).length ≤ (putAt (putAt (flat deR O) (k * 9) (deR e2)) (0 * 9) (deR e2)).length := by
        rw [hput0, hput2, flat_len deR_len O2, deR_len]
        omega
      simp only [deR] at sd3
      have hput3 := flat_put deR_len (l := O2) (j := k) Z (by omega)
      have l3 : (O2.set k Z).length = O2.length := List.length_set
      have hs3 : ∀ s ∈ O2.set k Z, deSm 90000 s := fun s hs => by
        rcases List.mem_or_eq_of_mem_set hs with h | h
        · exact hs2 s h
        · subst h; exact sZ
      generalize O2.set k Z = O3 at *
      have lf1 := flat_len deR_len O1
      have lf2 := flat_len deR_len O2
      obtain ⟨ex, x1, x2⟩ := chk_pack R O3 (0 + O.length) (by omega) (by omega) hr0 hs3
      rw [deR] at hput2 hput3
      rw [← hput2] at hput3
      rw [← hput] at hput2 hput3
      rw [← hput3] at x1 x2
      rw [← hput2] at lf2
      rw [← hput] at hX1 hZ1 lf1
      (repeat' ((conv => whnf) <;> first | with_reducible refine boolK_refl ?_ | refine natK_of (j := J) (by omega) ?_ | refine remK_to (by omega) hmod ?_ | refine natK_of (j := k) (by omega) ?_ | exact rfl | with_reducible refine boolK_dec (fun _ => ?_) (fun _ => ?_) <;> try (exfalso; omega) | refine boolK_beq (fun _ => ?_) (fun _ => ?_) <;> try (exfalso; first | omega | contradiction) | refine boolK_bne (fun _ => ?_) (fun _ => ?_) <;> try (exfalso; first | omega | contradiction) | (with_reducible first | refine boolK_not ?_ | refine boolK_and ?_ | refine boolK_or ?_ | refine boolK_true ?_ | refine boolK_false ?_) | refine boolK_intro (fun _ => ?_) (fun _ => ?_) <;> try (exfalso; simp_all; done) | refine jA ?_ | refine jB ?_ | refine jC ?_ | refine jD ?_ | refine jE ?_ | refine jF ?_ | refine jG ?_ | refine jH ?_ | refine jI ?_ | refine jJ ?_ | refine jK ?_ | with_reducible refine natK_lit ?_ | refine natK_of rfl ?_ | refine natK_any ?_ | refine jO ?_ | refine jP ?_ | refine jQ ?_ | refine jR ?_ | refine jS ?_ | refine jT ?_ | refine jU (fun _ => ?_) | refine jV ?_ | refine jW ?_ | refine jX ?_ | refine jY ?_ | refine jZ ?_ | refine ja ?_ | refine jb ?_ | refine jc ?_ | refine jd ?_ | refine je ?_ | refine jf ?_ | refine jg ?_ | refine jh ?_ | refine ji ?_ | refine jj ?_ | refine jk ?_ | refine jn ?_ | refine jo ?_ | refine jp ?_ | refine jq ?_ | refine jr ?_ | refine js ?_ | refine callK_intro (c_awake12) ?_ | refine callK_intro (cl1) ?_ | refine callK_intro (cD) ?_ | refine callK_intro (k0) ?_ | refine callK_intro (k1) ?_ | refine callK_intro (k2) ?_ | refine callK_intro (cL) ?_ | refine callK_intro (cX) ?_ | refine callK_intro (q1) ?_ | refine callK_intro (q2) ?_ | refine callK_intro (q3) ?_ | refine callK_intro (q4) ?_ | refine callK_intro (cY) ?_ | refine hm _ (fun _ => ?_) | refine hX0 _ ?_ | refine sideK_intro sd3 ?_ | refine hX1 _ ?_ | refine hZ1 _ (by omega) _ ?_ | refine hZ1 _ rfl _ ?_ | refine jt ?_ | refine jx ?_ | refine jy ?_ | refine ju ?_ | refine jv ?_)) <;> (try (conv => whnf))
      rw [hput3]
      rw [hput3] at x1 x2
      clear hX0 hX1 hZ1 hput hput0 hput2 hput3 sd3 lf1 lf2 hm
      refine loopK_inv (G := g3) (fun n st => ∃ j : Nat, n = 61 - j ∧ (j : Int) ≤ 60 + (at_.toNat : Int) % 2 ∧
        ((j = 0 ∧ st = ⟨[(3, .c (.o (.i .u8 (at_.toNat : Int)))), (16, .c (.o (.p 16 0))), (18, .c (.o (.p 18 0))), (19, .c (.o (.p 19 0))), (20, .c (.o (.i .i64 (j : Int))))], [(16, .st [.s R, .gw 2257 (0 + O.length) 9]), (18, .st [.s s, .sl (flat deR O) O.length]), (19, .st [.s R, .nl]), (2257, .ar (flat deR O3))]⟩) ∨
         (0 < j ∧ st = ⟨[(3, .c (.o (.i .u8 (at_.toNat : Int)))), (16, .c (.o (.p 16 0))), (18, .c (.o (.p 18 0))), (19, .c (.o (.p 19 0))), (20, .c (.o (.i .i64 (j : Int))))], [(16, .st [.s R, .gw 2257 (0 + O.length) 9]), (18, .st [.s s, .sl (flat deR O) O.length]), (19, .st [.s R, .gw 2305 j 9]), (2257, .ar (flat deR O3)), (2305, .ar (flat deR (List.replicate j annE)))]⟩))) (n := 61) ⟨0, by omega, by omega, .inl ⟨rfl, rfl⟩⟩ ?_
      rintro n st ⟨j, hn, hj, hst⟩
      by_cases hjl : (j : Int) < 60 + (at_.toNat : Int) % 2
      · have fz : flat deR (List.replicate j annE) ++ [.s [97, 110, 110], .s [], .i .u64 0, .i .i64 0, .i .i64 0, .i .i64 0, .i .i64 0, .i .i64 0, .i .i64 0] = flat deR (List.replicate (j + 1) annE) := by rw [List.replicate_succ', flat_append, flat_one]; rfl
        rcases hst with ⟨rfl, rfl⟩ | ⟨hj0, rfl⟩
        · (repeat' ((conv => whnf) <;> first | assumption | exact rfl | with_reducible refine boolK_dec (fun _ => ?_) (fun _ => ?_) <;> try (exfalso; omega) | refine boolK_beq (fun _ => ?_) (fun _ => ?_) <;> try (exfalso; first | omega | contradiction) | refine boolK_bne (fun _ => ?_) (fun _ => ?_) <;> try (exfalso; first | omega | contradiction) | (with_reducible first | refine boolK_not ?_ | refine boolK_and ?_ | refine boolK_or ?_ | refine boolK_true ?_ | refine boolK_false ?_) | refine boolK_intro (fun _ => ?_) (fun _ => ?_) <;> try (exfalso; simp_all; done) | refine jA ?_ | refine jB ?_ | refine jC ?_ | refine jD ?_ | refine jE ?_ | refine jF ?_ | refine jG ?_ | refine jH ?_ | refine jI ?_ | refine jJ ?_ | refine jK ?_ | with_reducible refine natK_lit ?_ | refine natK_of rfl ?_ | refine natK_any ?_ | refine jO ?_ | refine jP ?_ | refine jQ ?_ | refine jR ?_ | refine jS ?_ | refine jT ?_ | refine jU (fun _ => ?_) | refine jV ?_ | refine jW ?_ | refine jX ?_ | refine jY ?_ | refine jZ ?_ | refine ja ?_ | refine jb ?_ | refine jc ?_ | refine jd ?_ | refine je ?_ | refine jf ?_ | refine jg ?_ | refine jh ?_ | refine ji ?_ | refine jj ?_ | refine jk ?_ | refine jn ?_ | refine jo ?_ | refine jp ?_ | refine jq ?_ | refine jr ?_ | refine js ?_ | exact ⟨n - 1, by omega, 1, by omega, by omega, .inr ⟨by omega, rfl⟩⟩ | refine jt ?_ | refine jx ?_ | refine jy ?_ | refine ju ?_ | refine jv ?_)) <;> (try (conv => whnf))
        · (repeat' ((conv => whnf) <;> first | refine catK_of fz ?_ | exact rfl | with_reducible refine boolK_dec (fun _ => ?_) (fun _ => ?_) <;> try (exfalso; omega) | refine boolK_beq (fun _ => ?_) (fun _ => ?_) <;> try (exfalso; first | omega | contradiction) | refine boolK_bne (fun _ => ?_) (fun _ => ?_) <;> try (exfalso; first | omega | contradiction) | (with_reducible first | refine boolK_not ?_ | refine boolK_and ?_ | refine boolK_or ?_ | refine boolK_true ?_ | refine boolK_false ?_) | refine boolK_intro (fun _ => ?_) (fun _ => ?_) <;> try (exfalso; simp_all; done) | refine jA ?_ | refine jB ?_ | refine jC ?_ | refine jD ?_ | refine jE ?_ | refine jF ?_ | refine jG ?_ | refine jH ?_ | refine jI ?_ | refine jJ ?_ | refine jK ?_ | with_reducible refine natK_lit ?_ | refine natK_of rfl ?_ | refine natK_any ?_ | refine jO ?_ | refine jP ?_ | refine jQ ?_ | refine jR ?_ | refine jS ?_ | refine jT ?_ | refine jU (fun _ => ?_) | refine jV ?_ | refine jW ?_ | refine jX ?_ | refine jY ?_ | refine jZ ?_ | refine ja ?_ | refine jb ?_ | refine jc ?_ | refine jd ?_ | refine je ?_ | refine jf ?_ | refine jg ?_ | refine jh ?_ | refine ji ?_ | refine jj ?_ | refine jk ?_ | refine jn ?_ | refine jo ?_ | refine jp ?_ | refine jq ?_ | refine jr ?_ | refine js ?_ | exact ⟨n - 1, by omega, j + 1, by omega, by omega, .inr ⟨by omega, rfl⟩⟩ | refine jt ?_ | refine jx ?_ | refine jy ?_ | refine ju ?_ | refine jv ?_)) <;> (try (conv => whnf))
      · obtain ⟨ez, z1, z2⟩ := chk_pack R (List.replicate j annE) j (by simp) (by simp; omega) hr0 (fun s hs => by
          obtain rfl := List.eq_of_mem_replicate hs
          exact ⟨by decide, by decide, by decide⟩)
        rcases hst with ⟨rfl, rfl⟩ | ⟨hj0, rfl⟩
        · exfalso; omega
        · (repeat' ((conv => whnf) <;> first | with_reducible refine boolK_refl ?_ | exact rfl | with_reducible refine boolK_dec (fun _ => ?_) (fun _ => ?_) <;> try (exfalso; omega) | refine boolK_beq (fun _ => ?_) (fun _ => ?_) <;> try (exfalso; first | omega | contradiction) | refine boolK_bne (fun _ => ?_) (fun _ => ?_) <;> try (exfalso; first | omega | contradiction) | (with_reducible first | refine boolK_not ?_ | refine boolK_and ?_ | refine boolK_or ?_ | refine boolK_true ?_ | refine boolK_false ?_) | refine boolK_intro (fun _ => ?_) (fun _ => ?_) <;> try (exfalso; simp_all; done) | refine jA ?_ | refine jB ?_ | refine jC ?_ | refine jD ?_ | refine jE ?_ | refine jF ?_ | refine jG ?_ | refine jH ?_ | refine jI ?_ | refine jJ ?_ | refine jK ?_ | with_reducible refine natK_lit ?_ | refine natK_of rfl ?_ | refine natK_any ?_ | refine jO ?_ | refine jP ?_ | refine jQ ?_ | refine jR ?_ | refine jS ?_ | refine jT ?_ | refine jU (fun _ => ?_) | refine jV ?_ | refine jW ?_ | refine jX ?_ | refine jY ?_ | refine jZ ?_ | refine ja ?_ | refine jb ?_ | refine jc ?_ | refine jd ?_ | refine je ?_ | refine jf ?_ | refine jg ?_ | refine jh ?_ | refine ji ?_ | refine jj ?_ | refine jk ?_ | refine jn ?_ | refine jo ?_ | refine jp ?_ | refine jq ?_ | refine jr ?_ | refine js ?_ | refine callK_intro (z1) ?_ | refine callK_intro (z2) ?_ | refine callK_intro (y1) ?_ | refine callK_intro (y2) ?_ | refine callK_intro (x1) ?_ | refine callK_intro (x2) ?_ | assumption | refine jt ?_ | refine jx ?_ | refine jy ?_ | refine ju ?_ | refine sideK_intro (by first | (exact ⟨rfl⟩)) ?_ | refine jv ?_)) <;> (try (conv => whnf))
end Go.Sx
namespace Go.Proofs.YtfagmeafkddibaaDoor
open Go.ChangeShapes Go.WideShapes Go.ChangeAt Go.RowKit Go.Sx
namespace DatabaseChecksProof
set_option maxRecDepth 100000 in
theorem walk (W : World) (v0 v1 v2 v3 v4 v5 : Value) (ls0 ls1 ls2 ls3 ls4 ls5 : List L)
    (t0 : Typ (tabF tab) 24 ls0) (t1 : Typ (tabF tab) 25 ls1) (t2 : Typ (tabF tab) 5 ls2) (t3 : Typ (tabF tab) 5 ls3) (t4 : Typ (tabF tab) 3 ls4) (t5 : Typ (tabF tab) 9 ls5)
    (r0 : RelC (fun _ => False) W noMu (argC (tabF tab 24).agg ls0) v0) (r1 : RelC (fun _ => False) W noMu (argC (tabF tab 25).agg ls1) v1) (r2 : RelC (fun _ => False) W noMu (argC (tabF tab 5).agg ls2) v2) (r3 : RelC (fun _ => False) W noMu (argC (tabF tab 5).agg ls3) v3) (r4 : RelC (fun _ => False) W noMu (argC (tabF tab 3).agg ls4) v4) (r5 : RelC (fun _ => False) W noMu (argC (tabF tab 9).agg ls5) v5) :
    Calls Tryd.prog 3 #[v0, v1, v2, v3, v4, v5] W fun e w' => e = .returned (.bool true) ∧ Below W.heap.size W w' := by
  obtain ⟨partsa0, rfl, hla0, hpa0⟩ := typ_struct t0 rfl
  obtain ⟨qa0_0, qa0_1, rfl⟩ : ∃ qa0_0 qa0_1, partsa0 = [qa0_0, qa0_1] := by
    match partsa0, hla0 with
    | [qa0_0, qa0_1], _ => exact ⟨qa0_0, qa0_1, rfl⟩
  have ta0_0 := hpa0 0 _ qa0_0 rfl rfl
  obtain ⟨a0_0, rfl⟩ := typ_str ta0_0 rfl
  have ta0_1 := hpa0 1 _ qa0_1 rfl rfl
  obtain ⟨a0_1, rfl, wa0_1⟩ := typ_slice ta0_1 rfl
  obtain ⟨a1, rfl⟩ := typ_bytes t1 rfl rfl
  obtain ⟨a2, rfl⟩ := typ_u8 t2 rfl
  obtain ⟨a3, rfl⟩ := typ_u8 t3 rfl
  obtain ⟨a4, rfl, wa4⟩ := typ_int t4 rfl
  obtain ⟨a5, rfl⟩ := typ_str t5 rfl
  exact calls_of_fn Tryd.func3 rfl rfl (c_DatabaseChecks a0_0 _ wa0_1 a1 a2 a3 a4 a5) (relCs_cons r0 (relCs_cons r1 (relCs_cons r2 (relCs_cons r3 (relCs_cons r4 (relCs_cons r5 relCs_nil))))))

set_option maxRecDepth 100000 in
theorem lifted (os : Os) (started : os.Started) (H : Type) (enc : TypeId × Value → H) :
    ReturnsInHanded {} Tryd.checked os 3 .any (fun w args => (Rows.databaseChecksSpec.pre enc Tryd.prog Tryd.f3 [] false w args ∧ laidMetH Tryd.prog laidA w) ∧ sizedMet enc Tryd.prog Tryd.f3 (OpenSpec.ofChange Rows.databaseChecksSpec) false w args) (Rows.databaseChecksSpec.post enc Tryd.prog Tryd.f3 false true false false) := by
  refine returnsInHanded_of_change_and (C := Tryd.checked) (X := fun w _ => laidMetH Tryd.prog laidA w) (fun _ _ _ hh h => h.of_heap hh) ownA started (by kernel_rfl) Tryd.func3
    (ChangeSpec.witness_shaped (enc := enc) (C := Tryd.checked) (os := os) (X := fun w _ => laidMetH Tryd.prog laidA w) false (World.doorLaid Tryd.prog 24 os) #[.agg #[.string ByteArray.empty, .slice none 0 0], .slice none 0 0, .int .u8 0, .int .u8 0, .int .i64 0, .string ByteArray.empty] 8 rfl (World.shaped_of_RefB (by kernel_rfl) (by kernel_rfl)) (by kernel_rfl) (by kernel_rfl) (by kernel_rfl) (door_metA os _)) ?_
  intro W base args ds gs before hval0 hW _ _ hL _
  have hval : ∀ (j : Nat) t v, Tryd.f3.params[j]? = some t → args[j]? = some v → Value.okWide Tryd.prog W .any base t v := hval0
  have hW' := hW
  obtain ⟨p, q, hA0, hV, rfl, hfz, hnd⟩ := hW
  have hA : DataW.TrodAll enc Tryd.prog W 0 (fun _ => true) true Tryd.f3.params.toList args.toList ds p := hA0
  rw [Tryd.params3] at hA hval
  obtain ⟨v0, vs0, d0, ds0, p0, q0, hargs, rfl, rfl, h0, r0⟩ := trodAll_cons hA
  obtain ⟨v1, vs1, d1, ds1, p1, q1, rfl, rfl, rfl, h1, r1⟩ := trodAll_cons r0
  obtain ⟨v2, vs2, d2, ds2, p2, q2, rfl, rfl, rfl, h2, r2⟩ := trodAll_cons r1
  obtain ⟨v3, vs3, d3, ds3, p3, q3, rfl, rfl, rfl, h3, r3⟩ := trodAll_cons r2
  obtain ⟨v4, vs4, d4, ds4, p4, q4, rfl, rfl, rfl, h4, r4⟩ := trodAll_cons r3
  obtain ⟨v5, vs5, d5, ds5, p5, q5, rfl, rfl, rfl, h5, r5⟩ := trodAll_cons r4
  obtain ⟨rfl, rfl, rfl⟩ := trodAll_nil r5
  obtain rfl : args = #[v0, v1, v2, v3, v4, v5] := by cases args; simp_all
  obtain ⟨rfl, rfl⟩ := trodVars_none hV
  obtain ⟨ls0, t0, c0⟩ := rel_arg tokA (n := 9) rfl h0 (hval 0 24 v0 rfl rfl)
  obtain ⟨ls1, t1, c1⟩ := rel_arg tokA (n := 9) rfl h1 (hval 1 25 v1 rfl rfl)
  obtain ⟨ls2, t2, c2⟩ := rel_arg tokA (n := 9) rfl h2 (hval 2 5 v2 rfl rfl)
  obtain ⟨ls3, t3, c3⟩ := rel_arg tokA (n := 9) rfl h3 (hval 3 5 v3 rfl rfl)
  obtain ⟨ls4, t4, c4⟩ := rel_arg tokA (n := 9) rfl h4 (hval 4 3 v4 rfl rfl)
  obtain ⟨ls5, t5, c5⟩ := rel_arg tokA (n := 9) rfl h5 (hval 5 9 v5 rfl rfl)
  have lt0 : ∀ x ∈ p0, x.block < W.heap.size := by obtain ⟨m, hm⟩ := h0; exact DataW.trod_lt m _ _ _ hm
  have lt1 : ∀ x ∈ p1, x.block < W.heap.size := by obtain ⟨m, hm⟩ := h1; exact DataW.trod_lt m _ _ _ hm
  have lt2 : ∀ x ∈ p2, x.block < W.heap.size := by obtain ⟨m, hm⟩ := h2; exact DataW.trod_lt m _ _ _ hm
  have lt3 : ∀ x ∈ p3, x.block < W.heap.size := by obtain ⟨m, hm⟩ := h3; exact DataW.trod_lt m _ _ _ hm
  have lt4 : ∀ x ∈ p4, x.block < W.heap.size := by obtain ⟨m, hm⟩ := h4; exact DataW.trod_lt m _ _ _ hm
  have lt5 : ∀ x ∈ p5, x.block < W.heap.size := by obtain ⟨m, hm⟩ := h5; exact DataW.trod_lt m _ _ _ hm
  clear hA0 hval0
  refine (walk W v0 v1 v2 v3 v4 v5 ls0 ls1 ls2 ls3 ls4 ls5 t0 t1 t2 t3 t4 t5 c0 c1 c2 c3 c4 c5).mono fun e W' ⟨he, bel⟩ => ?_
  subst he
  exact ⟨_, rfl, _, _, _, [], _, [], hW', trodAll_mk1 (shut_bool Tryd.underlying4 _), (trodAll_cons_mk (Below.trod laidOutA (by kernel_rfl) (of_decide_eq_true (by kernel_rfl)) h0 bel lt0) (trodAll_cons_mk (Below.trod laidOutA (by kernel_rfl) (of_decide_eq_true (by kernel_rfl)) h1 bel lt1) (trodAll_cons_mk (Below.trod laidOutA (by kernel_rfl) (of_decide_eq_true (by kernel_rfl)) h2 bel lt2) (trodAll_cons_mk (Below.trod laidOutA (by kernel_rfl) (of_decide_eq_true (by kernel_rfl)) h3 bel lt3) (trodAll_cons_mk (Below.trod laidOutA (by kernel_rfl) (of_decide_eq_true (by kernel_rfl)) h4 bel lt4) (trodAll_cons_mk (Below.trod laidOutA (by kernel_rfl) (of_decide_eq_true (by kernel_rfl)) h5 bel lt5) trodAll_mk0)))))), rfl, bel.frame _, fun h => by cases h⟩

set_option maxRecDepth 100000 in
theorem over : Rows.databaseChecksRow.holds Tryd.pinned (OpenSpec.ofChange Rows.databaseChecksSpec) :=
  OpenClaim.holds_of_wide 3 Tryd.f3 rfl rfl rfl rfl rfl rfl rfl ⟨rfl, rfl, rfl, rfl, rfl⟩ rfl rfl rfl rfl rfl (by kernel_rfl) Tryd.func3 (by kernel_rfl)
    (of_decide_eq_true (by kernel_rfl)) (by unfold Func.isWrapper; first | (rw [if_pos (by decide +kernel)]; kernel_rfl) | (rw [if_neg (by decide +kernel)]; exact ⟨rfl, rfl⟩))
    (fun os started H enc _ => lifted os started H enc)
set_option maxRecDepth 100000 in
theorem card : Claim7.holds Tryd.pinned (.plain (OpenSpec.ofChange Rows.databaseChecksSpec)) Rows.databaseChecksCard :=
  Claim7.holds_tied_plain_at .later [] [.data, .data, .data] true (true, "86da0c24c9236608754bf5c54e3aea5521f45cfe452094d8e1acd59017ce1540") false
    over (fun _ h => by cases h) (by kernel_rfl) (fun _ h => by cases h) databaseChecks_row_tie rfl ⟨rfl, rfl⟩ (by kernel_rfl) rfl
    (fun f fn hf hfn => by
      obtain rfl : f = 3 := Option.some.inj ((show Tryd.prog.funcNamed "kerbsuite/kerbsuitelaw12.DatabaseChecks" = some 3 by kernel_rfl).symm.trans hf) |>.symm
      obtain rfl : fn = Tryd.f3 := (Option.some.inj (Tryd.func3.symm.trans hfn)).symm
      exact ⟨by kernel_rfl, fun j t ht => by
        rw [Tryd.params3] at ht
        have hm : t ∈ [24, 25, 5, 5, 3, 9] := by simpa using Array.mem_of_getElem? ht
        have hall : ([24, 25, 5, 5, 3, 9].all fun u => !Tryd.prog.wantsStandIn u) = true := by kernel_rfl
        exact (show Tryd.prog.wantsStandIn t = false by simpa using List.all_eq_true.1 hall t hm)⟩)
    (by kernel_rfl)
end DatabaseChecksProof

theorem databaseChecks_proved : Rows.DatabaseChecksCardSaid := DatabaseChecksProof.card
#print axioms databaseChecks_proved
end Go.Proofs.YtfagmeafkddibaaDoor

/-
  The statement DatabaseKeeps: the law returns true for every input; no conditions.
-/
import Derived.Test.YtfagmeafkddibaaDoorCDbL
import Derived.Test.YtfagmeafkddibaaDoorLDoor
set_option linter.all false
namespace Go.Sx
open Go.Proofs Go.RowKit
theorem headS_deE {l : List DE} {j z : Nat} (hz : z = j * 9) {E : DE} (hE : l.getD j de0 = E) {K : List UInt8 → List L → Prop} (h : j < l.length) (hk : K E.x (.s E.y :: .i .u64 E.k :: .i .i64 E.kv :: .i .i64 E.ex :: .i .i64 E.ml :: .i .i64 E.atr :: .i .i64 E.fl :: .i .i64 E.un :: flat deR (l.drop (j + 1)))) : headS ((flat deR l).drop z) K := by
  subst hE
  exact headS_deJ hz h hk
theorem remK_to {a b c : Int} {K : Int → Prop} (h : 0 ≤ a ∧ 0 < b) (hc : a % b = c) (hk : K c) : remK a b K := remK_pos h (by rw [hc]; exact hk)
noncomputable def g5 : Par := par 183 (nthLL [[0, 1, 2], [0, 1, 2, 21], [6], [0, 1, 2, 29], [6], [1, 2, 7], [2, 7, 8], [2, 7, 8, 10], [2, 7, 8, 10, 11, 12], [2, 7, 8, 10, 11, 12, 54], [6], [2, 7, 8, 10, 11, 12, 13, 14], [2, 7, 8, 10, 11, 13, 14, 82], [6], [2, 7, 116], [6], [2, 7, 120], [6], [2, 7, 15], [2, 7, 15, 16, 17], [2, 7, 15, 16, 151], [6], [2, 7, 15, 16, 18], [2, 7, 15, 16, 18, 156], [2, 7, 15, 16, 18], [2, 7, 15, 16, 18, 19], [2, 7, 15, 16, 18, 19, 166], [2, 7, 15, 16, 18, 19], [2, 7, 15, 16, 18, 19], [2, 7, 15, 16, 18, 182], [6], [6]]) [6] (nthLL [[], [], [], [], [], [], [], [], [], [], [], [], [], [], [0, 1, 3, 7, 15, 31, 63, 127, 255, 511, 1023, 1023, 3071, 7167, 16383, 32767, 65535, 131071, 262143, 131071, 1048575, 2097151, 131071, 8388607, 16777215, 33554431, 67108863, 134217727, 268435455, 536870911, 1073741823, 2147483647, 4294967295, 8589934591], [], [], [], [], [0, 0, 0, 4, 12, 31, 63, 127, 127, 0, 767, 2047], [], [], [], [], [], [], [], [], [], [0, 1, 0, 7, 15, 0, 63]])
set_option maxRecDepth 10000
set_option maxHeartbeats 16000000
theorem c_DatabaseKeeps (l s : List UInt8) (at' : UInt8) : Fn Tryd.prog 5 [.o (.sl (l.map u8) l.length), .o (.sl (s.map u8) s.length), .o (.i .u8 (at'.toNat : Int))] [] (.one (.c (.o (.b true)))) [] := by
  have hat := byte_lt at'
  refine Fn_intro (G := g5) (goodA rfl) (fn := Tryd.f5) rfl rfl rfl rfl rfl ?_
  by_cases hlong : l.length > 300 ∨ s.length > 20
  · (repeat' ((conv => whnf) <;> first | exact rfl | with_reducible refine boolK_dec (fun _ => ?_) (fun _ => ?_) <;> try (exfalso; omega) | refine boolK_beq (fun _ => ?_) (fun _ => ?_) <;> try (exfalso; first | omega | contradiction) | refine boolK_bne (fun _ => ?_) (fun _ => ?_) <;> try (exfalso; first | omega | contradiction) | (with_reducible first | refine boolK_not ?_ | refine boolK_and ?_ | refine boolK_or ?_ | refine boolK_true ?_ | refine boolK_false ?_) | refine boolK_intro (fun _ => ?_) (fun _ => ?_) <;> try (exfalso; simp_all; done) | refine jA ?_ | refine jB ?_ | refine jC ?_ | refine jD ?_ | refine jE ?_ | refine jF ?_ | refine jG ?_ | refine jH ?_ | refine jI ?_ | refine jJ ?_ | refine jK ?_ | with_reducible refine natK_lit ?_ | refine natK_of rfl ?_ | refine natK_any ?_ | refine jO ?_ | refine jP ?_ | refine jQ ?_ | refine jR ?_ | refine jS ?_ | refine jT ?_ | refine jU (fun _ => ?_) | refine jV ?_ | refine jW ?_ | refine jX ?_ | refine jY ?_ | refine jZ ?_ | refine ja ?_ | refine jb ?_ | refine jc ?_ | refine jd ?_ | refine je ?_ | refine jf ?_ | refine jg ?_ | refine jh ?_ | refine ji ?_ | refine jj ?_ | refine jk ?_ | refine jn ?_ | refine jo ?_ | refine jp ?_ | refine jq ?_ | refine jr ?_ | refine js ?_ | refine callK_intro (c_awake12) ?_ | refine jt ?_ | refine jx ?_ | refine jy ?_ | refine ju ?_ | refine jv ?_)) <;> (try (conv => whnf))
    all_goals (exfalso; rcases hlong with h | h <;> first | omega | (simp_all; done))
  · have f3 : l.length ≤ 300 ∧ s.length ≤ 20 := by omega
    obtain ⟨O, hO, cD⟩ := c_Database l rfl (by omega) 0 (by omega)
    obtain ⟨o1, o2, o3, _⟩ := dbC_un hO
    have hr0 : (realmN 0).length ≤ 90000 := by decide +kernel
    have hOs : ∀ s ∈ O, deSm 90000 s := fun s hs => de_grow (by omega) (deV_small (o3 s hs)).1
    obtain ⟨e, kk, _, he, cE⟩ := c_Entry s (by omega) 0
    have hes : deSm 90000 e := de_grow (by omega) (deV_small he).1
    have a0 : atS s 0 = 0 := by show ((min 0 s.length : Nat) : Int) = 0; simp
    rw [a0] at cE
    generalize realmN 0 = R at *
    have cF := c_dbFind R O (m := O.length) rfl (by omega) e.x e.y
    have cA := c_dbAdd R O (m := O.length) rfl (by omega) hr0 hOs e hes
    clear hlong
    by_cases h60 : O.length = 60
    · rw [dbA_3 hO he (by omega)] at cA
      dsimp only [db0] at cA
      (repeat' ((conv => whnf) <;> first | exact rfl | with_reducible refine boolK_dec (fun _ => ?_) (fun _ => ?_) <;> try (exfalso; omega) | refine boolK_beq (fun _ => ?_) (fun _ => ?_) <;> try (exfalso; first | omega | contradiction) | refine boolK_bne (fun _ => ?_) (fun _ => ?_) <;> try (exfalso; first | omega | contradiction) | (with_reducible first | refine boolK_not ?_ | refine boolK_and ?_ | refine boolK_or ?_ | refine boolK_true ?_ | refine boolK_false ?_) | refine boolK_intro (fun _ => ?_) (fun _ => ?_) <;> try (exfalso; simp_all; done) | refine jA ?_ | refine jB ?_ | refine jC ?_ | refine jD ?_ | refine jE ?_ | refine jF ?_ | refine jG ?_ | refine jH ?_ | refine jI ?_ | refine jJ ?_ | refine jK ?_ | with_reducible refine natK_lit ?_ | refine natK_of rfl ?_ | refine natK_any ?_ | refine jO ?_ | refine jP ?_ | refine jQ ?_ | refine jR ?_ | refine jS ?_ | refine jT ?_ | refine jU (fun _ => ?_) | refine jV ?_ | refine jW ?_ | refine jX ?_ | refine jY ?_ | refine jZ ?_ | refine ja ?_ | refine jb ?_ | refine jc ?_ | refine jd ?_ | refine je ?_ | refine jf ?_ | refine jg ?_ | refine jh ?_ | refine ji ?_ | refine jj ?_ | refine jk ?_ | refine jn ?_ | refine jo ?_ | refine jp ?_ | refine jq ?_ | refine jr ?_ | refine js ?_ | refine callK_intro (c_awake12) ?_ | refine callK_intro (cD) ?_ | refine callK_intro (cE) ?_ | refine callK_intro (cF) ?_ | refine callK_intro (cA) ?_ | refine jt ?_ | refine jx ?_ | refine jy ?_ | refine ju ?_ | refine jv ?_)) <;> (try (conv => whnf))
    · rw [dbA_4 hO he (by omega)] at cA
      dsimp only at cA
      have hI := insD_ok hO he (by omega)
      have li := insD_len e O
      have hIs : ∀ s ∈ insD e O, deSm 90000 s := fun s hs => by
        rcases insD_mem hs with h | h
        · subst h; exact hes
        · exact hOs s h
      have cC := c_dbCheck R (insD e O) (m := (insD e O).length) rfl (by omega) (by omega) hIs
      rw [hI] at cC
      have cG := c_dbFind R (insD e O) (m := (insD e O).length) rfl (by omega) e.x e.y
      have iat := insD_at e O
      have ple := posD_le e O
      have rest : 0 < O.length → ∃ kk : Nat, kk < O.length ∧ (at'.toNat : Int) % (O.length : Int) = (kk : Int) ∧ ∃ S : List DE, S.length = O.length ∧ (∀ j, j ≠ kk → S.getD j de0 = O.getD j de0) ∧
          S.getD kk de0 = ⟨(O.getD kk de0).x, (O.getD kk de0).y, longK (at'.toNat : Int), (O.getD kk de0).kv % 255 + 1, (O.getD kk de0).ex, (O.getD kk de0).ml, (O.getD kk de0).atr, (O.getD kk de0).fl, (O.getD kk de0).un⟩ ∧
          Fn Tryd.prog 26 [.a [.s R, .sl (flat deR O) O.length], .o (.i .i64 (kk : Int)), .o (.i .u64 (longK (at'.toNat : Int)))] [] (.tup [.c (.a [.s R, .sl (flat deR S) S.length]), .c (.o (.i .i64 0))]) [] ∧
          Fn Tryd.prog 10 [.a [.s R, .sl (flat deR S) S.length]] [] (.one (.c (.o (.i .i64 0)))) [] := by
        intro hpos
        have hlt := Nat.mod_lt at'.toNat hpos
        refine ⟨at'.toNat % O.length, hlt, (Int.natCast_emod ..).symm, ?_⟩
        generalize at'.toNat % O.length = kk at *
        have hl := (long_ok (n := (at'.toNat : Int)) (by omega)).1
        have hx : dbX R O (kk : Int) = 0 := dbX_3 hO (by omega)
        have cK := c_dbRekey R O (m := O.length) rfl (by omega) hr0 hOs (kk : Int) (longK (at'.toNat : Int)) (by unfold longK; omega)
        rw [dbR_3 hx hl, Int.toNat_natCast] at cK
        dsimp only at cK
        have hm : O.getD kk de0 ∈ O := by
          rw [List.getD_eq_getElem?_getD, List.getElem?_eq_getElem hlt]
          exact List.getElem_mem hlt
        have hdv := o3 _ hm
        obtain ⟨_, _, _, ⟨b1, _, _⟩, _, _, _⟩ := deC_is hdv
        have hr := rekD_ok hdv hl
        have hS := set_ok hO hlt hr rfl rfl
        have hSs : ∀ s ∈ O.set kk (rekD (O.getD kk de0) (longK (at'.toNat : Int))), deSm 90000 s := fun s hs => by
          rcases List.mem_or_eq_of_mem_set hs with h | h
          · exact hOs s h
          · subst h; exact de_grow (by omega) (deV_small hr).1
        have cH := c_dbCheck R _ (m := (O.set kk (rekD (O.getD kk de0) (longK (at'.toNat : Int)))).length) rfl (by rw [List.length_set]; omega) (by omega) hSs
        rw [hS] at cH
        refine ⟨_, List.length_set, fun j hj => ?_, ?_, cK, cH⟩
        · rw [set_getD hlt, if_neg hj]
        · rw [set_getD hlt, if_pos rfl]
          have hkv : (if (O.getD kk de0).kv < 255 then (O.getD kk de0).kv + 1 else 1) = (O.getD kk de0).kv % 255 + 1 := by split <;> omega
          unfold rekD
          rw [hkv]
      have bnd : ∀ j, j < O.length → 0 ≤ (O.getD j de0).kv ∧ (O.getD j de0).kv ≤ 255 := fun j hj => by
        have hm : O.getD j de0 ∈ O := by
          rw [List.getD_eq_getElem?_getD, List.getElem?_eq_getElem hj]
          exact List.getElem_mem hj
        obtain ⟨_, _, _, ⟨b1, _, _⟩, _, _, _⟩ := deC_is (o3 _ hm)
        exact b1
      generalize hIn : insD e O = I at *
      clear o1 o3 hO hI
      by_cases h0 : O.length = 0
      · clear rest bnd
        by_cases h8 : (dbF e.x e.y O).2 = 8
        · have i1 := dbF_ins1 h8
          rw [hIn] at i1
          rw [i1] at cG
          dsimp only at cG
          generalize posD e O = p at *
          (repeat' ((conv => whnf) <;> first | refine natK_of (j := p) (by omega) ?_ | exact rfl | with_reducible refine boolK_dec (fun _ => ?_) (fun _ => ?_) <;> try (exfalso; omega) | refine boolK_beq (fun _ => ?_) (fun _ => ?_) <;> try (exfalso; first | omega | contradiction) | refine boolK_bne (fun _ => ?_) (fun _ => ?_) <;> try (exfalso; first | omega | contradiction) | (with_reducible first | refine boolK_not ?_ | refine boolK_and ?_ | refine boolK_or ?_ | refine boolK_true ?_ | refine boolK_false ?_) | refine boolK_intro (fun _ => ?_) (fun _ => ?_) <;> try (exfalso; simp_all; done) | refine jA ?_ | refine jB ?_ | refine jC ?_ | refine jD ?_ | refine jE ?_ | refine jF ?_ | refine jG ?_ | refine jH ?_ | refine jI ?_ | refine jJ ?_ | refine jK ?_ | with_reducible refine natK_lit ?_ | refine natK_of rfl ?_ | refine natK_any ?_ | refine jO ?_ | refine jP ?_ | refine jQ ?_ | refine jR ?_ | refine jS ?_ | refine jT ?_ | refine jU (fun _ => ?_) | refine jV ?_ | refine jW ?_ | refine jX ?_ | refine jY ?_ | refine jZ ?_ | refine ja ?_ | refine jb ?_ | refine jc ?_ | refine jd ?_ | refine je ?_ | refine jf ?_ | refine jg ?_ | refine jh ?_ | refine ji ?_ | refine jj ?_ | refine jk ?_ | refine jn ?_ | refine jo ?_ | refine jp ?_ | refine jq ?_ | refine jr ?_ | refine js ?_ | refine callK_intro (c_awake12) ?_ | refine callK_intro (cD) ?_ | refine callK_intro (cE) ?_ | refine callK_intro (cF) ?_ | refine callK_intro (cA) ?_ | refine callK_intro (cC) ?_ | refine callK_intro (cG) ?_ | refine headS_deE (j := p) (by first | omega | rfl) iat (by omega) ?_ | refine jt ?_ | refine jx ?_ | refine jy ?_ | refine ju ?_ | refine jv ?_)) <;> (try (conv => whnf))
        · have i1 := dbF_ins2 h8
          rw [hIn] at i1
          rw [i1] at cG
          dsimp only at cG
          (repeat' ((conv => whnf) <;> first | exact rfl | with_reducible refine boolK_dec (fun _ => ?_) (fun _ => ?_) <;> try (exfalso; omega) | refine boolK_beq (fun _ => ?_) (fun _ => ?_) <;> try (exfalso; first | omega | contradiction) | refine boolK_bne (fun _ => ?_) (fun _ => ?_) <;> try (exfalso; first | omega | contradiction) | (with_reducible first | refine boolK_not ?_ | refine boolK_and ?_ | refine boolK_or ?_ | refine boolK_true ?_ | refine boolK_false ?_) | refine boolK_intro (fun _ => ?_) (fun _ => ?_) <;> try (exfalso; simp_all; done) | refine jA ?_ | refine jB ?_ | refine jC ?_ | refine jD ?_ | refine jE ?_ | refine jF ?_ | refine jG ?_ | refine jH ?_ | refine jI ?_ | refine jJ ?_ | refine jK ?_ | with_reducible refine natK_lit ?_ | refine natK_of rfl ?_ | refine natK_any ?_ | refine jO ?_ | refine jP ?_ | refine jQ ?_ | refine jR ?_ | refine jS ?_ | refine jT ?_ | refine jU (fun _ => ?_) | refine jV ?_ | refine jW ?_ | refine jX ?_ | refine jY ?_ | refine jZ ?_ | refine ja ?_ | refine jb ?_ | refine jc ?_ | refine jd ?_ | refine je ?_ | refine jf ?_ | refine jg ?_ | refine jh ?_ | refine ji ?_ | refine jj ?_ | refine jk ?_ | refine jn ?_ | refine jo ?_ | refine jp ?_ | refine jq ?_ | refine jr ?_ | refine js ?_ | refine callK_intro (c_awake12) ?_ | refine callK_intro (cD) ?_ | refine callK_intro (cE) ?_ | refine callK_intro (cF) ?_ | refine callK_intro (cA) ?_ | refine callK_intro (cC) ?_ | refine callK_intro (cG) ?_ | refine jt ?_ | refine jx ?_ | refine jy ?_ | refine ju ?_ | refine jv ?_)) <;> (try (conv => whnf))
      · obtain ⟨kk, hkk, hmod, S, hS, s1, s2, cK, cH⟩ := rest (by omega)
        clear rest
        by_cases h8 : (dbF e.x e.y O).2 = 8
        · have i1 := dbF_ins1 h8
          rw [hIn] at i1
          rw [i1] at cG
          dsimp only at cG
          generalize posD e O = p at *
          (repeat' ((conv => whnf) <;> first | refine natK_of (j := p) (by omega) ?_ | refine remK_to (by omega) hmod ?_ | exact rfl | with_reducible refine boolK_dec (fun _ => ?_) (fun _ => ?_) <;> try (exfalso; omega) | refine boolK_beq (fun _ => ?_) (fun _ => ?_) <;> try (exfalso; first | omega | contradiction) | refine boolK_bne (fun _ => ?_) (fun _ => ?_) <;> try (exfalso; first | omega | contradiction) | (with_reducible first | refine boolK_not ?_ | refine boolK_and ?_ | refine boolK_or ?_ | refine boolK_true ?_ | refine boolK_false ?_) | refine boolK_intro (fun _ => ?_) (fun _ => ?_) <;> try (exfalso; simp_all; done) | refine jA ?_ | refine jB ?_ | refine jC ?_ | refine jD ?_ | refine jE ?_ | refine jF ?_ | refine jG ?_ | refine jH ?_ | refine jI ?_ | refine jJ ?_ | refine jK ?_ | with_reducible refine natK_lit ?_ | refine natK_of rfl ?_ | refine natK_any ?_ | refine jO ?_ | refine jP ?_ | refine jQ ?_ | refine jR ?_ | refine jS ?_ | refine jT ?_ | refine jU (fun _ => ?_) | refine jV ?_ | refine jW ?_ | refine jX ?_ | refine jY ?_ | refine jZ ?_ | refine ja ?_ | refine jb ?_ | refine jc ?_ | refine jd ?_ | refine je ?_ | refine jf ?_ | refine jg ?_ | refine jh ?_ | refine ji ?_ | refine jj ?_ | refine jk ?_ | refine jn ?_ | refine jo ?_ | refine jp ?_ | refine jq ?_ | refine jr ?_ | refine js ?_ | refine callK_intro (c_awake12) ?_ | refine callK_intro (cD) ?_ | refine callK_intro (cE) ?_ | refine callK_intro (cF) ?_ | refine callK_intro (cA) ?_ | refine callK_intro (cC) ?_ | refine callK_intro (cG) ?_ | refine callK_intro (c_Long _ (by omega)) ?_ | refine callK_intro (cK) ?_ | refine callK_intro (cH) ?_ | refine headS_deE (j := p) (by first | omega | rfl) iat (by omega) ?_ | refine jt ?_ | refine jx ?_ | refine jy ?_ | refine ju ?_ | refine jv ?_)) <;> (try (conv => whnf))
          refine loopK_inv (G := g5) (fun n st => ∃ j : Nat, n + j = O.length ∧ st = ⟨[(2, .c (.o (.i .u8 (at'.toNat : Int)))), (7, .c (.o (.p 7 0))), (15, .c (.o (.i .i64 (kk : Int)))), (16, .c (.o (.p 16 0))), (18, .c (.o (.i .i64 (j : Int))))], [(7, .st [.s R, .sl (flat deR O) O.length]), (16, .st [.s R, .sl (flat deR S) S.length])]⟩) (n := O.length) ⟨0, by omega, rfl⟩ ?_
          rintro n st ⟨j, hj, rfl⟩
          by_cases hjl : j < O.length
          · have bj := bnd j hjl
            by_cases hjk : j = kk
            · subst hjk
              (repeat' ((conv => whnf) <;> first | refine natK_of (j := j) (by omega) ?_ | exact rfl | with_reducible refine boolK_dec (fun _ => ?_) (fun _ => ?_) <;> try (exfalso; omega) | refine boolK_beq (fun _ => ?_) (fun _ => ?_) <;> try (exfalso; first | omega | contradiction) | refine boolK_bne (fun _ => ?_) (fun _ => ?_) <;> try (exfalso; first | omega | contradiction) | (with_reducible first | refine boolK_not ?_ | refine boolK_and ?_ | refine boolK_or ?_ | refine boolK_true ?_ | refine boolK_false ?_) | refine boolK_intro (fun _ => ?_) (fun _ => ?_) <;> try (exfalso; simp_all; done) | refine jA ?_ | refine jB ?_ | refine jC ?_ | refine jD ?_ | refine jE ?_ | refine jF ?_ | refine jG ?_ | refine jH ?_ | refine jI ?_ | refine jJ ?_ | refine jK ?_ | with_reducible refine natK_lit ?_ | refine natK_of rfl ?_ | refine natK_any ?_ | refine jO ?_ | refine jP ?_ | refine jQ ?_ | refine jR ?_ | refine jS ?_ | refine jT ?_ | refine jU (fun _ => ?_) | refine jV ?_ | refine jW ?_ | refine jX ?_ | refine jY ?_ | refine jZ ?_ | refine ja ?_ | refine jb ?_ | refine jc ?_ | refine jd ?_ | refine je ?_ | refine jf ?_ | refine jg ?_ | refine jh ?_ | refine ji ?_ | refine jj ?_ | refine jk ?_ | refine jn ?_ | refine jo ?_ | refine jp ?_ | refine jq ?_ | refine jr ?_ | refine js ?_ | refine callK_intro (c_Long _ (by omega)) ?_ | refine headS_deE (j := j) (by first | omega | rfl) s2 (by omega) ?_ | refine headS_deJ (j := j) (by first | omega | rfl) hjl ?_ | exact ⟨n - 1, by omega, j + 1, by omega, rfl⟩ | refine jt ?_ | refine jx ?_ | refine jy ?_ | refine ju ?_ | refine jv ?_)) <;> (try (conv => whnf))
            · have s3 := s1 j hjk
              (repeat' ((conv => whnf) <;> first | refine natK_of (j := j) (by omega) ?_ | exact rfl | with_reducible refine boolK_dec (fun _ => ?_) (fun _ => ?_) <;> try (exfalso; omega) | refine boolK_beq (fun _ => ?_) (fun _ => ?_) <;> try (exfalso; first | omega | contradiction) | refine boolK_bne (fun _ => ?_) (fun _ => ?_) <;> try (exfalso; first | omega | contradiction) | (with_reducible first | refine boolK_not ?_ | refine boolK_and ?_ | refine boolK_or ?_ | refine boolK_true ?_ | refine boolK_false ?_) | refine boolK_intro (fun _ => ?_) (fun _ => ?_) <;> try (exfalso; simp_all; done) | refine jA ?_ | refine jB ?_ | refine jC ?_ | refine jD ?_ | refine jE ?_ | refine jF ?_ | refine jG ?_ | refine jH ?_ | refine jI ?_ | refine jJ ?_ | refine jK ?_ | with_reducible refine natK_lit ?_ | refine natK_of rfl ?_ | refine natK_any ?_ | refine jO ?_ | refine jP ?_ | refine jQ ?_ | refine jR ?_ | refine jS ?_ | refine jT ?_ | refine jU (fun _ => ?_) | refine jV ?_ | refine jW ?_ | refine jX ?_ | refine jY ?_ | refine jZ ?_ | refine ja ?_ | refine jb ?_ | refine jc ?_ | refine jd ?_ | refine je ?_ | refine jf ?_ | refine jg ?_ | refine jh ?_ | refine ji ?_ | refine jj ?_ | refine jk ?_ | refine jn ?_ | refine jo ?_ | refine jp ?_ | refine jq ?_ | refine jr ?_ | refine js ?_ | refine headS_deE (j := j) (by first | omega | rfl) s3 (by omega) ?_ | refine headS_deJ (j := j) (by first | omega | rfl) hjl ?_ | exact ⟨n - 1, by omega, j + 1, by omega, rfl⟩ | refine jt ?_ | refine jx ?_ | refine jy ?_ | refine ju ?_ | refine jv ?_)) <;> (try (conv => whnf))
          · obtain rfl : n = 0 := by omega
            (repeat' ((conv => whnf) <;> first | exact rfl | with_reducible refine boolK_dec (fun _ => ?_) (fun _ => ?_) <;> try (exfalso; omega) | refine boolK_beq (fun _ => ?_) (fun _ => ?_) <;> try (exfalso; first | omega | contradiction) | refine boolK_bne (fun _ => ?_) (fun _ => ?_) <;> try (exfalso; first | omega | contradiction) | (with_reducible first | refine boolK_not ?_ | refine boolK_and ?_ | refine boolK_or ?_ | refine boolK_true ?_ | refine boolK_false ?_) | refine boolK_intro (fun _ => ?_) (fun _ => ?_) <;> try (exfalso; simp_all; done) | refine jA ?_ | refine jB ?_ | refine jC ?_ | refine jD ?_ | refine jE ?_ | refine jF ?_ | refine jG ?_ | refine jH ?_ | refine jI ?_ | refine jJ ?_ | refine jK ?_ | with_reducible refine natK_lit ?_ | refine natK_of rfl ?_ | refine natK_any ?_ | refine jO ?_ | refine jP ?_ | refine jQ ?_ | refine jR ?_ | refine jS ?_ | refine jT ?_ | refine jU (fun _ => ?_) | refine jV ?_ | refine jW ?_ | refine jX ?_ | refine jY ?_ | refine jZ ?_ | refine ja ?_ | refine jb ?_ | refine jc ?_ | refine jd ?_ | refine je ?_ | refine jf ?_ | refine jg ?_ | refine jh ?_ | refine ji ?_ | refine jj ?_ | refine jk ?_ | refine jn ?_ | refine jo ?_ | refine jp ?_ | refine jq ?_ | refine jr ?_ | refine js ?_ | refine jt ?_ | refine jx ?_ | refine jy ?_ | refine ju ?_ | refine jv ?_)) <;> (try (conv => whnf))
        · have i1 := dbF_ins2 h8
          rw [hIn] at i1
          rw [i1] at cG
          dsimp only at cG
          (repeat' ((conv => whnf) <;> first | refine remK_to (by omega) hmod ?_ | exact rfl | with_reducible refine boolK_dec (fun _ => ?_) (fun _ => ?_) <;> try (exfalso; omega) | refine boolK_beq (fun _ => ?_) (fun _ => ?_) <;> try (exfalso; first | omega | contradiction) | refine boolK_bne (fun _ => ?_) (fun _ => ?_) <;> try (exfalso; first | omega | contradiction) | (with_reducible first | refine boolK_not ?_ | refine boolK_and ?_ | refine boolK_or ?_ | refine boolK_true ?_ | refine boolK_false ?_) | refine boolK_intro (fun _ => ?_) (fun _ => ?_) <;> try (exfalso; simp_all; done) | refine jA ?_ | refine jB ?_ | refine jC ?_ | refine jD ?_ | refine jE ?_ | refine jF ?_ | refine jG ?_ | refine jH ?_ | refine jI ?_ | refine jJ ?_ | refine jK ?_ | with_reducible refine natK_lit ?_ | refine natK_of rfl ?_ | refine natK_any ?_ | refine jO ?_ | refine jP ?_ | refine jQ ?_ | refine jR ?_ | refine jS ?_ | refine jT ?_ | refine jU (fun _ => ?_) | refine jV ?_ | refine jW ?_ | refine jX ?_ | refine jY ?_ | refine jZ ?_ | refine ja ?_ | refine jb ?_ | refine jc ?_ | refine jd ?_ | refine je ?_ | refine jf ?_ | refine jg ?_ | refine jh ?_ | refine ji ?_ | refine jj ?_ | refine jk ?_ | refine jn ?_ | refine jo ?_ | refine jp ?_ | refine jq ?_ | refine jr ?_ | refine js ?_ | refine callK_intro (c_awake12) ?_ | refine callK_intro (cD) ?_ | refine callK_intro (cE) ?_ | refine callK_intro (cF) ?_ | refine callK_intro (cA) ?_ | refine callK_intro (cC) ?_ | refine callK_intro (cG) ?_ | refine callK_intro (c_Long _ (by omega)) ?_ | refine callK_intro (cK) ?_ | refine callK_intro (cH) ?_ | assumption | refine jt ?_ | refine jx ?_ | refine jy ?_ | refine ju ?_ | refine jv ?_)) <;> (try (conv => whnf))
          refine loopK_inv (G := g5) (fun n st => ∃ j : Nat, n + j = O.length ∧ st = ⟨[(2, .c (.o (.i .u8 (at'.toNat : Int)))), (7, .c (.o (.p 7 0))), (15, .c (.o (.i .i64 (kk : Int)))), (16, .c (.o (.p 16 0))), (18, .c (.o (.i .i64 (j : Int))))], [(7, .st [.s R, .sl (flat deR O) O.length]), (16, .st [.s R, .sl (flat deR S) S.length])]⟩) (n := O.length) ⟨0, by omega, rfl⟩ ?_
          rintro n st ⟨j, hj, rfl⟩
          by_cases hjl : j < O.length
          · have bj := bnd j hjl
            by_cases hjk : j = kk
            · subst hjk
              (repeat' ((conv => whnf) <;> first | refine natK_of (j := j) (by omega) ?_ | exact rfl | with_reducible refine boolK_dec (fun _ => ?_) (fun _ => ?_) <;> try (exfalso; omega) | refine boolK_beq (fun _ => ?_) (fun _ => ?_) <;> try (exfalso; first | omega | contradiction) | refine boolK_bne (fun _ => ?_) (fun _ => ?_) <;> try (exfalso; first | omega | contradiction) | (with_reducible first | refine boolK_not ?_ | refine boolK_and ?_ | refine boolK_or ?_ | refine boolK_true ?_ | refine boolK_false ?_) | refine boolK_intro (fun _ => ?_) (fun _ => ?_) <;> try (exfalso; simp_all; done) | refine jA ?_ | refine jB ?_ | refine jC ?_ | refine jD ?_ | refine jE ?_ | refine jF ?_ | refine jG ?_ | refine jH ?_ | refine jI ?_ | refine jJ ?_ | refine jK ?_ | with_reducible refine natK_lit ?_ | refine natK_of rfl ?_ | refine natK_any ?_ | refine jO ?_ | refine jP ?_ | refine jQ ?_ | refine jR ?_ | refine jS ?_ | refine jT ?_ | refine jU (fun _ => ?_) | refine jV ?_ | refine jW ?_ | refine jX ?_ | refine jY ?_ | refine jZ ?_ | refine ja ?_ | refine jb ?_ | refine jc ?_ | refine jd ?_ | refine je ?_ | refine jf ?_ | refine jg ?_ | refine jh ?_ | refine ji ?_ | refine jj ?_ | refine jk ?_ | refine jn ?_ | refine jo ?_ | refine jp ?_ | refine jq ?_ | refine jr ?_ | refine js ?_ | refine callK_intro (c_Long _ (by omega)) ?_ | refine headS_deE (j := j) (by first | omega | rfl) s2 (by omega) ?_ | refine headS_deJ (j := j) (by first | omega | rfl) hjl ?_ | exact ⟨n - 1, by omega, j + 1, by omega, rfl⟩ | refine jt ?_ | refine jx ?_ | refine jy ?_ | refine ju ?_ | refine jv ?_)) <;> (try (conv => whnf))
            · have s3 := s1 j hjk
              (repeat' ((conv => whnf) <;> first | refine natK_of (j := j) (by omega) ?_ | exact rfl | with_reducible refine boolK_dec (fun _ => ?_) (fun _ => ?_) <;> try (exfalso; omega) | refine boolK_beq (fun _ => ?_) (fun _ => ?_) <;> try (exfalso; first | omega | contradiction) | refine boolK_bne (fun _ => ?_) (fun _ => ?_) <;> try (exfalso; first | omega | contradiction) | (with_reducible first | refine boolK_not ?_ | refine boolK_and ?_ | refine boolK_or ?_ | refine boolK_true ?_ | refine boolK_false ?_) | refine boolK_intro (fun _ => ?_) (fun _ => ?_) <;> try (exfalso; simp_all; done) | refine jA ?_ | refine jB ?_ | refine jC ?_ | refine jD ?_ | refine jE ?_ | refine jF ?_ | refine jG ?_ | refine jH ?_ | refine jI ?_ | refine jJ ?_ | refine jK ?_ | with_reducible refine natK_lit ?_ | refine natK_of rfl ?_ | refine natK_any ?_ | refine jO ?_ | refine jP ?_ | refine jQ ?_ | refine jR ?_ | refine jS ?_ | refine jT ?_ | refine jU (fun _ => ?_) | refine jV ?_ | refine jW ?_ | refine jX ?_ | refine jY ?_ | refine jZ ?_ | refine ja ?_ | refine jb ?_ | refine jc ?_ | refine jd ?_ | refine je ?_ | refine jf ?_ | refine jg ?_ | refine jh ?_ | refine ji ?_ | refine jj ?_ | refine jk ?_ | refine jn ?_ | refine jo ?_ | refine jp ?_ | refine jq ?_ | refine jr ?_ | refine js ?_ | refine headS_deE (j := j) (by first | omega | rfl) s3 (by omega) ?_ | refine headS_deJ (j := j) (by first | omega | rfl) hjl ?_ | exact ⟨n - 1, by omega, j + 1, by omega, rfl⟩ | refine jt ?_ | refine jx ?_ | refine jy ?_ | refine ju ?_ | refine jv ?_)) <;> (try (conv => whnf))
          · obtain rfl : n = 0 := by omega
            (repeat' ((conv => whnf) <;> first | exact rfl | with_reducible refine boolK_dec (fun _ => ?_) (fun _ => ?_) <;> try (exfalso; omega) | refine boolK_beq (fun _ => ?_) (fun _ => ?_) <;> try (exfalso; first | omega | contradiction) | refine boolK_bne (fun _ => ?_) (fun _ => ?_) <;> try (exfalso; first | omega | contradiction) | (with_reducible first | refine boolK_not ?_ | refine boolK_and ?_ | refine boolK_or ?_ | refine boolK_true ?_ | refine boolK_false ?_) | refine boolK_intro (fun _ => ?_) (fun _ => ?_) <;> try (exfalso; simp_all; done) | refine jA ?_ | refine jB ?_ | refine jC ?_ | refine jD ?_ | refine jE ?_ | refine jF ?_ | refine jG ?_ | refine jH ?_ | refine jI ?_ | refine jJ ?_ | refine jK ?_ | with_reducible refine natK_lit ?_ | refine natK_of rfl ?_ | refine natK_any ?_ | refine jO ?_ | refine jP ?_ | refine jQ ?_ | refine jR ?_ | refine jS ?_ | refine jT ?_ | refine jU (fun _ => ?_) | refine jV ?_ | refine jW ?_ | refine jX ?_ | refine jY ?_ | refine jZ ?_ | refine ja ?_ | refine jb ?_ | refine jc ?_ | refine jd ?_ | refine je ?_ | refine jf ?_ | refine jg ?_ | refine jh ?_ | refine ji ?_ | refine jj ?_ | refine jk ?_ | refine jn ?_ | refine jo ?_ | refine jp ?_ | refine jq ?_ | refine jr ?_ | refine js ?_ | refine jt ?_ | refine jx ?_ | refine jy ?_ | refine ju ?_ | refine jv ?_)) <;> (try (conv => whnf))
end Go.Sx
namespace Go.Proofs.YtfagmeafkddibaaDoor
open Go.ChangeShapes Go.WideShapes Go.ChangeAt Go.RowKit Go.Sx
namespace DatabaseKeepsProof
set_option maxRecDepth 100000 in
theorem walk (W : World) (v0 v1 v2 : Value) (ls0 ls1 ls2 : List L)
    (t0 : Typ (tabF tab) 25 ls0) (t1 : Typ (tabF tab) 25 ls1) (t2 : Typ (tabF tab) 5 ls2)
    (r0 : RelC (fun _ => False) W noMu (argC (tabF tab 25).agg ls0) v0) (r1 : RelC (fun _ => False) W noMu (argC (tabF tab 25).agg ls1) v1) (r2 : RelC (fun _ => False) W noMu (argC (tabF tab 5).agg ls2) v2) :
    Calls Tryd.prog 5 #[v0, v1, v2] W fun e w' => e = .returned (.bool true) ∧ Below W.heap.size W w' := by
  obtain ⟨a0, rfl⟩ := typ_bytes t0 rfl rfl
  obtain ⟨a1, rfl⟩ := typ_bytes t1 rfl rfl
  obtain ⟨a2, rfl⟩ := typ_u8 t2 rfl
  exact calls_of_fn Tryd.func5 rfl rfl (c_DatabaseKeeps a0 a1 a2) (relCs_cons r0 (relCs_cons r1 (relCs_cons r2 relCs_nil)))

set_option maxRecDepth 100000 in
theorem lifted (os : Os) (started : os.Started) (H : Type) (enc : TypeId × Value → H) :
    ReturnsInHanded {} Tryd.checked os 5 .any (fun w args => (Rows.databaseKeepsSpec.pre enc Tryd.prog Tryd.f5 [] false w args ∧ laidMetH Tryd.prog laidA w) ∧ sizedMet enc Tryd.prog Tryd.f5 (OpenSpec.ofChange Rows.databaseKeepsSpec) false w args) (Rows.databaseKeepsSpec.post enc Tryd.prog Tryd.f5 false true false false) := by
  refine returnsInHanded_of_change_and (C := Tryd.checked) (X := fun w _ => laidMetH Tryd.prog laidA w) (fun _ _ _ hh h => h.of_heap hh) ownA started (by kernel_rfl) Tryd.func5
    (ChangeSpec.witness_shaped (enc := enc) (C := Tryd.checked) (os := os) (X := fun w _ => laidMetH Tryd.prog laidA w) false (World.doorLaid Tryd.prog 24 os) #[.slice none 0 0, .slice none 0 0, .int .u8 0] 8 rfl (World.shaped_of_RefB (by kernel_rfl) (by kernel_rfl)) (by kernel_rfl) (by kernel_rfl) (by kernel_rfl) (door_metA os _)) ?_
  intro W base args ds gs before hval0 hW _ _ hL _
  have hval : ∀ (j : Nat) t v, Tryd.f5.params[j]? = some t → args[j]? = some v → Value.okWide Tryd.prog W .any base t v := hval0
  have hW' := hW
  obtain ⟨p, q, hA0, hV, rfl, hfz, hnd⟩ := hW
  have hA : DataW.TrodAll enc Tryd.prog W 0 (fun _ => true) true Tryd.f5.params.toList args.toList ds p := hA0
  rw [Tryd.params5] at hA hval
  obtain ⟨v0, vs0, d0, ds0, p0, q0, hargs, rfl, rfl, h0, r0⟩ := trodAll_cons hA
  obtain ⟨v1, vs1, d1, ds1, p1, q1, rfl, rfl, rfl, h1, r1⟩ := trodAll_cons r0
  obtain ⟨v2, vs2, d2, ds2, p2, q2, rfl, rfl, rfl, h2, r2⟩ := trodAll_cons r1
  obtain ⟨rfl, rfl, rfl⟩ := trodAll_nil r2
  obtain rfl : args = #[v0, v1, v2] := by cases args; simp_all
  obtain ⟨rfl, rfl⟩ := trodVars_none hV
  obtain ⟨ls0, t0, c0⟩ := rel_arg tokA (n := 9) rfl h0 (hval 0 25 v0 rfl rfl)
  obtain ⟨ls1, t1, c1⟩ := rel_arg tokA (n := 9) rfl h1 (hval 1 25 v1 rfl rfl)
  obtain ⟨ls2, t2, c2⟩ := rel_arg tokA (n := 9) rfl h2 (hval 2 5 v2 rfl rfl)
  have lt0 : ∀ x ∈ p0, x.block < W.heap.size := by obtain ⟨m, hm⟩ := h0; exact DataW.trod_lt m _ _ _ hm
  have lt1 : ∀ x ∈ p1, x.block < W.heap.size := by obtain ⟨m, hm⟩ := h1; exact DataW.trod_lt m _ _ _ hm
  have lt2 : ∀ x ∈ p2, x.block < W.heap.size := by obtain ⟨m, hm⟩ := h2; exact DataW.trod_lt m _ _ _ hm
  clear hA0 hval0
  refine (walk W v0 v1 v2 ls0 ls1 ls2 t0 t1 t2 c0 c1 c2).mono fun e W' ⟨he, bel⟩ => ?_
  subst he
  exact ⟨_, rfl, _, _, _, [], _, [], hW', trodAll_mk1 (shut_bool Tryd.underlying4 _), (trodAll_cons_mk (Below.trod laidOutA (by kernel_rfl) (of_decide_eq_true (by kernel_rfl)) h0 bel lt0) (trodAll_cons_mk (Below.trod laidOutA (by kernel_rfl) (of_decide_eq_true (by kernel_rfl)) h1 bel lt1) (trodAll_cons_mk (Below.trod laidOutA (by kernel_rfl) (of_decide_eq_true (by kernel_rfl)) h2 bel lt2) trodAll_mk0))), rfl, bel.frame _, fun h => by cases h⟩

set_option maxRecDepth 100000 in
theorem over : Rows.databaseKeepsRow.holds Tryd.pinned (OpenSpec.ofChange Rows.databaseKeepsSpec) :=
  OpenClaim.holds_of_wide 5 Tryd.f5 rfl rfl rfl rfl rfl rfl rfl ⟨rfl, rfl, rfl, rfl, rfl⟩ rfl rfl rfl rfl rfl (by kernel_rfl) Tryd.func5 (by kernel_rfl)
    (of_decide_eq_true (by kernel_rfl)) (by unfold Func.isWrapper; first | (rw [if_pos (by decide +kernel)]; kernel_rfl) | (rw [if_neg (by decide +kernel)]; exact ⟨rfl, rfl⟩))
    (fun os started H enc _ => lifted os started H enc)
set_option maxRecDepth 100000 in
theorem card : Claim7.holds Tryd.pinned (.plain (OpenSpec.ofChange Rows.databaseKeepsSpec)) Rows.databaseKeepsCard :=
  Claim7.holds_tied_plain_at .later [] [.data, .data, .data] true (true, "86da0c24c9236608754bf5c54e3aea5521f45cfe452094d8e1acd59017ce1540") false
    over (fun _ h => by cases h) (by kernel_rfl) (fun _ h => by cases h) databaseKeeps_row_tie rfl ⟨rfl, rfl⟩ (by kernel_rfl) rfl
    (fun f fn hf hfn => by
      obtain rfl : f = 5 := Option.some.inj ((show Tryd.prog.funcNamed "kerbsuite/kerbsuitelaw12.DatabaseKeeps" = some 5 by kernel_rfl).symm.trans hf) |>.symm
      obtain rfl : fn = Tryd.f5 := (Option.some.inj (Tryd.func5.symm.trans hfn)).symm
      exact ⟨by kernel_rfl, fun j t ht => by
        rw [Tryd.params5] at ht
        have hm : t ∈ [25, 25, 5] := by simpa using Array.mem_of_getElem? ht
        have hall : ([25, 25, 5].all fun u => !Tryd.prog.wantsStandIn u) = true := by kernel_rfl
        exact (show Tryd.prog.wantsStandIn t = false by simpa using List.all_eq_true.1 hall t hm)⟩)
    (by kernel_rfl)
end DatabaseKeepsProof

theorem databaseKeeps_proved : Rows.DatabaseKeepsCardSaid := DatabaseKeepsProof.card
#print axioms databaseKeeps_proved
end Go.Proofs.YtfagmeafkddibaaDoor

/-
  The statement DatabaseChanges: the law returns true for every input; no conditions.
-/
import Derived.Test.YtfagmeafkddibaaDoorCDbL
import Derived.Test.YtfagmeafkddibaaDoorLDoor
set_option linter.all false
namespace Go.Sx
open Go.Proofs Go.RowKit
def zoe : DE := ⟨[122, 111, 101], [], 0, 0, 0, 0, 0, 0, 0⟩
theorem dbA_len {r : List UInt8} {l : List DE} {e : DE} (h : l.length ≤ 999999) : (dbA r l e).1.2.length ≤ 1000000 := by
  unfold dbA
  split
  · exact Nat.zero_le _
  · split
    · exact Nat.zero_le _
    · split
      · exact Nat.zero_le _
      · have := insD_len e l
        show (insD e l).length ≤ _
        omega
theorem dbP_len {r : List UInt8} {l : List DE} {i : Int} {e : DE} (h : l.length ≤ 999999) : (dbP r l i e).1.2.length ≤ 1000000 := by
  unfold dbP
  split
  · exact Nat.zero_le _
  · split
    · exact Nat.zero_le _
    · split
      · exact Nat.zero_le _
      · show (l.set _ e).length ≤ _
        rw [List.length_set]; omega
theorem dbR_len {r : List UInt8} {l : List DE} {i k : Int} (h : l.length ≤ 999999) : (dbR r l i k).1.2.length ≤ 1000000 := by
  unfold dbR
  split
  · exact Nat.zero_le _
  · split
    · exact Nat.zero_le _
    · show (l.set _ _).length ≤ _
      rw [List.length_set]; omega
noncomputable def g6 : Par := par 182 (nthLL [[1, 3, 4, 5, 6, 7, 8, 10], [1, 3, 4, 5, 6, 7, 8, 10, 29], [16], [1, 3, 4, 5, 6, 7, 8, 10, 53], [16], [3, 4, 5, 6, 7, 8, 10, 17], [3, 4, 5, 6, 7, 8, 10, 17, 64], [3, 4, 5, 6, 7, 8, 10, 17], [4, 6, 7, 8, 10, 17, 18], [4, 6, 7, 8, 10, 17, 18, 19], [4, 6, 7, 8, 10, 17, 18, 19, 76], [4, 6, 7, 8, 10, 17, 18, 19], [4, 6, 7, 8, 10, 17, 18, 19, 20], [4, 6, 7, 8, 10, 17, 18, 19, 20, 21], [4, 6, 7, 8, 10, 17, 18, 19, 20, 21, 22], [4, 6, 7, 8, 10, 17, 18, 19, 20, 21, 22, 23, 24], [4, 6, 7, 8, 10, 17, 18, 19, 20, 21, 22, 23, 24, 25, 26], [4, 6, 7, 8, 10, 17, 18, 19, 20, 21, 22, 23, 25, 126], [16], [4, 6, 7, 8, 10, 17, 18, 19, 20, 21, 22, 23, 24, 25], [4, 6, 7, 8, 10, 17, 18, 19, 20, 22, 23, 24, 25, 26], [4, 6, 7, 8, 10, 17, 18, 19, 20, 22, 23, 25, 149], [16], [4, 6, 7, 8, 10, 17, 18, 19, 20, 22, 23, 25, 27], [4, 6, 7, 8, 10, 17, 18, 19, 20, 22, 23, 24, 25, 27], [4, 6, 7, 8, 10, 17, 18, 19, 23, 24, 25, 26], [4, 6, 7, 8, 10, 17, 18, 19, 181], [16], [16]]) [16, 100017] (nthLL [])
set_option maxRecDepth 10000
set_option maxHeartbeats 16000000
theorem c_DatabaseChanges (r : List UInt8) (rows : List (List L)) (hrows : ∀ r ∈ rows, Typ (tabF tab) 35 r) (l : List UInt8) (ls : List L) (hls : Typ (tabF tab) 35 ls) (s : List UInt8) (at' full : UInt8) (ix k : Int) (hk : 0 ≤ k ∧ k ≤ 18446744073709551615) : Fn Tryd.prog 6 [.a [.s r, .sl rows.flatten rows.length], .o (.sl (l.map u8) l.length), .a ls, .o (.sl (s.map u8) s.length), .o (.i .u8 (at'.toNat : Int)), .o (.i .u8 (full.toNat : Int)), .o (.i .i64 ix), .o (.i .u64 k)] [] (.one (.c (.o (.b true)))) [] := by
  obtain ⟨W, rfl, hW⟩ := de_rows hrows
  obtain ⟨e2, rfl, he2⟩ := de_typ hls
  rw [List.length_map]
  show Fn Tryd.prog _ [.a [.s r, .sl (flat deR W) W.length], _, .a [.s e2.x, .s e2.y, .i .u64 e2.k, .i .i64 e2.kv, .i .i64 e2.ex, .i .i64 e2.ml, .i .i64 e2.atr, .i .i64 e2.fl, .i .i64 e2.un], _, _, _, _, _] _ _ _
  have hat := byte_lt at'
  have hfull := byte_lt full
  have cl1 := c_long12 r W rfl
  refine Fn_intro (G := g6) (goodA rfl) (fn := Tryd.f6) rfl rfl rfl rfl rfl ?_
  by_cases hlong : dbLg r W = true ∨ e2.x.length > 100 ∨ e2.y.length > 100 ∨ l.length > 600 ∨ s.length > 20
  · generalize dbLg r W = A at *
    (repeat' ((conv => whnf) <;> first | exact rfl | with_reducible refine boolK_dec (fun _ => ?_) (fun _ => ?_) <;> try (exfalso; omega) | refine boolK_beq (fun _ => ?_) (fun _ => ?_) <;> try (exfalso; first | omega | contradiction) | refine boolK_bne (fun _ => ?_) (fun _ => ?_) <;> try (exfalso; first | omega | contradiction) | (with_reducible first | refine boolK_not ?_ | refine boolK_and ?_ | refine boolK_or ?_ | refine boolK_true ?_ | refine boolK_false ?_) | refine boolK_intro (fun _ => ?_) (fun _ => ?_) <;> try (exfalso; simp_all; done) | refine jA ?_ | refine jB ?_ | refine jC ?_ | refine jD ?_ | refine jE ?_ | refine jF ?_ | refine jG ?_ | refine jH ?_ | refine jI ?_ | refine jJ ?_ | refine jK ?_ | with_reducible refine natK_lit ?_ | refine natK_of rfl ?_ | refine natK_any ?_ | refine jL ?_ | refine jM ?_ | refine jN ?_ | refine jO ?_ | refine jP ?_ | refine jQ ?_ | refine jR ?_ | refine jS ?_ | refine jT ?_ | refine jU (fun _ => ?_) | refine jV ?_ | refine jW ?_ | refine jX ?_ | refine jY ?_ | refine jZ ?_ | refine ja ?_ | refine jb ?_ | refine jc ?_ | refine jd ?_ | refine je ?_ | refine jf ?_ | refine jg ?_ | refine jh ?_ | refine ji ?_ | refine jj ?_ | refine jk ?_ | refine jn ?_ | refine jo ?_ | refine jp ?_ | refine jq ?_ | refine jr ?_ | refine js ?_ | refine callK_intro (c_awake12) ?_ | refine callK_intro (cl1) ?_ | refine jt ?_ | refine jx ?_ | refine jy ?_ | refine ju ?_ | refine jv ?_)) <;> (try (conv => whnf))
    all_goals (exfalso; rcases hlong with h | h | h | h | h <;> first | omega | (simp_all; done))
  · have f1 : dbLg r W = false := by cases h : dbLg r W with
      | true => exact absurd (.inl h) hlong
      | false => rfl
    have f3 : e2.x.length ≤ 100 ∧ e2.y.length ≤ 100 ∧ l.length ≤ 600 ∧ s.length ≤ 20 := by
      have : ¬ (e2.x.length > 100 ∨ e2.y.length > 100 ∨ l.length > 600 ∨ s.length > 20) := fun h => hlong (.inr h)
      omega
    rw [f1] at cl1
    obtain ⟨w1, w2⟩ := dbLg_is f1
    have hWs : ∀ s ∈ W, deSm 90000 s := fun s hs => by
      have h1 := w2 s hs
      exact ⟨by omega, by omega, hW s hs⟩
    have he2s : deSm 90000 e2 := ⟨by omega, by omega, he2⟩
    obtain ⟨O, hO, cD⟩ := c_Database l rfl (by omega) 0 (by omega)
    obtain ⟨o1, o2, o3, _⟩ := dbC_un hO
    have hr0 : (realmN 0).length ≤ 90000 := by decide +kernel
    have hOs : ∀ s ∈ O, deSm 90000 s := fun s hs => de_grow (by omega) (deV_small (o3 s hs)).1
    obtain ⟨e1, kk, _, he1, cE⟩ := c_Entry s (by omega) 0
    have he1s : deSm 90000 e1 := de_grow (by omega) (deV_small he1).1
    have a0 : atS s 0 = 0 := by show ((min 0 s.length : Nat) : Int) = 0; simp
    rw [a0] at cE
    clear hO o1 o3 hlong f1 he1
    generalize realmN 0 = R at *
    have cR0 : deSm 90000 zoe := ⟨by decide, by decide, by decide⟩
    (repeat' ((conv => whnf) <;> first | exact rfl | with_reducible refine boolK_dec (fun _ => ?_) (fun _ => ?_) <;> try (exfalso; omega) | refine boolK_beq (fun _ => ?_) (fun _ => ?_) <;> try (exfalso; first | omega | contradiction) | refine boolK_bne (fun _ => ?_) (fun _ => ?_) <;> try (exfalso; first | omega | contradiction) | (with_reducible first | refine boolK_not ?_ | refine boolK_and ?_ | refine boolK_or ?_ | refine boolK_true ?_ | refine boolK_false ?_) | refine boolK_intro (fun _ => ?_) (fun _ => ?_) <;> try (exfalso; simp_all; done) | refine jA ?_ | refine jB ?_ | refine jC ?_ | refine jD ?_ | refine jE ?_ | refine jF ?_ | refine jG ?_ | refine jH ?_ | refine jI ?_ | refine jJ ?_ | refine jK ?_ | with_reducible refine natK_lit ?_ | refine natK_of rfl ?_ | refine natK_any ?_ | refine jL ?_ | refine jM ?_ | refine jN ?_ | refine jO ?_ | refine jP ?_ | refine jQ ?_ | refine jR ?_ | refine jS ?_ | refine jT ?_ | refine jU (fun _ => ?_) | refine jV ?_ | refine jW ?_ | refine jX ?_ | refine jY ?_ | refine jZ ?_ | refine ja ?_ | refine jb ?_ | refine jc ?_ | refine jd ?_ | refine je ?_ | refine jf ?_ | refine jg ?_ | refine jh ?_ | refine ji ?_ | refine jj ?_ | refine jk ?_ | refine jn ?_ | refine jo ?_ | refine jp ?_ | refine jq ?_ | refine jr ?_ | refine js ?_ | refine callK_intro (c_awake12) ?_ | refine callK_intro (cl1) ?_ | refine callK_intro (cD) ?_ | refine jt ?_ | refine jx ?_ | refine jy ?_ | refine ju ?_ | refine jv ?_)) <;> (try (conv => whnf))
    refine loopK_inv (G := g6) (fun n st => ∃ Q : List DE, n = 60 - Q.length ∧ Q.length ≤ 60 ∧ (∀ s ∈ Q, deSm 90000 s) ∧
      st = ⟨[(3, .c (.o (.sl (s.map u8) s.length))), (4, .c (.o (.i .u8 (at'.toNat : Int)))), (5, .c (.o (.i .u8 (full.toNat : Int)))), (6, .c (.o (.i .i64 ix))), (7, .c (.o (.i .u64 k))), (8, .c (.o (.p 8 0))), (10, .c (.o (.p 10 0))), (17, .c (.o (.p 17 0)))], [(8, .st [.s r, .sl (flat deR W) W.length]), (10, .st [.s e2.x, .s e2.y, .i .u64 e2.k, .i .i64 e2.kv, .i .i64 e2.ex, .i .i64 e2.ml, .i .i64 e2.atr, .i .i64 e2.fl, .i .i64 e2.un]), (17, .st [.s R, .gw 2273 Q.length 9]), (2273, .ar (flat deR Q))]⟩) (n := 60 - O.length) ⟨O, rfl, o2, hOs, rfl⟩ ?_
    clear hOs o2 cD
    rintro n st ⟨Q, hn, o2, hOs, rfl⟩
    have fz : flat deR Q ++ deR zoe = flat deR (Q ++ [zoe]) := by rw [flat_append, flat_one]
    rw [show deR zoe = [.s [122, 111, 101], .s [], .i .u64 0, .i .i64 0, .i .i64 0, .i .i64 0, .i .i64 0, .i .i64 0, .i .i64 0] from rfl] at fz
    have lz : (Q ++ [zoe]).length = Q.length + 1 := by simp
    have hz : ∀ s ∈ Q ++ [zoe], deSm 90000 s := fun s hs => by
      rcases List.mem_append.1 hs with h | h
      · exact hOs s h
      · obtain rfl : s = zoe := by simpa using h
        exact cR0
    generalize Q ++ [zoe] = Q2 at *
    have hk2 : 0 ≤ longK (at'.toNat : Int) ∧ longK (at'.toNat : Int) ≤ 18446744073709551615 := by unfold longK; omega
    (repeat' ((conv => whnf) <;> first | refine catK_of fz ?_ | refine natK_of (j := 0) (by omega) ?_ | refine natK_of (j := 1) (by omega) ?_ | exact rfl | with_reducible refine boolK_dec (fun _ => ?_) (fun _ => ?_) <;> try (exfalso; omega) | refine boolK_beq (fun _ => ?_) (fun _ => ?_) <;> try (exfalso; first | omega | contradiction) | refine boolK_bne (fun _ => ?_) (fun _ => ?_) <;> try (exfalso; first | omega | contradiction) | (with_reducible first | refine boolK_not ?_ | refine boolK_and ?_ | refine boolK_or ?_ | refine boolK_true ?_ | refine boolK_false ?_) | refine boolK_intro (fun _ => ?_) (fun _ => ?_) <;> try (exfalso; simp_all; done) | refine jA ?_ | refine jB ?_ | refine jC ?_ | refine jD ?_ | refine jE ?_ | refine jF ?_ | refine jG ?_ | refine jH ?_ | refine jI ?_ | refine jJ ?_ | refine jK ?_ | with_reducible refine natK_lit ?_ | refine natK_of rfl ?_ | refine natK_any ?_ | refine jL ?_ | refine jM ?_ | refine jN ?_ | refine jO ?_ | refine jP ?_ | refine jQ ?_ | refine jR ?_ | refine jS ?_ | refine jT ?_ | refine jU (fun _ => ?_) | refine jV ?_ | refine jW ?_ | refine jX ?_ | refine jY ?_ | refine jZ ?_ | refine ja ?_ | refine jb ?_ | refine jc ?_ | refine jd ?_ | refine je ?_ | refine jf ?_ | refine jg ?_ | refine jh ?_ | refine ji ?_ | refine jj ?_ | refine jk ?_ | refine jn ?_ | refine jo ?_ | refine jp ?_ | refine jq ?_ | refine jr ?_ | refine js ?_ | refine callK_intro (cE) ?_ | refine callK_intro (c_Long _ (by omega)) ?_ | refine callK_intro (c_dbAdd R Q rfl (by omega) hr0 hOs e1 he1s) ?_ | refine callK_intro (c_dbPut R Q rfl (by omega) hr0 hOs _ e1 he1s) ?_ | refine callK_intro (c_rdbAdd R Q rfl (by omega) hr0 hOs e1 he1s) ?_ | refine callK_intro (c_rdbPut R Q rfl (by omega) hr0 hOs _ e1 he1s) ?_ | refine callK_intro (c_dbAdd R Q rfl (by omega) hr0 hOs e2 he2s) ?_ | refine callK_intro (c_dbPut R Q rfl (by omega) hr0 hOs _ e2 he2s) ?_ | refine callK_intro (c_rdbAdd R Q rfl (by omega) hr0 hOs e2 he2s) ?_ | refine callK_intro (c_rdbPut R Q rfl (by omega) hr0 hOs _ e2 he2s) ?_ | refine callK_intro (c_dbRekey R Q rfl (by omega) hr0 hOs _ _ hk) ?_ | refine callK_intro (c_dbRekey R Q rfl (by omega) hr0 hOs _ _ hk2) ?_ | refine callK_intro (c_rdbRekey R Q rfl (by omega) hr0 hOs _ _ hk) ?_ | refine callK_intro (c_rdbRekey R Q rfl (by omega) hr0 hOs _ _ hk2) ?_ | refine callK_intro (c_sameDb _ _ rfl rfl (dbA_len (l := Q) (by omega))) ?_ | refine callK_intro (c_sameDb _ _ rfl rfl (dbP_len (l := Q) (by omega))) ?_ | refine callK_intro (c_sameDb _ _ rfl rfl (dbR_len (l := Q) (by omega))) ?_ | refine callK_intro (c_dbAdd r W rfl (by omega) (by omega) hWs e1 he1s) ?_ | refine callK_intro (c_dbPut r W rfl (by omega) (by omega) hWs _ e1 he1s) ?_ | refine callK_intro (c_rdbAdd r W rfl (by omega) (by omega) hWs e1 he1s) ?_ | refine callK_intro (c_rdbPut r W rfl (by omega) (by omega) hWs _ e1 he1s) ?_ | refine callK_intro (c_dbAdd r W rfl (by omega) (by omega) hWs e2 he2s) ?_ | refine callK_intro (c_dbPut r W rfl (by omega) (by omega) hWs _ e2 he2s) ?_ | refine callK_intro (c_rdbAdd r W rfl (by omega) (by omega) hWs e2 he2s) ?_ | refine callK_intro (c_rdbPut r W rfl (by omega) (by omega) hWs _ e2 he2s) ?_ | refine callK_intro (c_dbRekey r W rfl (by omega) (by omega) hWs _ _ hk) ?_ | refine callK_intro (c_dbRekey r W rfl (by omega) (by omega) hWs _ _ hk2) ?_ | refine callK_intro (c_rdbRekey r W rfl (by omega) (by omega) hWs _ _ hk) ?_ | refine callK_intro (c_rdbRekey r W rfl (by omega) (by omega) hWs _ _ hk2) ?_ | refine callK_intro (c_sameDb _ _ rfl rfl (dbA_len (l := W) (by omega))) ?_ | refine callK_intro (c_sameDb _ _ rfl rfl (dbP_len (l := W) (by omega))) ?_ | refine callK_intro (c_sameDb _ _ rfl rfl (dbR_len (l := W) (by omega))) ?_ | exact ⟨60 - Q2.length, by omega, Q2, rfl, by omega, hz, by rw [← lz]⟩ | refine loopK_step (G := g6) ?_ | refine jt ?_ | refine jx ?_ | refine jy ?_ | refine ju ?_ | refine jv ?_)) <;> (try (conv => whnf))
end Go.Sx
namespace Go.Proofs.YtfagmeafkddibaaDoor
open Go.ChangeShapes Go.WideShapes Go.ChangeAt Go.RowKit Go.Sx
namespace DatabaseChangesProof
set_option maxRecDepth 100000 in
theorem walk (W : World) (v0 v1 v2 v3 v4 v5 v6 v7 : Value) (ls0 ls1 ls2 ls3 ls4 ls5 ls6 ls7 : List L)
    (t0 : Typ (tabF tab) 24 ls0) (t1 : Typ (tabF tab) 25 ls1) (t2 : Typ (tabF tab) 35 ls2) (t3 : Typ (tabF tab) 25 ls3) (t4 : Typ (tabF tab) 5 ls4) (t5 : Typ (tabF tab) 5 ls5) (t6 : Typ (tabF tab) 3 ls6) (t7 : Typ (tabF tab) 33 ls7)
    (r0 : RelC (fun _ => False) W noMu (argC (tabF tab 24).agg ls0) v0) (r1 : RelC (fun _ => False) W noMu (argC (tabF tab 25).agg ls1) v1) (r2 : RelC (fun _ => False) W noMu (argC (tabF tab 35).agg ls2) v2) (r3 : RelC (fun _ => False) W noMu (argC (tabF tab 25).agg ls3) v3) (r4 : RelC (fun _ => False) W noMu (argC (tabF tab 5).agg ls4) v4) (r5 : RelC (fun _ => False) W noMu (argC (tabF tab 5).agg ls5) v5) (r6 : RelC (fun _ => False) W noMu (argC (tabF tab 3).agg ls6) v6) (r7 : RelC (fun _ => False) W noMu (argC (tabF tab 33).agg ls7) v7) :
    Calls Tryd.prog 6 #[v0, v1, v2, v3, v4, v5, v6, v7] W fun e w' => e = .returned (.bool true) ∧ Below W.heap.size W w' := by
  obtain ⟨partsa0, rfl, hla0, hpa0⟩ := typ_struct t0 rfl
  obtain ⟨qa0_0, qa0_1, rfl⟩ : ∃ qa0_0 qa0_1, partsa0 = [qa0_0, qa0_1] := by
    match partsa0, hla0 with
    | [qa0_0, qa0_1], _ => exact ⟨qa0_0, qa0_1, rfl⟩
  have ta0_0 := hpa0 0 _ qa0_0 rfl rfl
  obtain ⟨a0_0, rfl⟩ := typ_str ta0_0 rfl
  have ta0_1 := hpa0 1 _ qa0_1 rfl rfl
  obtain ⟨a0_1, rfl, wa0_1⟩ := typ_slice ta0_1 rfl
  obtain ⟨a1, rfl⟩ := typ_bytes t1 rfl rfl
  obtain ⟨partsa2, rfl, hla2, hpa2⟩ := typ_struct t2 rfl
  obtain ⟨qa2_0, qa2_1, qa2_2, qa2_3, qa2_4, qa2_5, qa2_6, qa2_7, qa2_8, rfl⟩ : ∃ qa2_0 qa2_1 qa2_2 qa2_3 qa2_4 qa2_5 qa2_6 qa2_7 qa2_8, partsa2 = [qa2_0, qa2_1, qa2_2, qa2_3, qa2_4, qa2_5, qa2_6, qa2_7, qa2_8] := by
    match partsa2, hla2 with
    | [qa2_0, qa2_1, qa2_2, qa2_3, qa2_4, qa2_5, qa2_6, qa2_7, qa2_8], _ => exact ⟨qa2_0, qa2_1, qa2_2, qa2_3, qa2_4, qa2_5, qa2_6, qa2_7, qa2_8, rfl⟩
  have ta2_0 := hpa2 0 _ qa2_0 rfl rfl
  obtain ⟨a2_0, rfl⟩ := typ_str ta2_0 rfl
  have ta2_1 := hpa2 1 _ qa2_1 rfl rfl
  obtain ⟨a2_1, rfl⟩ := typ_str ta2_1 rfl
  have ta2_2 := hpa2 2 _ qa2_2 rfl rfl
  obtain ⟨a2_2, rfl, wa2_2⟩ := typ_int ta2_2 rfl
  have ta2_3 := hpa2 3 _ qa2_3 rfl rfl
  obtain ⟨a2_3, rfl, wa2_3⟩ := typ_int ta2_3 rfl
  have ta2_4 := hpa2 4 _ qa2_4 rfl rfl
  obtain ⟨a2_4, rfl, wa2_4⟩ := typ_int ta2_4 rfl
  have ta2_5 := hpa2 5 _ qa2_5 rfl rfl
  obtain ⟨a2_5, rfl, wa2_5⟩ := typ_int ta2_5 rfl
  have ta2_6 := hpa2 6 _ qa2_6 rfl rfl
  obtain ⟨a2_6, rfl, wa2_6⟩ := typ_int ta2_6 rfl
  have ta2_7 := hpa2 7 _ qa2_7 rfl rfl
  obtain ⟨a2_7, rfl, wa2_7⟩ := typ_int ta2_7 rfl
  have ta2_8 := hpa2 8 _ qa2_8 rfl rfl
  obtain ⟨a2_8, rfl, wa2_8⟩ := typ_int ta2_8 rfl
  obtain ⟨a3, rfl⟩ := typ_bytes t3 rfl rfl
  obtain ⟨a4, rfl⟩ := typ_u8 t4 rfl
  obtain ⟨a5, rfl⟩ := typ_u8 t5 rfl
  obtain ⟨a6, rfl, wa6⟩ := typ_int t6 rfl
  obtain ⟨a7, rfl, wa7⟩ := typ_int t7 rfl
  exact calls_of_fn Tryd.func6 rfl rfl (c_DatabaseChanges a0_0 _ wa0_1 a1 _ t2 a3 a4 a5 a6 a7 (wf_u64 wa7)) (relCs_cons r0 (relCs_cons r1 (relCs_cons r2 (relCs_cons r3 (relCs_cons r4 (relCs_cons r5 (relCs_cons r6 (relCs_cons r7 relCs_nil))))))))

set_option maxRecDepth 100000 in
theorem lifted (os : Os) (started : os.Started) (H : Type) (enc : TypeId × Value → H) :
    ReturnsInHanded {} Tryd.checked os 6 .any (fun w args => (Rows.databaseChangesSpec.pre enc Tryd.prog Tryd.f6 [] false w args ∧ laidMetH Tryd.prog laidA w) ∧ sizedMet enc Tryd.prog Tryd.f6 (OpenSpec.ofChange Rows.databaseChangesSpec) false w args) (Rows.databaseChangesSpec.post enc Tryd.prog Tryd.f6 false true false false) := by
  refine returnsInHanded_of_change_and (C := Tryd.checked) (X := fun w _ => laidMetH Tryd.prog laidA w) (fun _ _ _ hh h => h.of_heap hh) ownA started (by kernel_rfl) Tryd.func6
    (ChangeSpec.witness_shaped (enc := enc) (C := Tryd.checked) (os := os) (X := fun w _ => laidMetH Tryd.prog laidA w) false (World.doorLaid Tryd.prog 24 os) #[.agg #[.string ByteArray.empty, .slice none 0 0], .slice none 0 0, .agg #[.string ByteArray.empty, .string ByteArray.empty, .int .u64 0, .int .i64 0, .int .i64 0, .int .i64 0, .int .i64 0, .int .i64 0, .int .i64 0], .slice none 0 0, .int .u8 0, .int .u8 0, .int .i64 0, .int .u64 0] 8 rfl (World.shaped_of_RefB (by kernel_rfl) (by kernel_rfl)) (by kernel_rfl) (by kernel_rfl) (by kernel_rfl) (door_metA os _)) ?_
  intro W base args ds gs before hval0 hW _ _ hL _
  have hval : ∀ (j : Nat) t v, Tryd.f6.params[j]? = some t → args[j]? = some v → Value.okWide Tryd.prog W .any base t v := hval0
  have hW' := hW
  obtain ⟨p, q, hA0, hV, rfl, hfz, hnd⟩ := hW
  have hA : DataW.TrodAll enc Tryd.prog W 0 (fun _ => true) true Tryd.f6.params.toList args.toList ds p := hA0
  rw [Tryd.params6] at hA hval
  obtain ⟨v0, vs0, d0, ds0, p0, q0, hargs, rfl, rfl, h0, r0⟩ := trodAll_cons hA
  obtain ⟨v1, vs1, d1, ds1, p1, q1, rfl, rfl, rfl, h1, r1⟩ := trodAll_cons r0
  obtain ⟨v2, vs2, d2, ds2, p2, q2, rfl, rfl, rfl, h2, r2⟩ := trodAll_cons r1
  obtain ⟨v3, vs3, d3, ds3, p3, q3, rfl, rfl, rfl, h3, r3⟩ := trodAll_cons r2
  obtain ⟨v4, vs4, d4, ds4, p4, q4, rfl, rfl, rfl, h4, r4⟩ := trodAll_cons r3
  obtain ⟨v5, vs5, d5, ds5, p5, q5, rfl, rfl, rfl, h5, r5⟩ := trodAll_cons r4
  obtain ⟨v6, vs6, d6, ds6, p6, q6, rfl, rfl, rfl, h6, r6⟩ := trodAll_cons r5
  obtain ⟨v7, vs7, d7, ds7, p7, q7, rfl, rfl, rfl, h7, r7⟩ := trodAll_cons r6
  obtain ⟨rfl, rfl, rfl⟩ := trodAll_nil r7
  obtain rfl : args = #[v0, v1, v2, v3, v4, v5, v6, v7] := by cases args; simp_all
  obtain ⟨rfl, rfl⟩ := trodVars_none hV
  obtain ⟨ls0, t0, c0⟩ := rel_arg tokA (n := 9) rfl h0 (hval 0 24 v0 rfl rfl)
  obtain ⟨ls1, t1, c1⟩ := rel_arg tokA (n := 9) rfl h1 (hval 1 25 v1 rfl rfl)
  obtain ⟨ls2, t2, c2⟩ := rel_arg tokA (n := 9) rfl h2 (hval 2 35 v2 rfl rfl)
  obtain ⟨ls3, t3, c3⟩ := rel_arg tokA (n := 9) rfl h3 (hval 3 25 v3 rfl rfl)
  obtain ⟨ls4, t4, c4⟩ := rel_arg tokA (n := 9) rfl h4 (hval 4 5 v4 rfl rfl)
  obtain ⟨ls5, t5, c5⟩ := rel_arg tokA (n := 9) rfl h5 (hval 5 5 v5 rfl rfl)
  obtain ⟨ls6, t6, c6⟩ := rel_arg tokA (n := 9) rfl h6 (hval 6 3 v6 rfl rfl)
  obtain ⟨ls7, t7, c7⟩ := rel_arg tokA (n := 9) rfl h7 (hval 7 33 v7 rfl rfl)
  have lt0 : ∀ x ∈ p0, x.block < W.heap.size := by obtain ⟨m, hm⟩ := h0; exact DataW.trod_lt m _ _ _ hm
  have lt1 : ∀ x ∈ p1, x.block < W.heap.size := by obtain ⟨m, hm⟩ := h1; exact DataW.trod_lt m _ _ _ hm
  have lt2 : ∀ x ∈ p2, x.block < W.heap.size := by obtain ⟨m, hm⟩ := h2; exact DataW.trod_lt m _ _ _ hm
  have lt3 : ∀ x ∈ p3, x.block < W.heap.size := by obtain ⟨m, hm⟩ := h3; exact DataW.trod_lt m _ _ _ hm
  have lt4 : ∀ x ∈ p4, x.block < W.heap.size := by obtain ⟨m, hm⟩ := h4; exact DataW.trod_lt m _ _ _ hm
  have lt5 : ∀ x ∈ p5, x.block < W.heap.size := by obtain ⟨m, hm⟩ := h5; exact DataW.trod_lt m _ _ _ hm
  have lt6 : ∀ x ∈ p6, x.block < W.heap.size := by obtain ⟨m, hm⟩ := h6; exact DataW.trod_lt m _ _ _ hm
  have lt7 : ∀ x ∈ p7, x.block < W.heap.size := by obtain ⟨m, hm⟩ := h7; exact DataW.trod_lt m _ _ _ hm
  clear hA0 hval0
  refine (walk W v0 v1 v2 v3 v4 v5 v6 v7 ls0 ls1 ls2 ls3 ls4 ls5 ls6 ls7 t0 t1 t2 t3 t4 t5 t6 t7 c0 c1 c2 c3 c4 c5 c6 c7).mono fun e W' ⟨he, bel⟩ => ?_
  subst he
  exact ⟨_, rfl, _, _, _, [], _, [], hW', trodAll_mk1 (shut_bool Tryd.underlying4 _), (trodAll_cons_mk (Below.trod laidOutA (by kernel_rfl) (of_decide_eq_true (by kernel_rfl)) h0 bel lt0) (trodAll_cons_mk (Below.trod laidOutA (by kernel_rfl) (of_decide_eq_true (by kernel_rfl)) h1 bel lt1) (trodAll_cons_mk (Below.trod laidOutA (by kernel_rfl) (of_decide_eq_true (by kernel_rfl)) h2 bel lt2) (trodAll_cons_mk (Below.trod laidOutA (by kernel_rfl) (of_decide_eq_true (by kernel_rfl)) h3 bel lt3) (trodAll_cons_mk (Below.trod laidOutA (by kernel_rfl) (of_decide_eq_true (by kernel_rfl)) h4 bel lt4) (trodAll_cons_mk (Below.trod laidOutA (by kernel_rfl) (of_decide_eq_true (by kernel_rfl)) h5 bel lt5) (trodAll_cons_mk (Below.trod laidOutA (by kernel_rfl) (of_decide_eq_true (by kernel_rfl)) h6 bel lt6) (trodAll_cons_mk (Below.trod laidOutA (by kernel_rfl) (of_decide_eq_true (by kernel_rfl)) h7 bel lt7) trodAll_mk0)))))))), rfl, bel.frame _, fun h => by cases h⟩

set_option maxRecDepth 100000 in
theorem over : Rows.databaseChangesRow.holds Tryd.pinned (OpenSpec.ofChange Rows.databaseChangesSpec) :=
  OpenClaim.holds_of_wide 6 Tryd.f6 rfl rfl rfl rfl rfl rfl rfl ⟨rfl, rfl, rfl, rfl, rfl⟩ rfl rfl rfl rfl rfl (by kernel_rfl) Tryd.func6 (by kernel_rfl)
    (of_decide_eq_true (by kernel_rfl)) (by unfold Func.isWrapper; first | (rw [if_pos (by decide +kernel)]; kernel_rfl) | (rw [if_neg (by decide +kernel)]; exact ⟨rfl, rfl⟩))
    (fun os started H enc _ => lifted os started H enc)
set_option maxRecDepth 100000 in
theorem card : Claim7.holds Tryd.pinned (.plain (OpenSpec.ofChange Rows.databaseChangesSpec)) Rows.databaseChangesCard :=
  Claim7.holds_tied_plain_at .later [] [.data, .data, .data] true (true, "86da0c24c9236608754bf5c54e3aea5521f45cfe452094d8e1acd59017ce1540") false
    over (fun _ h => by cases h) (by kernel_rfl) (fun _ h => by cases h) databaseChanges_row_tie rfl ⟨rfl, rfl⟩ (by kernel_rfl) rfl
    (fun f fn hf hfn => by
      obtain rfl : f = 6 := Option.some.inj ((show Tryd.prog.funcNamed "kerbsuite/kerbsuitelaw12.DatabaseChanges" = some 6 by kernel_rfl).symm.trans hf) |>.symm
      obtain rfl : fn = Tryd.f6 := (Option.some.inj (Tryd.func6.symm.trans hfn)).symm
      exact ⟨by kernel_rfl, fun j t ht => by
        rw [Tryd.params6] at ht
        have hm : t ∈ [24, 25, 35, 25, 5, 5, 3, 33] := by simpa using Array.mem_of_getElem? ht
        have hall : ([24, 25, 35, 25, 5, 5, 3, 33].all fun u => !Tryd.prog.wantsStandIn u) = true := by kernel_rfl
        exact (show Tryd.prog.wantsStandIn t = false by simpa using List.all_eq_true.1 hall t hm)⟩)
    (by kernel_rfl)
end DatabaseChangesProof

theorem databaseChanges_proved : Rows.DatabaseChangesCardSaid := DatabaseChangesProof.card
#print axioms databaseChanges_proved
end Go.Proofs.YtfagmeafkddibaaDoor

/-
  Contracts of the document's functions that read an entry and a dump.
-/
import Derived.Test.YtdpbmmmdmecfdaaGreatDoorCDumpS
set_option linter.all false
namespace Go.Sx
open Go.Proofs Go.RowKit
def entI (s : List UInt8) : DE × Bool := match entR s with | some e => (e, true) | none => (de0, false)
def nTop (n : Int × Bool) : Bool := n.2 && decide (n.1 ≤ 4294967295)
theorem nTop_y {n : Int × Bool} (h : n.2 = true) (h2 : n.1 ≤ 4294967295) : nTop n = true := by simp [nTop, h, h2]
theorem nTop_1 {n : Int × Bool} (h : n.2 = false) : nTop n = false := by simp [nTop, h]
theorem nTop_2 {n : Int × Bool} (h : 4294967295 < n.1) : nTop n = false := by
  unfold nTop
  rw [Bool.and_eq_false_iff]
  exact .inr (decide_eq_false (by omega))
theorem entI_len {s : List UInt8} (h : ¬ (spl 9 s).length = 9) : entI s = (de0, false) := by
  rw [entI, entR, if_neg h]
theorem entI_9 {s p0 p1 p2 p3 p4 p5 p6 p7 p8 : List UInt8} (h : spl 9 s = [p0, p1, p2, p3, p4, p5, p6, p7, p8]) :
    entI s = if (numI p2).2 = true ∧ nTop (numI p3) = true ∧ nTop (numI p4) = true ∧ nTop (numI p5) = true ∧ nTop (numI p6) = true ∧ nTop (numI p7) = true ∧ nTop (numI p8) = true then (⟨p0, p1, (numI p2).1, (numI p3).1, (numI p4).1, (numI p5).1, (numI p6).1, (numI p7).1, (numI p8).1⟩, true) else (de0, false) := by
  unfold entI entR
  rw [h]
  simp only [List.length_cons, List.length_nil, List.getD_cons_zero, List.getD_cons_succ, if_true]
  unfold numI nTop
  cases numR p2 <;> cases numR p3 <;> cases numR p4 <;> cases numR p5 <;> cases numR p6 <;> cases numR p7 <;> cases numR p8 <;> simp only [Bool.false_and, Bool.true_and, Bool.false_eq_true, false_and, and_false, if_false, true_and, decide_eq_true_eq]
  rename_i k a b c d f g
  by_cases hh : a ≤ 4294967295 ∧ b ≤ 4294967295 ∧ c ≤ 4294967295 ∧ d ≤ 4294967295 ∧ f ≤ 4294967295 ∧ g ≤ 4294967295
  · rw [if_pos hh, if_pos (by omega)]
  · rw [if_neg hh, if_neg (by omega)]
theorem entI_bad {s p0 p1 p2 p3 p4 p5 p6 p7 p8 : List UInt8} (h : spl 9 s = [p0, p1, p2, p3, p4, p5, p6, p7, p8]) (hb : (numI p2).2 = false ∨ (numI p3).2 = false ∨ (numI p4).2 = false ∨ (numI p5).2 = false ∨ (numI p6).2 = false ∨ (numI p7).2 = false ∨ (numI p8).2 = false ∨ 4294967295 < (numI p3).1 ∨ 4294967295 < (numI p4).1 ∨ 4294967295 < (numI p5).1 ∨ 4294967295 < (numI p6).1 ∨ 4294967295 < (numI p7).1 ∨ 4294967295 < (numI p8).1) : entI s = (de0, false) := by
  rw [entI_9 h, if_neg]
  rintro ⟨q2, q3, q4, q5, q6, q7, q8⟩
  rcases hb with b | b | b | b | b | b | b | b | b | b | b | b | b
  · rw [b] at q2; cases q2
  · rw [nTop_1 b] at q3; cases q3
  · rw [nTop_1 b] at q4; cases q4
  · rw [nTop_1 b] at q5; cases q5
  · rw [nTop_1 b] at q6; cases q6
  · rw [nTop_1 b] at q7; cases q7
  · rw [nTop_1 b] at q8; cases q8
  · rw [nTop_2 b] at q3; cases q3
  · rw [nTop_2 b] at q4; cases q4
  · rw [nTop_2 b] at q5; cases q5
  · rw [nTop_2 b] at q6; cases q6
  · rw [nTop_2 b] at q7; cases q7
  · rw [nTop_2 b] at q8; cases q8
theorem entI_good {s p0 p1 p2 p3 p4 p5 p6 p7 p8 : List UInt8} (h : spl 9 s = [p0, p1, p2, p3, p4, p5, p6, p7, p8]) (hg : (numI p2).2 = true ∧ ((numI p3).2 = true ∧ (numI p3).1 ≤ 4294967295) ∧ ((numI p4).2 = true ∧ (numI p4).1 ≤ 4294967295) ∧ ((numI p5).2 = true ∧ (numI p5).1 ≤ 4294967295) ∧ ((numI p6).2 = true ∧ (numI p6).1 ≤ 4294967295) ∧ ((numI p7).2 = true ∧ (numI p7).1 ≤ 4294967295) ∧ ((numI p8).2 = true ∧ (numI p8).1 ≤ 4294967295)) : entI s = (⟨p0, p1, (numI p2).1, (numI p3).1, (numI p4).1, (numI p5).1, (numI p6).1, (numI p7).1, (numI p8).1⟩, true) := by
  obtain ⟨q2, ⟨q3, r3⟩, ⟨q4, r4⟩, ⟨q5, r5⟩, ⟨q6, r6⟩, ⟨q7, r7⟩, ⟨q8, r8⟩⟩ := hg
  rw [entI_9 h, if_pos ⟨q2, nTop_y q3 r3, nTop_y q4 r4, nTop_y q5 r5, nTop_y q6 r6, nTop_y q7 r7, nTop_y q8 r8⟩]
theorem nine_of {l : List (List UInt8)} (h : l.length = 9) : ∃ p0 p1 p2 p3 p4 p5 p6 p7 p8, l = [p0, p1, p2, p3, p4, p5, p6, p7, p8] := by
  match l, h with
  | [p0, p1, p2, p3, p4, p5, p6, p7, p8], _ => exact ⟨_, _, _, _, _, _, _, _, _, rfl⟩
noncomputable def g29 : Par := par 76 (nthLL [[0, 2], [2, 4], [2, 4, 13], [2, 3], [2, 4, 5], [2, 4, 5, 6], [2, 4, 5, 6, 16], [2, 4, 5, 6], [2, 4, 5, 6, 7, 8], [2, 4, 5, 6, 7, 36], [2, 3], [2, 4, 5, 6], [2, 3]]) [2, 3, 5] (nthLL [[], [], [], [], [], [], [], [], [], [], [], [], [0, 1, 3, 0, 8, 24, 0, 64, 192, 0, 512, 1536, 3584, 0, 8192, 24576, 57344, 0, 131072, 393216, 917504, 0, 2097152, 6291456, 14680064, 0, 33554432, 100663296, 234881024, 0, 536870912, 1610612736, 3758096384, 8589934591, 17179869183, 34359738367]])
set_option maxRecDepth 10000
set_option maxHeartbeats 16000000
theorem c_entry (s : List UInt8) (hs : s.length ≤ 90000) : Fn Tryz.prog 29 [.o (.s s)] [] (.tup [.c (.a (deR (entI s).1)), .c (.o (.b (entI s).2))]) [] := by
  have c0 := c_rSplit s 9 hs
  by_cases h9 : (spl 9 s).length = 9
  case neg =>
    rw [entI_len h9]
    generalize spl 9 s = S at *
    refine Fn_intro (G := g29) (goodA rfl) (fn := Tryz.f29) rfl rfl rfl rfl rfl ?_
    (repeat' ((conv => whnf) <;> first | exact rfl | with_reducible refine boolK_dec (fun _ => ?_) (fun _ => ?_) <;> try (exfalso; omega) | refine boolK_beq (fun _ => ?_) (fun _ => ?_) <;> try (exfalso; first | omega | with_reducible contradiction) | refine boolK_bne (fun _ => ?_) (fun _ => ?_) <;> try (exfalso; first | omega | with_reducible contradiction) | (with_reducible first | refine boolK_not ?_ | refine boolK_and ?_ | refine boolK_or ?_ | refine boolK_true ?_ | refine boolK_false ?_) | refine boolK_intro (fun _ => ?_) (fun _ => ?_) <;> try (exfalso; simp_all; done) | refine jA ?_ | refine jB ?_ | refine jC ?_ | refine jD ?_ | refine jE ?_ | refine jF ?_ | refine jG ?_ | refine jH ?_ | refine jI ?_ | refine jJ ?_ | refine jK ?_ | with_reducible refine natK_lit ?_ | refine natK_of rfl ?_ | refine natK_any ?_ | refine jP ?_ | refine jQ ?_ | refine jR ?_ | refine jS ?_ | refine jT ?_ | refine jU (fun _ => ?_) | refine jV ?_ | refine jW ?_ | refine jX ?_ | refine jY ?_ | refine jZ ?_ | refine ja ?_ | refine jb ?_ | refine jc ?_ | refine jd ?_ | refine je ?_ | refine jf ?_ | refine jg ?_ | refine jh ?_ | refine ji ?_ | refine jj ?_ | refine jk ?_ | refine jn ?_ | refine jo ?_ | refine jp ?_ | refine jq ?_ | refine jr ?_ | refine js ?_ | refine callK_intro (c0) ?_ | refine jt ?_ | refine jy ?_ | refine ju ?_ | refine jv ?_)) <;> (try (conv => whnf))
  obtain ⟨p0, p1, p2, p3, p4, p5, p6, p7, p8, hp⟩ := nine_of h9
  have hl : ∀ p ∈ spl 9 s, p.length ≤ 90000 := fun p h => Nat.le_trans (spl_part h) hs
  rw [hp] at hl
  have c2 := c_number p2 (hl p2 (by simp))
  have c3 := c_number p3 (hl p3 (by simp))
  have c4 := c_number p4 (hl p4 (by simp))
  have c5 := c_number p5 (hl p5 (by simp))
  have c6 := c_number p6 (hl p6 (by simp))
  have c7 := c_number p7 (hl p7 (by simp))
  have c8 := c_number p8 (hl p8 (by simp))
  have l2 := @numI_le p2
  have l3 := @numI_le p3
  have l4 := @numI_le p4
  have l5 := @numI_le p5
  have l6 := @numI_le p6
  have l7 := @numI_le p7
  have l8 := @numI_le p8
  have bad := fun hb => entI_bad hp hb
  have good := fun hg => entI_good hp hg
  have hl9 : ([p0, p1, p2, p3, p4, p5, p6, p7, p8] : List (List UInt8)).length = 9 := rfl
  rw [hp] at c0
  generalize entI s = E at *
  generalize numI p2 = N2 at *
  generalize numI p3 = N3 at *
  generalize numI p4 = N4 at *
  generalize numI p5 = N5 at *
  generalize numI p6 = N6 at *
  generalize numI p7 = N7 at *
  generalize numI p8 = N8 at *
  obtain ⟨n2, o2⟩ := N2
  obtain ⟨n3, o3⟩ := N3
  obtain ⟨n4, o4⟩ := N4
  obtain ⟨n5, o5⟩ := N5
  obtain ⟨n6, o6⟩ := N6
  obtain ⟨n7, o7⟩ := N7
  obtain ⟨n8, o8⟩ := N8
  dsimp only at bad good c2 c3 c4 c5 c6 c7 c8 l2 l3 l4 l5 l6 l7 l8
  clear hl h9 hp
  by_cases hg : o2 = true ∧ (o3 = true ∧ n3 ≤ 4294967295) ∧ (o4 = true ∧ n4 ≤ 4294967295) ∧ (o5 = true ∧ n5 ≤ 4294967295) ∧ (o6 = true ∧ n6 ≤ 4294967295) ∧ (o7 = true ∧ n7 ≤ 4294967295) ∧ (o8 = true ∧ n8 ≤ 4294967295)
  · rw [good hg]
    obtain ⟨rfl, ⟨rfl, r3⟩, ⟨rfl, r4⟩, ⟨rfl, r5⟩, ⟨rfl, r6⟩, ⟨rfl, r7⟩, ⟨rfl, r8⟩⟩ := hg
    clear bad good
    refine Fn_intro (G := g29) (goodA rfl) (fn := Tryz.f29) rfl rfl rfl rfl rfl ?_
    (repeat' ((conv => whnf) <;> first | refine natK_of (j := 0) (by omega) ?_ | refine natK_of (j := 1) (by omega) ?_ | refine natK_of (j := 2) (by omega) ?_ | refine natK_of (j := 3) (by omega) ?_ | refine natK_of (j := 4) (by omega) ?_ | refine natK_of (j := 5) (by omega) ?_ | refine natK_of (j := 6) (by omega) ?_ | refine natK_of (j := 7) (by omega) ?_ | refine natK_of (j := 8) (by omega) ?_ | exact rfl | with_reducible refine boolK_dec (fun _ => ?_) (fun _ => ?_) <;> try (exfalso; omega) | refine boolK_beq (fun _ => ?_) (fun _ => ?_) <;> try (exfalso; first | omega | with_reducible contradiction) | refine boolK_bne (fun _ => ?_) (fun _ => ?_) <;> try (exfalso; first | omega | with_reducible contradiction) | (with_reducible first | refine boolK_not ?_ | refine boolK_and ?_ | refine boolK_or ?_ | refine boolK_true ?_ | refine boolK_false ?_) | refine boolK_intro (fun _ => ?_) (fun _ => ?_) <;> try (exfalso; simp_all; done) | refine jA ?_ | refine jB ?_ | refine jC ?_ | refine jD ?_ | refine jE ?_ | refine jF ?_ | refine jG ?_ | refine jH ?_ | refine jI ?_ | refine jJ ?_ | refine jK ?_ | with_reducible refine natK_lit ?_ | refine natK_of rfl ?_ | refine natK_any ?_ | refine jP ?_ | refine jQ ?_ | refine jR ?_ | refine jS ?_ | refine jT ?_ | refine jU (fun _ => ?_) | refine jV ?_ | refine jW ?_ | refine jX ?_ | refine jY ?_ | refine jZ ?_ | refine ja ?_ | refine jb ?_ | refine jc ?_ | refine jd ?_ | refine je ?_ | refine jf ?_ | refine jg ?_ | refine jh ?_ | refine ji ?_ | refine jj ?_ | refine jk ?_ | refine jn ?_ | refine jo ?_ | refine jp ?_ | refine jq ?_ | refine jr ?_ | refine js ?_ | refine callK_intro (c0) ?_ | refine callK_intro (c2) ?_ | refine callK_intro (c3) ?_ | refine callK_intro (c4) ?_ | refine callK_intro (c5) ?_ | refine callK_intro (c6) ?_ | refine callK_intro (c7) ?_ | refine callK_intro (c8) ?_ | refine loopK_step (G := g29) ?_ | refine jt ?_ | refine jy ?_ | refine ju ?_ | refine jv ?_)) <;> (try (conv => whnf))
  · have hE : E = (de0, false) := by
      apply bad
      cases o2 <;> cases o3 <;> cases o4 <;> cases o5 <;> cases o6 <;> cases o7 <;> cases o8 <;> simp at hg ⊢
      omega
    rw [hE]
    clear bad good hE
    refine Fn_intro (G := g29) (goodA rfl) (fn := Tryz.f29) rfl rfl rfl rfl rfl ?_
    (repeat' ((conv => whnf) <;> first | refine natK_of (j := 2) (by omega) ?_ | refine natK_of (j := 3) (by omega) ?_ | refine natK_of (j := 4) (by omega) ?_ | refine natK_of (j := 5) (by omega) ?_ | refine natK_of (j := 6) (by omega) ?_ | refine natK_of (j := 7) (by omega) ?_ | refine natK_of (j := 8) (by omega) ?_ | exact rfl | with_reducible refine boolK_dec (fun _ => ?_) (fun _ => ?_) <;> try (exfalso; omega) | refine boolK_beq (fun _ => ?_) (fun _ => ?_) <;> try (exfalso; first | omega | with_reducible contradiction) | refine boolK_bne (fun _ => ?_) (fun _ => ?_) <;> try (exfalso; first | omega | with_reducible contradiction) | (with_reducible first | refine boolK_not ?_ | refine boolK_and ?_ | refine boolK_or ?_ | refine boolK_true ?_ | refine boolK_false ?_) | refine boolK_intro (fun _ => ?_) (fun _ => ?_) <;> try (exfalso; simp_all; done) | refine jA ?_ | refine jB ?_ | refine jC ?_ | refine jD ?_ | refine jE ?_ | refine jF ?_ | refine jG ?_ | refine jH ?_ | refine jI ?_ | refine jJ ?_ | refine jK ?_ | with_reducible refine natK_lit ?_ | refine natK_of rfl ?_ | refine natK_any ?_ | refine jP ?_ | refine jQ ?_ | refine jR ?_ | refine jS ?_ | refine jT ?_ | refine jU (fun _ => ?_) | refine jV ?_ | refine jW ?_ | refine jX ?_ | refine jY ?_ | refine jZ ?_ | refine ja ?_ | refine jb ?_ | refine jc ?_ | refine jd ?_ | refine je ?_ | refine jf ?_ | refine jg ?_ | refine jh ?_ | refine ji ?_ | refine jj ?_ | refine jk ?_ | refine jn ?_ | refine jo ?_ | refine jp ?_ | refine jq ?_ | refine jr ?_ | refine js ?_ | refine callK_intro (c0) ?_ | refine callK_intro (c2) ?_ | refine callK_intro (c3) ?_ | refine callK_intro (c4) ?_ | refine callK_intro (c5) ?_ | refine callK_intro (c6) ?_ | refine callK_intro (c7) ?_ | refine callK_intro (c8) ?_ | refine loopK_step (G := g29) ?_ | refine jt ?_ | refine jy ?_ | refine ju ?_ | refine jv ?_)) <;> (try (conv => whnf))
    all_goals (exfalso; apply hg; simp_all; done)
end Go.Sx

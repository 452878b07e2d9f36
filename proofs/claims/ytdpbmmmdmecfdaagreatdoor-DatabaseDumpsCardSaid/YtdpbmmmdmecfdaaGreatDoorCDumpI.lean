/-
  The contract of database.Dump, at any database.
-/
import Derived.Test.YtdpbmmmdmecfdaaGreatDoorCDumpH
import Derived.Outline
import Derived.Deep.DeepCutAuto
set_option linter.all false
namespace Go.Sx
open Go.Proofs Go.RowKit
set_option maxHeartbeats 4000000 in
set_option maxRecDepth 100000 in
theorem Dump_walk (r : List UInt8) (l : List DE) (hl : l.length ≤ 1000) (hr : r.length ≤ 80000) (hs : ∀ s ∈ l, deSm 90000 s) (sv : Option Addr) (cap : Nat) (hc : l.length ≤ cap) (w : World) (hg : GW Tryz.prog w) (ha : DbAt w sv l) :
    Calls Tryz.prog 7 #[.agg #[.string ⟨⟨r⟩⟩, .slice sv l.length cap]] w fun e w' => e = .returned (.tuple #[.string ⟨⟨(dumpS r l).1⟩⟩, .int .i64 (dumpS r l).2]) ∧ Below w.heap.size w w' := by
  by_cases hC : dbC r l = 0
  · obtain ⟨_, h60, hv, _⟩ := dbC_un hC
    have hD : dumpS r l = (dumpB r l, 0) := by rw [dumpS, if_pos hC]
    rw [hD]
    have hck := fun w hg ha => db_check r l hl hr hs sv cap hc w hg ha
    rw [hC] at hck
    have hv0 := hv
    clear hD hC hs
    go_enter Tryz.func7, Tryz.ntmps7
    go_wp2_with (go_at_call 19; refine (hck _ (hg.alloc _) (ha.kept (Nat.le_refl _) ((Below.refl _ w).alloc (Nat.le_refl _) _))).mono ?_)
    rintro e w1 ⟨rfl, hb1⟩
    obtain ⟨e0, hh⟩ := dump_in hb1
    have k0 : w1.cell? ⟨w.heap.size, 0, none⟩ = some (.string ⟨⟨r⟩⟩) := by rw [Lib.cell_of_heap hh]; rfl
    have k1 : w1.cell? ⟨w.heap.size, 1, none⟩ = some (.slice sv l.length cap) := by rw [Lib.cell_of_heap hh]; rfl
    have hb01 : Below w.heap.size w w1 := ((Below.refl _ w).alloc (Nat.le_refl _) _).trans (hb1.mono (dump_sz w _))
    have h0 : Lib.IsBuilderF 56 5 w1.heap.size w1.heap.size (Lib.byteCells []) (w1.alloc (.cells #[.pointer none, .slice none 0 0] 56)) := Lib.IsBuilderF.of (Lib.fresh_isBuilder 56 5 w1)
    have g0 : (w1.alloc (.cells #[.pointer none, .slice none 0 0] 56)).cell? ⟨w.heap.size, 0, none⟩ = some (.string ⟨⟨r⟩⟩) := by
      rw [Lib.cell_of_heap ((Lib.alloc_old w1 _ _ e0).trans hh)]; rfl
    go_wp2_with (go_at_call 20; refine (Tryz.WriteString_any w1.heap.size w1.heap.size (Lib.byteCells []) _ _ h0 ?s1 (dump_sz _ _)).mono ?_)
    case s1 =>
      have e1 : (⟨⟨r⟩⟩ : ByteArray).size = r.length := rfl
      have e4 : (⟨#[10]⟩ : ByteArray).size = 1 := rfl
      rw [byte_len]
      simp only [ByteArray.size_append, e1, e4, List.length_nil]
      omega
    rintro e w2 ⟨rfl, h2, hb2, _⟩
    have hh2 : w2.heap[w.heap.size]? = some (.cells #[.string ⟨⟨r⟩⟩, .slice sv l.length cap] 24 (0, 0)) := by
      rw [hb2.block _ e0, Lib.alloc_old w1 _ _ e0, hh]
    have hb2' : Below w1.heap.size w1 w2 := ((Below.refl _ w1).alloc (Nat.le_refl _) _).trans hb2
    have k2 : w2.cell? ⟨w.heap.size, 1, none⟩ = some (.slice sv l.length cap) := by rw [Lib.cell_of_heap hh2]; rfl
    have h2' : Lib.BuilderAtF 56 5 w1.heap.size w1.heap.size (.pointer (some ⟨w1.heap.size, 0, none⟩)) (Lib.byteCells (outB r l 0)) w2 := by
      rw [outB_0, ← byte_cells_app, ← str_cells, ← str_cells]
      rw [str_cells_app, str_cells] at h2
      exact h2
    clear h2 h0
    go_wp2
    go_loopw [22] (fun i wr => ∃ k : Nat, k ≤ l.length ∧ i = .int .i64 k ∧ Lib.IsBuilderF 56 5 w1.heap.size w1.heap.size (Lib.byteCells (outB r l k)) wr ∧ Below w1.heap.size w1 wr) (fun i _ => l.length - (intOf i).toNat)
    case atStart => exact ⟨0, by omega, rfl, .inr h2', hb2'⟩
    case round =>
      obtain ⟨k, hk, rfl, hB, hbel⟩ := hrel
      by_cases hlt : k < l.length
      · rcases ha.kept (Nat.le_refl _) hb01 with h | ⟨b, o, rfl, hb, hcell⟩
        · subst h; simp at hlt
        have hcell' := fun t ht => (hbel.cell hb).trans (DbAt.entry hcell hlt t ht)
        have c0 : wr.cell? ⟨b, o + k * 9, none⟩ = _ := hcell' 0 (by omega)
        have c1 : wr.cell? ⟨b, o + k * 9 + 1, none⟩ = _ := hcell' 1 (by omega)
        have c2 : wr.cell? ⟨b, o + k * 9 + 2, none⟩ = _ := hcell' 2 (by omega)
        have c3 : wr.cell? ⟨b, o + k * 9 + 3, none⟩ = _ := hcell' 3 (by omega)
        have c4 : wr.cell? ⟨b, o + k * 9 + 4, none⟩ = _ := hcell' 4 (by omega)
        have c5 : wr.cell? ⟨b, o + k * 9 + 5, none⟩ = _ := hcell' 5 (by omega)
        have c6 : wr.cell? ⟨b, o + k * 9 + 6, none⟩ = _ := hcell' 6 (by omega)
        have c7 : wr.cell? ⟨b, o + k * 9 + 7, none⟩ = _ := hcell' 7 (by omega)
        have c8 : wr.cell? ⟨b, o + k * 9 + 8, none⟩ = _ := hcell' 8 (by omega)
        simp only [deR, List.getD_cons_zero, List.getD_cons_succ, plainV] at c0 c1 c2 c3 c4 c5 c6 c7 c8
        have hvk := hv l[k] (List.getElem_mem hlt)
        have hline := outB_step r hlt
        clear hcell hcell' hv ha hck
        have hn := deV_num hvk
        have hll := lineE_len hvk
        have hol := outB_len (r := r) hv0 k
        have hgr := fun w' (h : Below w1.heap.size w1 w') => (hg.below (Nat.le_refl _) (hb01.trans (h.mono hb01.size)))
        rw [lineE_eq] at hll hline
        clear hvk hv0
        generalize l[k] = E at *
        obtain ⟨x, y, ek, e1, e2, e3, e4, e5, e6⟩ := E
        simp only [numE] at *
        obtain ⟨n0, n1, n2, n3, n4, n5, n6⟩ := hn
        have hxl : x.length ≤ 700 := by simp only [List.length_append] at hll; omega
        have hyl : y.length ≤ 700 := by simp only [List.length_append] at hll; omega
        have hdg : ∀ n : Int, 0 ≤ n ∧ n ≤ 18446744073709551615 → (dg n).length ≤ 20 := fun n h => dgI_len h
        obtain ⟨u, rfl⟩ : ∃ u : Nat, ek = u := ⟨ek.toNat, by omega⟩
        have hu : u < 18446744073709551616 := by omega
        go_wp2_with fail
        have hX : (wr.alloc (.cells #[.string ⟨⟨x⟩⟩, .string ⟨⟨y⟩⟩, .int .u64 u, .int .i64 e1, .int .i64 e2, .int .i64 e3, .int .i64 e4, .int .i64 e5, .int .i64 e6] 45)).heap[wr.heap.size]? = some (.cells #[.string ⟨⟨x⟩⟩, .string ⟨⟨y⟩⟩, .int .u64 u, .int .i64 e1, .int .i64 e2, .int .i64 e3, .int .i64 e4, .int .i64 e5, .int .i64 e6] 45 (0, 0)) := heap_alloc_new wr _
        have hBx := isB_kept hB ((Below.refl _ wr).alloc (Nat.le_refl _) (.cells #[.string ⟨⟨x⟩⟩, .string ⟨⟨y⟩⟩, .int .u64 u, .int .i64 e1, .int .i64 e2, .int .i64 e3, .int .i64 e4, .int .i64 e5, .int .i64 e6] 45))
        have hbx := hbel.alloc hbel.size (.cells #[.string ⟨⟨x⟩⟩, .string ⟨⟨y⟩⟩, .int .u64 u, .int .i64 e1, .int .i64 e2, .int .i64 e3, .int .i64 e4, .int .i64 e5, .int .i64 e6] 45)
        have hXl : w1.heap.size < wr.heap.size + 1 := by have := hbel.size; omega
        have hXn : wr.heap.size ≠ w1.heap.size := fun e => by
          have hlt : w1.heap.size < wr.heap.size := by rcases hB with h | h <;> exact h.lt
          omega
        generalize wr.alloc _ = wx at *
        generalize wr.heap.size = X at *
        have f0 : wx.cell? ⟨X, 0, none⟩ = some (.string ⟨⟨x⟩⟩) := by rw [Lib.cell_of_heap hX]; rfl
        have f1 : wx.cell? ⟨X, 1, none⟩ = some (.string ⟨⟨y⟩⟩) := by rw [Lib.cell_of_heap hX]; rfl
        have f2 : wx.cell? ⟨X, 2, none⟩ = some (.int .u64 u) := by rw [Lib.cell_of_heap hX]; rfl
        have hgx := hgr _ hbx
        clear c0 c1 c2 c3 c4 c5 c6 c7 c8 hB hbel hb1 hh k1 hh2 k2 h2' hb2 hb2' g0 k0
        have hXs : X < wx.heap.size := by
          rcases Nat.lt_or_ge X wx.heap.size with h' | h'
          · exact h'
          · simp [Array.getElem?_eq_none h'] at hX
        have hd0 := hdg u (by omega)
        have hz1 : ¬ 9223372036854775807 < x.length + 1 := by omega
        have hz2 : ¬ 9223372036854775807 < x.length + 1 + y.length := by omega
        have hz3 : ¬ 9223372036854775807 < x.length + 1 + y.length + 1 := by omega
        have hz4 : ¬ 9223372036854775807 < x.length + 1 + y.length + 1 + (dg u).length := by omega
        have hsz : (Lib.byteCells (outB r l k)).length + (((((⟨⟨x⟩⟩ : ByteArray) ++ ⟨#[9]⟩) ++ ⟨⟨y⟩⟩) ++ ⟨#[9]⟩) ++ ⟨⟨dg u⟩⟩ : ByteArray).size ≤ 140737488355328 := by
          have e1 : (⟨⟨x⟩⟩ : ByteArray).size = x.length := rfl
          have e2 : (⟨⟨y⟩⟩ : ByteArray).size = y.length := rfl
          have e3 : (⟨⟨dg u⟩⟩ : ByteArray).size = (dg u).length := rfl
          have e4 : (⟨#[9]⟩ : ByteArray).size = 1 := rfl
          rw [byte_len]
          simp only [ByteArray.size_append, e1, e2, e3, e4]
          omega
        have f0 : wx.drew.cell? ⟨X, 0, none⟩ = some (.string ⟨⟨x⟩⟩) := f0
        have f1 : wx.drew.cell? ⟨X, 1, none⟩ = some (.string ⟨⟨y⟩⟩) := f1
        have f2 : wx.drew.cell? ⟨X, 2, none⟩ = some (.int .u64 u) := f2
        have hXd : wx.drew.heap[X]? = _ := hX
        have hXs : X < wx.drew.heap.size := hXs
        have hgd : GW Tryz.prog wx.drew := hgx
        have hBd := isB_kept hBx (w' := wx.drew) ((Below.refl _ wx).drew)
        have hbd : Below w1.heap.size w1 wx.drew := hbx.drew
        go_cut [7, 20, 21, 22] (fun s7 s20 s21 s22 wc => s7 = .pointer (some ⟨X, 0, none⟩) ∧ s20 = .slice (some ⟨b, o, none⟩) l.length cap ∧ s21 = .int .i64 l.length ∧ s22 = .int .i64 k ∧ Lib.IsBuilderF 56 5 w1.heap.size w1.heap.size (Lib.byteCells (outB r l k ++ (x ++ [9] ++ y ++ [9] ++ dg u))) wc ∧ Below w1.heap.size w1 wc ∧ wc.heap[X]? = some (.cells #[.string ⟨⟨x⟩⟩, .string ⟨⟨y⟩⟩, .int .u64 u, .int .i64 e1, .int .i64 e2, .int .i64 e3, .int .i64 e4, .int .i64 e5, .int .i64 e6] 45 (0, 0)))
        case first =>
          go_region_held3 (fun w' => w'.cell? ⟨X, 0, none⟩ = some (.string ⟨⟨x⟩⟩) ∧ w'.cell? ⟨X, 1, none⟩ = some (.string ⟨⟨y⟩⟩) ∧ w'.cell? ⟨X, 2, none⟩ = some (.int .u64 u)) (first | exact ⟨f0, f1, f2⟩ | exact ⟨p0, p1, p2⟩ | exact ⟨q0, q1, q2⟩) (first | (go_at_call 21; refine (Tryz.fmtUintB u hu _ hgd).mono ?_; rintro e w3 ⟨rfl, hb3⟩; have hX3 := (hb3.block X hXs).trans hXd; have p0 : w3.cell? ⟨X, 0, none⟩ = some (.string ⟨⟨x⟩⟩) := (Lib.cell_of_heap hX3 0); have p1 : w3.cell? ⟨X, 1, none⟩ = some (.string ⟨⟨y⟩⟩) := (Lib.cell_of_heap hX3 1); have p2 : w3.cell? ⟨X, 2, none⟩ = some (.int .u64 u) := (Lib.cell_of_heap hX3 2)) | (go_at_call 20; refine (Tryz.WriteString_any w1.heap.size w1.heap.size (Lib.byteCells (outB r l k)) _ w3 (isB_kept hBd hb3) hsz (Nat.le_trans hbd.size hb3.size)).mono ?_; rintro e w4 ⟨rfl, h4, hb4, hk4⟩; have hX4 := hk4 X _ hX3 (fun e => hXn (Option.some.inj e)) (fun c fz h => by injection h with _ h2 _; exact absurd h2 (by decide)); have q0 : w4.cell? ⟨X, 0, none⟩ = some (.string ⟨⟨x⟩⟩) := (Lib.cell_of_heap hX4 0); have q1 : w4.cell? ⟨X, 1, none⟩ = some (.string ⟨⟨y⟩⟩) := (Lib.cell_of_heap hX4 1); have q2 : w4.cell? ⟨X, 2, none⟩ = some (.int .u64 u) := (Lib.cell_of_heap hX4 2)))
          all_goals (go_wp2_with fail; go_meet)
          all_goals exact ⟨rfl, rfl, rfl, rfl, .inr (by rw [← pre_cells]; exact h4), (hbd.trans (hb3.mono hbd.size)).trans hb4, hX4⟩
        case rest =>
          obtain ⟨rfl, rfl, rfl, rfl, h4, hb4, hX4⟩ := hcut
          generalize wc = w4 at *
          have r3 : w4.cell? ⟨X, 3, none⟩ = some (.int .i64 e1) := Lib.cell_of_heap hX4 3
          have r4 : w4.cell? ⟨X, 4, none⟩ = some (.int .i64 e2) := Lib.cell_of_heap hX4 4
          have r5 : w4.cell? ⟨X, 5, none⟩ = some (.int .i64 e3) := Lib.cell_of_heap hX4 5
          have r6 : w4.cell? ⟨X, 6, none⟩ = some (.int .i64 e4) := Lib.cell_of_heap hX4 6
          have r7 : w4.cell? ⟨X, 7, none⟩ = some (.int .i64 e5) := Lib.cell_of_heap hX4 7
          have r8 : w4.cell? ⟨X, 8, none⟩ = some (.int .i64 e6) := Lib.cell_of_heap hX4 8
          have hq : ∀ z ∈ ([e1, e2, e3, e4, e5, e6] : List Int), 0 ≤ z ∧ z ≤ 4294967295 := by
            intro z hz
            simp only [List.mem_cons, List.not_mem_nil, or_false] at hz
            rcases hz with rfl | rfl | rfl | rfl | rfl | rfl <;> assumption
          have hql : ([e1, e2, e3, e4, e5, e6] : List Int).length = 6 := rfl
          go_wp2_with fail
          have hY : (w4.alloc (.cells #[.int .i64 e1, .int .i64 e2, .int .i64 e3, .int .i64 e4, .int .i64 e5, .int .i64 e6] 3)).heap[w4.heap.size]? = some (.cells #[.int .i64 e1, .int .i64 e2, .int .i64 e3, .int .i64 e4, .int .i64 e5, .int .i64 e6] 3 (0, 0)) := heap_alloc_new w4 _
          have hBy := isB_kept h4 ((Below.refl _ w4).alloc (Nat.le_refl _) (.cells #[.int .i64 e1, .int .i64 e2, .int .i64 e3, .int .i64 e4, .int .i64 e5, .int .i64 e6] 3))
          have hby := hb4.alloc hb4.size (.cells #[.int .i64 e1, .int .i64 e2, .int .i64 e3, .int .i64 e4, .int .i64 e5, .int .i64 e6] 3)
          have hYn : w4.heap.size ≠ w1.heap.size := fun e => by
            have hlt : w1.heap.size < w4.heap.size := by rcases h4 with h | h <;> exact h.lt
            omega
          generalize w4.alloc _ = wy at *
          generalize w4.heap.size = Y at *
          replace hY : wy.heap[Y]? = some (.cells (([e1, e2, e3, e4, e5, e6] : List Int).map (Value.int .i64)).toArray 3 (0, 0)) := hY
          generalize x ++ [9] ++ y ++ [9] ++ dg u = pre at *
          generalize hQ : ([e1, e2, e3, e4, e5, e6] : List Int) = Q at *
          clear r3 r4 r5 r6 r7 r8
          go_loopw [52] (fun i wz => ∃ j : Nat, j ≤ 6 ∧ i = .int .i64 j ∧ Lib.IsBuilderF 56 5 w1.heap.size w1.heap.size (Lib.byteCells (outB r l k ++ pre ++ tabs (Q.take j))) wz ∧ Below w1.heap.size w1 wz ∧ wz.heap[Y]? = some (.cells (Q.map (Value.int .i64)).toArray 3 (0, 0))) (fun i _ => 6 - (intOf i).toNat)
          case atStart => exact ⟨0, by omega, rfl, by rw [List.take_zero]; simpa [tabs] using hBy, hby, hY⟩
          case round =>
            obtain ⟨j, hj, rfl, hBz, hbz, hYz⟩ := hrel
            by_cases hj6 : j < 6
            · have hjl : j < Q.length := by rw [hql]; exact hj6
              have hzj := hq Q[j] (List.getElem_mem hjl)
              have hst := tabs_step hjl
              have hcz : wr.cell? ⟨Y, j, none⟩ = some (.int .i64 Q[j]) := by rw [Lib.cell_of_heap hYz]; simp [hjl]
              have hdz := hdg Q[j] (by omega)
              have htl : (tabs (Q.take j)).length ≤ 21 * 6 := Nat.le_trans (tabsI_len fun z hz => by have := hq z (List.mem_of_mem_take hz); omega) (Nat.mul_le_mul_left _ (by rw [List.length_take]; omega))
              have hpl : pre.length ≤ 700 := by simp only [List.length_append] at hll; omega
              have hgz := hgr _ hbz
              have hYs : Y < wr.heap.size := by
                rcases Nat.lt_or_ge Y wr.heap.size with h' | h'
                · exact h'
                · simp [Array.getElem?_eq_none h'] at hYz
              generalize Q[j] = z at *
              have hsz : (Lib.byteCells (outB r l k ++ pre ++ tabs (Q.take j))).length + ((⟨#[9]⟩ : ByteArray) ++ ⟨⟨dg z⟩⟩ : ByteArray).size ≤ 140737488355328 := by
                have e3 : (⟨⟨dg z⟩⟩ : ByteArray).size = (dg z).length := rfl
                have e4 : (⟨#[9]⟩ : ByteArray).size = 1 := rfl
                rw [byte_len]
                simp only [ByteArray.size_append, e3, e4, List.length_append]
                omega
              go_wp2_with (first
                | (go_at_call 22; refine (Tryz.itoaB _ hzj _ hgz).mono ?_; rintro e w6 ⟨rfl, hb6⟩)
                | (go_at_call 20; refine (Tryz.WriteString_any w1.heap.size w1.heap.size _ _ w6 (isB_kept hBz hb6) hsz (Nat.le_trans hbz.size hb6.size)).mono ?_; rintro e w7 ⟨rfl, h7, hb7, hk7⟩))
              refine ⟨⟨j + 1, by omega, by simp, .inr ?_, ?_, ?_⟩, by simp [intOf]; omega⟩
              · rw [hst, ← List.append_assoc, ← tab_cells]; exact h7
              · exact (hbz.trans (hb6.mono hbz.size)).trans hb7
              · exact hk7 Y _ ((hb6.block Y hYs).trans hYz) (fun e => hYn (Option.some.inj e)) (fun c fz h => by injection h with _ h2 _; exact absurd h2 (by decide))
            · have hj6' : j = 6 := by omega
              subst hj6'
              have hall : Q.take 6 = Q := List.take_of_length_le (by omega)
              rw [hall] at hBz
              have htl : (tabs Q).length ≤ 21 * 6 := Nat.le_trans (tabsI_len fun z hz => by have := hq z hz; omega) (by rw [hql]; omega)
              have hpl : pre.length ≤ 700 := by simp only [List.length_append] at hll; omega
              have hsz : (Lib.byteCells (outB r l k ++ pre ++ tabs Q)).length + (⟨#[10]⟩ : ByteArray).size ≤ 140737488355328 := by
                have e4 : (⟨#[10]⟩ : ByteArray).size = 1 := rfl
                rw [byte_len]
                simp only [e4, List.length_append]
                omega
              go_wp2_with (go_at_call 20; refine (Tryz.WriteString_any w1.heap.size w1.heap.size _ _ _ hBz hsz hbz.size).mono ?_; rintro e w7 ⟨rfl, h7, hb7, hk7⟩)
              refine ⟨⟨k + 1, by omega, by simp, .inr ?_, hbz.trans hb7⟩, by simp [intOf]; omega⟩
              rw [hline, ← List.append_assoc, ← byte_cells_app, ← byteC10]
              exact h7
      · have hkl : k = l.length := by omega
        subst hkl
        rw [outB_all] at hB
        go_wp2_with (go_at_call 23; refine (Tryz.Builder_String_any_k w1.heap.size w1.heap.size _ _ hB hbel.size).mono ?_; rintro e w3 ⟨rfl, _, hb3, _⟩)
        go_ret2
        exact ⟨rfl, (hb01.trans (hbel.mono hb01.size)).trans (hb3.mono hb01.size)⟩
  · have hD : dumpS r l = ([], dbC r l) := by rw [dumpS, if_neg hC]
    rw [hD]
    have hck := fun w hg ha => db_check r l hl hr hs sv cap hc w hg ha
    generalize dbC r l = E at *
    clear hD hs
    go_enter Tryz.func7, Tryz.ntmps7
    go_wp2_with (go_at_call 19; refine (hck _ (hg.alloc _) (ha.kept (Nat.le_refl _) ((Below.refl _ w).alloc (Nat.le_refl _) _))).mono ?_; rintro e w1 ⟨rfl, hb1⟩)
    have hb01 : Below w.heap.size w w1 := ((Below.refl _ w).alloc (Nat.le_refl _) _).trans (hb1.mono (dump_sz w _))
    go_ret2
    exact ⟨rfl, hb01⟩
end Go.Sx

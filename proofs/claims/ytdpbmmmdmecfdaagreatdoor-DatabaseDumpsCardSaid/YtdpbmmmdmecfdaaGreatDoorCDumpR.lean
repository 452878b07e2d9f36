/-
  Contracts of the document's functions for dumps of databases: numerals, Dump, split, number, entry, Load.
-/
import Derived.Test.YtdpbmmmdmecfdaaGreatDoorPX1
import Derived.Test.YtdpbmmmdmecfdaaGreatDoorCDbD
import Derived.Test.YtdpbmmmdmecfdaaGreatDoorPX2
set_option linter.all false
namespace Go.Sx
open Go.Proofs Go.RowKit
theorem quoK_u64 {a b : Int} {K : Int → Prop} (h : 0 ≤ a ∧ 0 < b ∧ a ≤ 18446744073709551615) (hk : K (a / b)) : quoK .u64 a b K := by
  refine ⟨by omega, ?_⟩
  rw [Int.tdiv_eq_ediv_of_nonneg h.1, wrap_u64]
  · exact hk
  · have h1 : 0 ≤ a / b := Int.ediv_nonneg h.1 (by omega)
    have h2 : a / b ≤ a := Int.ediv_le_self b h.1
    omega
theorem bytesK_1 {x : UInt8} {K : List UInt8 → Prop} (h : K [x]) : bytesK [.i .u8 (x.toNat : Int)] K := bytesK_map (l := [x]) h
theorem dig_byte (n : Nat) : UInt8.ofNat (48 + n % 10) = byteOf (48 + (n : Int) % 10) := by
  unfold byteOf
  congr 1
  omega
theorem dg_len {n : Int} (h : 0 ≤ n ∧ n < 10 ^ 19) : (dg n).length ≤ 19 := dec_len (n := n.toNat) (k := 19) (by omega) (by decide)
theorem dumpS_no {r : List UInt8} {l : List DE} (h : ¬ dbC r l = 0) : dumpS r l = ([], dbC r l) := by rw [dumpS, if_neg h]
theorem dumpS_ok {r : List UInt8} {l : List DE} (h : dbC r l = 0) : dumpS r l = (dumpB r l, 0) := by rw [dumpS, if_pos h]
theorem lines_snoc (r : List UInt8) {l : List DE} {j : Nat} (h : j < l.length) : r ++ [10] ++ ((l.take (j + 1)).map fun e => lineE e ++ [10]).flatten = r ++ [10] ++ ((l.take j).map fun e => lineE e ++ [10]).flatten ++ (l.getD j de0).x ++ [9] ++ (l.getD j de0).y ++ [9] ++ dg (l.getD j de0).k ++ [9] ++ dg (l.getD j de0).kv ++ [9] ++ dg (l.getD j de0).ex ++ [9] ++ dg (l.getD j de0).ml ++ [9] ++ dg (l.getD j de0).atr ++ [9] ++ dg (l.getD j de0).fl ++ [9] ++ dg (l.getD j de0).un ++ [10] := by
  rw [List.take_succ_eq_append_getElem h, List.map_append, List.flatten_append, List.map_singleton, List.flatten_singleton, show l.getD j de0 = l[j] from by rw [List.getD_eq_getElem?_getD, List.getElem?_eq_getElem h]; rfl, lineE, colE]
  simp only [joi, List.append_assoc, List.cons_append, List.nil_append]
theorem lines_all (r : List UInt8) (l : List DE) : r ++ [10] ++ ((l.take l.length).map fun e => lineE e ++ [10]).flatten = dumpB r l := by rw [List.take_length, dumpB_eq]
noncomputable def g25 : Par := par 18 (nthLL [[0], [0, 3], [0, 3, 11], [2], [2]]) [2, 3] (nthLL [])
noncomputable def g8 : Par := par 74 (nthLL [[1], [1, 4], [1, 4, 13], [2, 3], [1, 5], [1, 5, 6], [1, 5, 6, 22], [1, 5, 6], [1, 5, 6, 7], [1, 5, 6, 7], [1, 5, 6, 8], [1, 5, 6, 8, 9], [1, 5, 6, 8, 9, 59], [1, 5, 6, 8, 9], [1, 5, 6, 8, 9], [1, 5, 6], [2, 3]]) [2, 3, 4, 5] (nthLL [[], [], [], [], [], [], [], [], [], [0, 0, 2, 7, 15, 0, 32, 127, 255, 0, 512, 1536, 4095, 8191]])
set_option maxRecDepth 10000
set_option maxHeartbeats 8000000
theorem c_decimal : ∀ (n : Nat), n ≤ 18446744073709551615 → Fn Tryz.prog 25 [.o (.i .u64 (n : Int))] [] (.one (.c (.o (.s (Go.Lib.decDigits n))))) [] := by
  intro n
  induction n using Nat.strongRecOn with
  | _ n ih =>
    intro hn
    by_cases h : n < 10
    · have e : Go.Lib.decDigits n = [byteOf (48 + (n : Int) % 10)] := by rw [Go.Lib.decDigits, dif_pos h, ← dig_byte, Nat.mod_eq_of_lt h]
      rw [e]
      clear ih e
      refine Fn_intro (G := g25) (goodA rfl) (fn := Tryz.f25) rfl rfl rfl rfl rfl ?_
      (repeat' ((conv => whnf) <;> first | exact rfl | with_reducible refine boolK_dec (fun _ => ?_) (fun _ => ?_) <;> try (exfalso; omega) | refine boolK_beq (fun _ => ?_) (fun _ => ?_) <;> try (exfalso; first | omega | with_reducible contradiction) | refine boolK_bne (fun _ => ?_) (fun _ => ?_) <;> try (exfalso; first | omega | with_reducible contradiction) | (with_reducible first | refine boolK_not ?_ | refine boolK_and ?_ | refine boolK_or ?_ | refine boolK_true ?_ | refine boolK_false ?_) | refine boolK_intro (fun _ => ?_) (fun _ => ?_) <;> try (exfalso; simp_all; done) | refine jA ?_ | refine jB ?_ | refine jC ?_ | refine jD ?_ | refine jE ?_ | refine jF ?_ | refine jG ?_ | refine jH ?_ | refine jI ?_ | refine jJ ?_ | refine jK ?_ | with_reducible refine natK_lit ?_ | refine natK_of rfl ?_ | refine natK_any ?_ | refine jL ?_ | refine jM ?_ | refine jN ?_ | refine jO ?_ | refine jW ?_ | refine je ?_ | refine jf ?_ | refine jg ?_ | refine jh ?_ | refine ji ?_ | refine jj ?_ | refine jk ?_ | refine bytesK_1 ?_ | refine jy ?_ | refine ju ?_ | refine jv ?_)) <;> (try (conv => whnf))
    · have c := ih (n / 10) (by omega) (by omega)
      have e : Go.Lib.decDigits n = Go.Lib.decDigits (n / 10) ++ [byteOf (48 + (n : Int) % 10)] := by rw [Go.Lib.decDigits, dif_neg h, dig_byte]
      rw [show ((n / 10 : Nat) : Int) = (n : Int) / 10 from by omega] at c
      rw [e]
      have hD := dec_len (n := n / 10) (k := 20) (by omega) (by decide)
      clear ih e
      generalize Go.Lib.decDigits (n / 10) = D at *
      refine Fn_intro (G := g25) (goodA rfl) (fn := Tryz.f25) rfl rfl rfl rfl rfl ?_
      (repeat' ((conv => whnf) <;> first | exact rfl | with_reducible refine boolK_dec (fun _ => ?_) (fun _ => ?_) <;> try (exfalso; omega) | refine boolK_beq (fun _ => ?_) (fun _ => ?_) <;> try (exfalso; first | omega | with_reducible contradiction) | refine boolK_bne (fun _ => ?_) (fun _ => ?_) <;> try (exfalso; first | omega | with_reducible contradiction) | (with_reducible first | refine boolK_not ?_ | refine boolK_and ?_ | refine boolK_or ?_ | refine boolK_true ?_ | refine boolK_false ?_) | refine boolK_intro (fun _ => ?_) (fun _ => ?_) <;> try (exfalso; simp_all; done) | refine jA ?_ | refine jB ?_ | refine jC ?_ | refine jD ?_ | refine jE ?_ | refine jF ?_ | refine jG ?_ | refine jH ?_ | refine jI ?_ | refine jJ ?_ | refine jK ?_ | with_reducible refine natK_lit ?_ | refine natK_of rfl ?_ | refine natK_any ?_ | refine jL ?_ | refine jM ?_ | refine jN ?_ | refine jO ?_ | refine jW ?_ | refine je ?_ | refine jf ?_ | refine jg ?_ | refine jh ?_ | refine ji ?_ | refine jj ?_ | refine jk ?_ | refine callK_intro (c) ?_ | refine bytesK_1 ?_ | refine quoK_u64 (by omega) ?_ | refine jy ?_ | refine ju ?_ | refine jv ?_)) <;> (try (conv => whnf))
theorem c_dec (n : Int) (h : 0 ≤ n ∧ n ≤ 18446744073709551615) : Fn Tryz.prog 25 [.o (.i .u64 n)] [] (.one (.c (.o (.s (dg n))))) [] := by
  have c := c_decimal n.toNat (by omega)
  rw [show ((n.toNat : Nat) : Int) = n from by omega] at c
  exact c
theorem c_rDump (r : List UInt8) (l : List DE) {m : Nat} (hm : m = l.length) (hl : l.length ≤ 1000000) (hr : r.length ≤ 90000) (hs : ∀ s ∈ l, deSm 90000 s) : Fn Tryz.prog 8 [.a [.s r, .sl (flat deR l) m]] [] (.tup [.c (.o (.s (dumpS r l).1)), .c (.o (.i .i64 (dumpS r l).2))]) [] := by
  subst hm
  have cC := c_rdbCheck r l rfl hl hr hs
  by_cases hc : dbC r l = 0
  case neg =>
    rw [dumpS_no hc]
    generalize dbC r l = C at *
    refine Fn_intro (G := g8) (goodA rfl) (fn := Tryz.f8) rfl rfl rfl rfl rfl ?_
    (repeat' ((conv => whnf) <;> first | exact rfl | with_reducible refine boolK_dec (fun _ => ?_) (fun _ => ?_) <;> try (exfalso; omega) | refine boolK_beq (fun _ => ?_) (fun _ => ?_) <;> try (exfalso; first | omega | with_reducible contradiction) | refine boolK_bne (fun _ => ?_) (fun _ => ?_) <;> try (exfalso; first | omega | with_reducible contradiction) | (with_reducible first | refine boolK_not ?_ | refine boolK_and ?_ | refine boolK_or ?_ | refine boolK_true ?_ | refine boolK_false ?_) | refine boolK_intro (fun _ => ?_) (fun _ => ?_) <;> try (exfalso; simp_all; done) | refine jA ?_ | refine jB ?_ | refine jC ?_ | refine jD ?_ | refine jE ?_ | refine jF ?_ | refine jG ?_ | refine jH ?_ | refine jI ?_ | refine jJ ?_ | refine jK ?_ | with_reducible refine natK_lit ?_ | refine natK_of rfl ?_ | refine natK_any ?_ | refine jP ?_ | refine jQ ?_ | refine jR ?_ | refine jS ?_ | refine jT ?_ | refine jU (fun _ => ?_) | refine jV ?_ | refine jW ?_ | refine je ?_ | refine jf ?_ | refine jg ?_ | refine jh ?_ | refine ji ?_ | refine jj ?_ | refine jk ?_ | refine callK_intro (cC) ?_ | refine jy ?_ | refine ju ?_ | refine jv ?_)) <;> (try (conv => whnf))
  obtain ⟨_, _, hv, _⟩ := dbC_un hc
  rw [dumpS_ok hc]
  rw [hc] at cC
  have hall := lines_all r l
  generalize dumpB r l = D at *
  refine Fn_intro (G := g8) (goodA rfl) (fn := Tryz.f8) rfl rfl rfl rfl rfl ?_
  (repeat' ((conv => whnf) <;> first | exact rfl | with_reducible refine boolK_dec (fun _ => ?_) (fun _ => ?_) <;> try (exfalso; omega) | refine boolK_beq (fun _ => ?_) (fun _ => ?_) <;> try (exfalso; first | omega | with_reducible contradiction) | refine boolK_bne (fun _ => ?_) (fun _ => ?_) <;> try (exfalso; first | omega | with_reducible contradiction) | (with_reducible first | refine boolK_not ?_ | refine boolK_and ?_ | refine boolK_or ?_ | refine boolK_true ?_ | refine boolK_false ?_) | refine boolK_intro (fun _ => ?_) (fun _ => ?_) <;> try (exfalso; simp_all; done) | refine jA ?_ | refine jB ?_ | refine jC ?_ | refine jD ?_ | refine jE ?_ | refine jF ?_ | refine jG ?_ | refine jH ?_ | refine jI ?_ | refine jJ ?_ | refine jK ?_ | with_reducible refine natK_lit ?_ | refine natK_of rfl ?_ | refine natK_any ?_ | refine jP ?_ | refine jQ ?_ | refine jR ?_ | refine jS ?_ | refine jT ?_ | refine jU (fun _ => ?_) | refine jV ?_ | refine jW ?_ | refine je ?_ | refine jf ?_ | refine jg ?_ | refine jh ?_ | refine ji ?_ | refine jj ?_ | refine jk ?_ | refine callK_intro (cC) ?_ | refine jy ?_ | refine ju ?_ | refine jv ?_)) <;> (try (conv => whnf))
  refine loopK_inv (G := g8) (fun k st => ∃ (j : Nat) (S : List UInt8), k + j = l.length ∧ r ++ [10] ++ ((l.take j).map fun e => lineE e ++ [10]).flatten = S ∧ S.length ≤ r.length + 1 + j * 700 ∧
    st = ⟨[(1, .c (.o (.p 1 0))), (5, .c (.o (.s S))), (6, .c (.o (.i .i64 (j : Int))))], [(1, .st [.s r, .sl (flat deR l) l.length])]⟩) (n := l.length) ⟨0, r ++ [10], by omega, by simp, by simp, rfl⟩ ?_
  rintro k st ⟨j, S, hj, hS, hSl, rfl⟩
  by_cases hjl : j < l.length
  · obtain ⟨n0, n1, n2, n3, n4, n5, n6⟩ := deV_num (hv _ (getD_mem (d := de0) hjl))
    have hsn := lines_snoc r hjl
    rw [hS] at hsn
    have hsm := (deV_small (hv _ (getD_mem (d := de0) hjl))).1
    generalize hE : l.getD j de0 = E at *
    obtain ⟨lx, ly, _⟩ := hsm
    have d0 := c_dec E.k (by omega)
    have d1 := c_dec E.kv (by omega)
    have d2 := c_dec E.ex (by omega)
    have d3 := c_dec E.ml (by omega)
    have d4 := c_dec E.atr (by omega)
    have d5 := c_dec E.fl (by omega)
    have d6 := c_dec E.un (by omega)
    have m0 := dg_len (n := E.k) (by omega)
    have m1 := dg_len (n := E.kv) (by omega)
    have m2 := dg_len (n := E.ex) (by omega)
    have m3 := dg_len (n := E.ml) (by omega)
    have m4 := dg_len (n := E.atr) (by omega)
    have m5 := dg_len (n := E.fl) (by omega)
    have m6 := dg_len (n := E.un) (by omega)
    generalize dg E.k = D0 at *
    generalize dg E.kv = D1 at *
    generalize dg E.ex = D2 at *
    generalize dg E.ml = D3 at *
    generalize dg E.atr = D4 at *
    generalize dg E.fl = D5 at *
    generalize dg E.un = D6 at *
    clear hall hv hs
    (repeat' ((conv => whnf) <;> first | refine natK_of (j := j) (by omega) ?_ | refine natK_of (j := 0) (by omega) ?_ | refine natK_of (j := 1) (by omega) ?_ | refine natK_of (j := 2) (by omega) ?_ | refine natK_of (j := 3) (by omega) ?_ | refine natK_of (j := 4) (by omega) ?_ | refine natK_of (j := 5) (by omega) ?_ | exact rfl | with_reducible refine boolK_dec (fun _ => ?_) (fun _ => ?_) <;> try (exfalso; omega) | refine boolK_beq (fun _ => ?_) (fun _ => ?_) <;> try (exfalso; first | omega | with_reducible contradiction) | refine boolK_bne (fun _ => ?_) (fun _ => ?_) <;> try (exfalso; first | omega | with_reducible contradiction) | (with_reducible first | refine boolK_not ?_ | refine boolK_and ?_ | refine boolK_or ?_ | refine boolK_true ?_ | refine boolK_false ?_) | refine boolK_intro (fun _ => ?_) (fun _ => ?_) <;> try (exfalso; simp_all; done) | refine jA ?_ | refine jB ?_ | refine jC ?_ | refine jD ?_ | refine jE ?_ | refine jF ?_ | refine jG ?_ | refine jH ?_ | refine jI ?_ | refine jJ ?_ | refine jK ?_ | with_reducible refine natK_lit ?_ | refine natK_of rfl ?_ | refine natK_any ?_ | refine jP ?_ | refine jQ ?_ | refine jR ?_ | refine jS ?_ | refine jT ?_ | refine jU (fun _ => ?_) | refine jV ?_ | refine jW ?_ | refine je ?_ | refine jf ?_ | refine jg ?_ | refine jh ?_ | refine ji ?_ | refine jj ?_ | refine jk ?_ | refine callK_intro (d0) ?_ | refine callK_intro (d1) ?_ | refine callK_intro (d2) ?_ | refine callK_intro (d3) ?_ | refine callK_intro (d4) ?_ | refine callK_intro (d5) ?_ | refine callK_intro (d6) ?_ | refine headS_deE (by first | rfl | omega) hE hjl ?_ | exact ⟨k - 1, by omega, j + 1, _, by omega, hsn, by simp only [List.length_append, List.length_cons, List.length_nil]; omega, rfl⟩ | refine loopK_step (G := g8) ?_ | refine jy ?_ | refine ju ?_ | refine jv ?_)) <;> (try (conv => whnf))
  · have : j = l.length := by omega
    subst this
    rw [hall] at hS
    subst hS
    (repeat' ((conv => whnf) <;> first | exact rfl | with_reducible refine boolK_dec (fun _ => ?_) (fun _ => ?_) <;> try (exfalso; omega) | refine boolK_beq (fun _ => ?_) (fun _ => ?_) <;> try (exfalso; first | omega | with_reducible contradiction) | refine boolK_bne (fun _ => ?_) (fun _ => ?_) <;> try (exfalso; first | omega | with_reducible contradiction) | (with_reducible first | refine boolK_not ?_ | refine boolK_and ?_ | refine boolK_or ?_ | refine boolK_true ?_ | refine boolK_false ?_) | refine boolK_intro (fun _ => ?_) (fun _ => ?_) <;> try (exfalso; simp_all; done) | refine jA ?_ | refine jB ?_ | refine jC ?_ | refine jD ?_ | refine jE ?_ | refine jF ?_ | refine jG ?_ | refine jH ?_ | refine jI ?_ | refine jJ ?_ | refine jK ?_ | with_reducible refine natK_lit ?_ | refine natK_of rfl ?_ | refine natK_any ?_ | refine jP ?_ | refine jQ ?_ | refine jR ?_ | refine jS ?_ | refine jT ?_ | refine jU (fun _ => ?_) | refine jV ?_ | refine jW ?_ | refine je ?_ | refine jf ?_ | refine jg ?_ | refine jh ?_ | refine ji ?_ | refine jj ?_ | refine jk ?_ | refine jy ?_ | refine ju ?_ | refine jv ?_)) <;> (try (conv => whnf))
end Go.Sx

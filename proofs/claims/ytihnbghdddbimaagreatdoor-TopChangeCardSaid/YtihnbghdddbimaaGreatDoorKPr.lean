/-
  What is known of the library's functions that the computed evaluator does not walk.
-/
import Derived.Test.YtihnbghdddbimaaGreatDoorSxD
import Derived.Test.YtihnbghdddbimaaGreatDoorKTb
import Derived.Lib.BytesEntry
import Derived.Lib.IndexLaws
set_option linter.all false
namespace Go.Sx
open Go.Proofs Go.RowKit
noncomputable def g265 : Par := par 10 (nthLL [[0, 1], [4]]) [4] (nthLL [])
noncomputable def g259 : Par := par 27 (nthLL [[0, 1], [0, 1, 6], [0, 1], [0, 1], [0, 1, 16], [0], [4]]) [0, 4] (nthLL [])
noncomputable def g177 : Par := par 36 (nthLL [[0], [0, 3], [0, 3, 9, 10, 11], [0, 3, 9, 10, 11, 12], [0, 3, 5, 9, 10, 11], [0, 3, 9, 10, 11], [0, 3, 9, 10, 11, 20], [0, 3, 9, 10, 11], [0, 3, 9, 10, 11], [0, 6], [6, 25, 26, 27], [6, 25, 26, 27, 28], [6, 8, 25, 26, 27], [6, 25, 26, 27], [6, 25, 26, 27], [2]]) [2, 6] (nthLL [])
set_option maxRecDepth 10000
set_option maxHeartbeats 2000000

theorem c_indexByte0 (b : List UInt8) {n : Nat} (hn : n = b.length) (c : UInt8) : Fn Tryz.prog 379 [.o (.sl (b.map u8) n), .o (.i .u8 (c.toNat : Int))] [] (.one (.c (.o (.i .i64 (Lib.indexByte b c))))) [] := by
  subst hn
  intro w Bx hlt μ vs hsb hdom hr
  have hl := hr.1
  match vs, hl with
  | [v, u], _ =>
    have hv : RelL Bx w μ (.sl (b.map u8) b.length) v := hr.2 0 _ v rfl rfl
    have hu : RelL Bx w μ (.i .u8 (c.toNat : Int)) u := hr.2 1 _ u rfl rfl
    have hu := hu.int
    subst hu
    clear hr
    have hc : (c.toNat : Int).toNat.toUInt8 = c := by simp
    have hrun : (Extern.BytealgIndexByte.indexByte #[v, .int .u8 (c.toNat : Int)]).run Tryz.prog w = .ok (.int .i64 (Lib.indexByte b c)) w := by
      generalize hcs : b.map u8 = cs at hv
      generalize hn : b.length = n at hv
      cases hv with
      | @sl0 _ a cap =>
        have hb : b = [] := List.eq_nil_of_length_eq_zero hn
        subst hb
        have hs := Lib.run_indexByteString (P := Tryz.prog) .empty (c.toNat : Int) w
        cases a with
        | none => exact hs
        | some a => exact hs
      | @sl _ b0 o _ cap _ vs hB hl hv hr hle =>
        have key := Lib.run_indexByteSlice (P := Tryz.prog) w b0 o n cap (b.map fun x => (x.toNat : Int)) (by simp [hn]) (fun i hi => by
          have hib : i < b.length := by omega
          have h1 : cs[i]? = some (u8 b[i]) := by rw [← hcs]; simp [hib]
          have h2 : i < vs.length := by rw [← hl, ← hcs]; simpa using hib
          have h3 := hr i _ vs[i] h1 (List.getElem?_eq_getElem h2)
          have h4 := (hv i vs[i] (List.getElem?_eq_getElem h2)).1
          have h3 : RelL Bx w noMu (.i .u8 (b[i].toNat : Int)) vs[i] := h3
          rw [h4, h3.int]
          simp [List.getD_eq_getElem?_getD, hib]) (c.toNat : Int)
        have hbo : Lib.bytesOf (b.map fun x => (x.toNat : Int)) = b := by
          unfold Lib.bytesOf
          rw [List.map_map]
          conv => rhs; rw [← List.map_id b]
          exact List.map_congr_left fun x _ => by simp
        rw [hbo, hc] at key
        exact key
    unfold CallsV
    rw [run_callFunc_extern (e := Extern.BytealgIndexByte.indexByte) Tryz.func379 (by kernel_rfl) rfl (by kernel_rfl) (by kernel_rfl), hrun]
    exact ⟨_, rfl, post_leaf hlt (Below.refl _ _) fun _ _ _ => RelL.i⟩

theorem c_indexByteS0 (s : List UInt8) (c : UInt8) : Fn Tryz.prog 386 [.o (.s s), .o (.i .u8 (c.toNat : Int))] [] (.one (.c (.o (.i .i64 (Lib.indexByte s c))))) [] := by
  intro w Bx hlt μ vs hsb hdom hr
  have hl := hr.1
  match vs, hl with
  | [v, u], _ =>
    have hv : RelL Bx w μ (.s s) v := hr.2 0 _ v rfl rfl
    have hu : RelL Bx w μ (.i .u8 (c.toNat : Int)) u := hr.2 1 _ u rfl rfl
    have hu := hu.int
    subst hu
    clear hr
    have hc : (c.toNat : Int).toNat.toUInt8 = c := by simp
    cases hv
    have hrun := Lib.run_indexByteString (P := Tryz.prog) ⟨⟨s⟩⟩ (c.toNat : Int) w
    rw [hc] at hrun
    unfold CallsV
    rw [run_callFunc_extern (e := Extern.BytealgIndexByte.indexByte) Tryz.func386 (by kernel_rfl) rfl (by kernel_rfl) (by kernel_rfl), hrun]
    exact ⟨_, rfl, post_leaf hlt (Below.refl _ _) fun _ _ _ => RelL.i⟩

theorem c_cmp0 (s t : List UInt8) : Fn Tryz.prog 376 [.o (.s s), .o (.s t)] [] (.one (.c (.o (.i .i64 (Lib.compareBytes s t))))) [] := by
  intro w Bx hlt μ vs hsb hdom hr
  have hl := hr.1
  match vs, hl with
  | [v, u], _ =>
    have hv : RelL Bx w μ (.s s) v := hr.2 0 _ v rfl rfl
    have hu : RelL Bx w μ (.s t) u := hr.2 1 _ u rfl rfl
    clear hr
    cases hv
    cases hu
    have hrun := Lib.run_compareString (P := Tryz.prog) ⟨⟨s⟩⟩ ⟨⟨t⟩⟩ w
    unfold CallsV
    rw [run_callFunc_extern (e := Extern.BytealgCompare.compare) Tryz.func376 (by kernel_rfl) rfl (by kernel_rfl) (by kernel_rfl), hrun]
    exact ⟨_, rfl, post_leaf hlt (Below.refl _ _) fun _ _ _ => RelL.i⟩

theorem c_Equal (a b : List UInt8) {m n : Nat} (hm : m = a.length) (hn : n = b.length) : Fn Tryz.prog 265 [.o (.sl (a.map u8) m), .o (.sl (b.map u8) n)] [] (.one (.c (.o (.b (a == b))))) [] := by
  refine Fn_intro (G := g265) (goodA rfl) (fn := Tryz.f265) rfl rfl rfl rfl rfl ?_
  (exact zC)

theorem c_grow (k : Int) (h : 0 ≤ k ∧ k ≤ 1000000) : Fn Tryz.prog 259 [.o .nl, .o (.i .i64 k)] [] (.one (.fr [] 0 1)) [] := by
  refine Fn_intro (G := g259) (goodA rfl) (fn := Tryz.f259) rfl rfl rfl rfl rfl ?_
  (repeat' ((conv => whnf) <;> first | exact rfl | refine zA ?_ | refine both.mk (fun _ => ?_) (fun _ => ?_) <;> try (exfalso; first | omega | with_reducible contradiction) | refine boolK_intro (fun _ => ?_) (fun _ => ?_) <;> try (exfalso; simp_all; done) | refine takeC_of (c := []) (by simp) ?_ | (refine eitherK_r ?_; (conv => whnf); refine sideK_intro (by omega) ?_) | refine sideK_intro (by first | omega | (exact ⟨rfl, rfl, rfl⟩) | (exact ⟨rfl, rfl⟩) | (simp; done)) ?_ | refine zB ?_ | intro _)) <;> (try (conv => whnf))

theorem headV_gen {ls : List (List L)} {j : Nat} {K : List L → Nat → List L → Prop} (h : j < ls.length) (hk : K (ls.getD j []) (ls.getD j []).length ((ls.drop (j + 1)).map fun b => .sl b b.length)) : headV ((ls.map fun b => L.sl b b.length).drop (j * 1)) K := by
  refine ⟨_, _, _, ?_, hk⟩
  rw [Nat.mul_one, ← List.map_drop, List.drop_eq_getElem_cons h, List.map_cons]
  simp [List.getD_eq_getElem?_getD, h]

theorem c_concat (ls : List (List L)) {n : Nat} (hn : n = ls.length) (hb : ls.flatten.length ≤ 1000000) (hl : ls.length ≤ 1000) : Fn Tryz.prog 177 [.o (.sl (ls.map fun b => .sl b b.length) n)] [] (.one (.fr ls.flatten ls.flatten.length 1)) [] := by
  subst hn
  have hpart : ∀ j, (ls.take j).flatten.length ≤ ls.flatten.length := fun j => by
    conv => rhs; rw [← List.take_append_drop j ls, List.flatten_append, List.length_append]
    omega
  have hnext : ∀ j, j < ls.length → (ls.take (j + 1)).flatten = (ls.take j).flatten ++ ls.getD j [] := fun j hj => by
    rw [List.take_succ_eq_append_getElem hj, List.flatten_append]
    simp [List.getD_eq_getElem?_getD, hj]
  refine Fn_intro (G := g177) (goodA rfl) (fn := Tryz.f177) rfl rfl rfl rfl rfl ?_
  conv => whnf
  refine loopK_inv (G := g177) (fun n st => ∃ (j m : Nat), n + j = ls.length ∧ m = (ls.take j).flatten.length ∧
    st = ⟨[(0, .c (.o (.sl (ls.map fun b => .sl b b.length) ls.length))), (3, .c (.o (.i .i64 (m : Int)))), (9, .c (.o (.sl (ls.map fun b => .sl b b.length) ls.length))), (10, .c (.o (.i .i64 (ls.length : Int)))), (11, .c (.o (.i .i64 (j : Int))))], []⟩) (n := ls.length) ⟨0, 0, by simp, by simp, rfl⟩ ?_
  rintro n st ⟨j, m, hj, hm, rfl⟩
  have hpj := hpart j
  have hx : j < ls.length → m + (ls.getD j []).length ≤ 1000000 := fun h => by have := hpart (j + 1); rw [hnext j h, List.length_append] at this; omega
  (repeat' ((conv => whnf) <;> first | exact rfl | refine zA ?_ | refine both.mk (fun _ => ?_) (fun _ => ?_) <;> try (exfalso; first | omega | with_reducible contradiction) | refine boolK_intro (fun _ => ?_) (fun _ => ?_) <;> try (exfalso; simp_all; done) | refine callK_intro (c_grow _ (by omega)) ?_ | refine nlK_nl ?_ | refine headV_gen (by omega) ?_ | exact ⟨n - 1, by omega, j + 1, m + (ls.getD j []).length, by omega, by rw [hnext j (by omega), List.length_append, hm], rfl⟩ | refine sideK_intro (by first | omega | (simp; omega)) ?_ | refine zB ?_ | intro _)) <;> (try (conv => whnf))
  conv => whnf
  refine loopK_inv (G := g177) (fun n st => ∃ (j m : Nat), n + j = ls.length ∧ m = (ls.take j).flatten.length ∧
    st = ⟨[(6, .c (.o (.gw 6 m 1))), (25, .c (.o (.sl (ls.map fun b => .sl b b.length) ls.length))), (26, .c (.o (.i .i64 (ls.length : Int)))), (27, .c (.o (.i .i64 (j : Int))))], [(6, .ar (ls.take j).flatten)]⟩) (n := ls.length) ⟨0, 0, by simp, by simp, rfl⟩ ?_
  rintro n st ⟨j, m, hj, hm, rfl⟩
  have hpj := hpart j
  have hx : j < ls.length → m + (ls.getD j []).length ≤ 1000000 := fun h => by have := hpart (j + 1); rw [hnext j h, List.length_append] at this; omega
  (repeat' ((conv => whnf) <;> first | exact rfl | refine zA ?_ | refine both.mk (fun _ => ?_) (fun _ => ?_) <;> try (exfalso; first | omega | with_reducible contradiction) | refine boolK_intro (fun _ => ?_) (fun _ => ?_) <;> try (exfalso; simp_all; done) | refine headV_gen (by omega) ?_ | exact ⟨n - 1, by omega, j + 1, m + (ls.getD j []).length, by omega, by rw [hnext j (by omega), List.length_append, hm], by rw [hnext j (by omega)]; rfl⟩ | refine zB ?_ | refine sideK_intro (by first | (have : j = ls.length := (by omega); subst this; rw [List.take_length] at hm ⊢; exact ⟨rfl, hm.symm, rfl⟩)) ?_ | intro _)) <;> (try (conv => whnf))

theorem cln_24 (a : Option Addr) (cap : Nat) (w : World) : Calls Tryz.prog 24 #[.slice a 0 cap] w fun e w' => (∃ a, e = .returned (.slice a 0 0)) ∧ Below w.heap.size w w' := by
  cases a with
  | none =>
    have he := eq_nil_yes Tryz.prog 26 83 Tryz.underlying26 0 cap
    go_enter Tryz.func24, Tryz.ntmps24
    go_wp2
    go_ret
    exact ⟨⟨_, rfl⟩, Below.refl _ _⟩
  | some ad =>
    have he := eq_nil_no Tryz.prog 26 83 Tryz.underlying26 ad 0 cap
    go_enter Tryz.func24, Tryz.ntmps24
    go_wp2
    go_ret
    exact ⟨⟨_, rfl⟩, (Below.refl _ _).alloc (Nat.le_refl _) _⟩
theorem cln_25 (a : Option Addr) (cap : Nat) (w : World) : Calls Tryz.prog 25 #[.slice a 0 cap] w fun e w' => (∃ a, e = .returned (.slice a 0 0)) ∧ Below w.heap.size w w' := by
  cases a with
  | none =>
    have he := eq_nil_yes Tryz.prog 27 113 Tryz.underlying27 0 cap
    go_enter Tryz.func25, Tryz.ntmps25
    go_wp2
    go_ret
    exact ⟨⟨_, rfl⟩, Below.refl _ _⟩
  | some ad =>
    have he := eq_nil_no Tryz.prog 27 113 Tryz.underlying27 ad 0 cap
    go_enter Tryz.func25, Tryz.ntmps25
    go_wp2
    go_ret
    exact ⟨⟨_, rfl⟩, (Below.refl _ _).alloc (Nat.le_refl _) _⟩
theorem cln_26 (a : Option Addr) (cap : Nat) (w : World) : Calls Tryz.prog 26 #[.slice a 0 cap] w fun e w' => (∃ a, e = .returned (.slice a 0 0)) ∧ Below w.heap.size w w' := by
  cases a with
  | none =>
    have he := eq_nil_yes Tryz.prog 28 100 Tryz.underlying28 0 cap
    go_enter Tryz.func26, Tryz.ntmps26
    go_wp2
    go_ret
    exact ⟨⟨_, rfl⟩, Below.refl _ _⟩
  | some ad =>
    have he := eq_nil_no Tryz.prog 28 100 Tryz.underlying28 ad 0 cap
    go_enter Tryz.func26, Tryz.ntmps26
    go_wp2
    go_ret
    exact ⟨⟨_, rfl⟩, (Below.refl _ _).alloc (Nat.le_refl _) _⟩
theorem cln_27 (a : Option Addr) (cap : Nat) (w : World) : Calls Tryz.prog 27 #[.slice a 0 cap] w fun e w' => (∃ a, e = .returned (.slice a 0 0)) ∧ Below w.heap.size w w' := by
  cases a with
  | none =>
    have he := eq_nil_yes Tryz.prog 29 55 Tryz.underlying29 0 cap
    go_enter Tryz.func27, Tryz.ntmps27
    go_wp2
    go_ret
    exact ⟨⟨_, rfl⟩, Below.refl _ _⟩
  | some ad =>
    have he := eq_nil_no Tryz.prog 29 55 Tryz.underlying29 ad 0 cap
    go_enter Tryz.func27, Tryz.ntmps27
    go_wp2
    go_ret
    exact ⟨⟨_, rfl⟩, (Below.refl _ _).alloc (Nat.le_refl _) _⟩
theorem cln_28 (a : Option Addr) (cap : Nat) (w : World) : Calls Tryz.prog 28 #[.slice a 0 cap] w fun e w' => (∃ a, e = .returned (.slice a 0 0)) ∧ Below w.heap.size w w' := by
  cases a with
  | none =>
    have he := eq_nil_yes Tryz.prog 30 120 Tryz.underlying30 0 cap
    go_enter Tryz.func28, Tryz.ntmps28
    go_wp2
    go_ret
    exact ⟨⟨_, rfl⟩, Below.refl _ _⟩
  | some ad =>
    have he := eq_nil_no Tryz.prog 30 120 Tryz.underlying30 ad 0 cap
    go_enter Tryz.func28, Tryz.ntmps28
    go_wp2
    go_ret
    exact ⟨⟨_, rfl⟩, (Below.refl _ _).alloc (Nat.le_refl _) _⟩
theorem cln_35 (a : Option Addr) (cap : Nat) (w : World) : Calls Tryz.prog 35 #[.slice a 0 cap] w fun e w' => (∃ a, e = .returned (.slice a 0 0)) ∧ Below w.heap.size w w' := by
  cases a with
  | none =>
    have he := eq_nil_yes Tryz.prog 31 132 Tryz.underlying31 0 cap
    go_enter Tryz.func35, Tryz.ntmps35
    go_wp2
    go_ret
    exact ⟨⟨_, rfl⟩, Below.refl _ _⟩
  | some ad =>
    have he := eq_nil_no Tryz.prog 31 132 Tryz.underlying31 ad 0 cap
    go_enter Tryz.func35, Tryz.ntmps35
    go_wp2
    go_ret
    exact ⟨⟨_, rfl⟩, (Below.refl _ _).alloc (Nat.le_refl _) _⟩
theorem cln_36 (a : Option Addr) (cap : Nat) (w : World) : Calls Tryz.prog 36 #[.slice a 0 cap] w fun e w' => (∃ a, e = .returned (.slice a 0 0)) ∧ Below w.heap.size w w' := by
  cases a with
  | none =>
    have he := eq_nil_yes Tryz.prog 36 98 Tryz.underlying36 0 cap
    go_enter Tryz.func36, Tryz.ntmps36
    go_wp2
    go_ret
    exact ⟨⟨_, rfl⟩, Below.refl _ _⟩
  | some ad =>
    have he := eq_nil_no Tryz.prog 36 98 Tryz.underlying36 ad 0 cap
    go_enter Tryz.func36, Tryz.ntmps36
    go_wp2
    go_ret
    exact ⟨⟨_, rfl⟩, (Below.refl _ _).alloc (Nat.le_refl _) _⟩
theorem cln_77 (a : Option Addr) (cap : Nat) (w : World) : Calls Tryz.prog 77 #[.slice a 0 cap] w fun e w' => (∃ a, e = .returned (.slice a 0 0)) ∧ Below w.heap.size w w' := by
  cases a with
  | none =>
    have he := eq_nil_yes Tryz.prog 57 5 Tryz.underlying57 0 cap
    go_enter Tryz.func77, Tryz.ntmps77
    go_wp2
    go_ret
    exact ⟨⟨_, rfl⟩, Below.refl _ _⟩
  | some ad =>
    have he := eq_nil_no Tryz.prog 57 5 Tryz.underlying57 ad 0 cap
    go_enter Tryz.func77, Tryz.ntmps77
    go_wp2
    go_ret
    exact ⟨⟨_, rfl⟩, (Below.refl _ _).alloc (Nat.le_refl _) _⟩
theorem cln_179 (a : Option Addr) (cap : Nat) (w : World) : Calls Tryz.prog 179 #[.slice a 0 cap] w fun e w' => (∃ a, e = .returned (.slice a 0 0)) ∧ Below w.heap.size w w' := by
  cases a with
  | none =>
    have he := eq_nil_yes Tryz.prog 76 117 Tryz.underlying76 0 cap
    go_enter Tryz.func179, Tryz.ntmps179
    go_wp2
    go_ret
    exact ⟨⟨_, rfl⟩, Below.refl _ _⟩
  | some ad =>
    have he := eq_nil_no Tryz.prog 76 117 Tryz.underlying76 ad 0 cap
    go_enter Tryz.func179, Tryz.ntmps179
    go_wp2
    go_ret
    exact ⟨⟨_, rfl⟩, (Below.refl _ _).alloc (Nat.le_refl _) _⟩
theorem cln_180 (a : Option Addr) (cap : Nat) (w : World) : Calls Tryz.prog 180 #[.slice a 0 cap] w fun e w' => (∃ a, e = .returned (.slice a 0 0)) ∧ Below w.heap.size w w' := by
  cases a with
  | none =>
    have he := eq_nil_yes Tryz.prog 77 284 Tryz.underlying77 0 cap
    go_enter Tryz.func180, Tryz.ntmps180
    go_wp2
    go_ret
    exact ⟨⟨_, rfl⟩, Below.refl _ _⟩
  | some ad =>
    have he := eq_nil_no Tryz.prog 77 284 Tryz.underlying77 ad 0 cap
    go_enter Tryz.func180, Tryz.ntmps180
    go_wp2
    go_ret
    exact ⟨⟨_, rfl⟩, (Below.refl _ _).alloc (Nat.le_refl _) _⟩
theorem cln_217 (a : Option Addr) (cap : Nat) (w : World) : Calls Tryz.prog 217 #[.slice a 0 cap] w fun e w' => (∃ a, e = .returned (.slice a 0 0)) ∧ Below w.heap.size w w' := by
  cases a with
  | none =>
    have he := eq_nil_yes Tryz.prog 118 96 Tryz.underlying118 0 cap
    go_enter Tryz.func217, Tryz.ntmps217
    go_wp2
    go_ret
    exact ⟨⟨_, rfl⟩, Below.refl _ _⟩
  | some ad =>
    have he := eq_nil_no Tryz.prog 118 96 Tryz.underlying118 ad 0 cap
    go_enter Tryz.func217, Tryz.ntmps217
    go_wp2
    go_ret
    exact ⟨⟨_, rfl⟩, (Below.refl _ _).alloc (Nat.le_refl _) _⟩
theorem cln_228 (a : Option Addr) (cap : Nat) (w : World) : Calls Tryz.prog 228 #[.slice a 0 cap] w fun e w' => (∃ a, e = .returned (.slice a 0 0)) ∧ Below w.heap.size w w' := by
  cases a with
  | none =>
    have he := eq_nil_yes Tryz.prog 32 43 Tryz.underlying32 0 cap
    go_enter Tryz.func228, Tryz.ntmps228
    go_wp2
    go_ret
    exact ⟨⟨_, rfl⟩, Below.refl _ _⟩
  | some ad =>
    have he := eq_nil_no Tryz.prog 32 43 Tryz.underlying32 ad 0 cap
    go_enter Tryz.func228, Tryz.ntmps228
    go_wp2
    go_ret
    exact ⟨⟨_, rfl⟩, (Below.refl _ _).alloc (Nat.le_refl _) _⟩
theorem cln_229 (a : Option Addr) (cap : Nat) (w : World) : Calls Tryz.prog 229 #[.slice a 0 cap] w fun e w' => (∃ a, e = .returned (.slice a 0 0)) ∧ Below w.heap.size w w' := by
  cases a with
  | none =>
    have he := eq_nil_yes Tryz.prog 33 57 Tryz.underlying33 0 cap
    go_enter Tryz.func229, Tryz.ntmps229
    go_wp2
    go_ret
    exact ⟨⟨_, rfl⟩, Below.refl _ _⟩
  | some ad =>
    have he := eq_nil_no Tryz.prog 33 57 Tryz.underlying33 ad 0 cap
    go_enter Tryz.func229, Tryz.ntmps229
    go_wp2
    go_ret
    exact ⟨⟨_, rfl⟩, (Below.refl _ _).alloc (Nat.le_refl _) _⟩
theorem cln_312 (a : Option Addr) (cap : Nat) (w : World) : Calls Tryz.prog 312 #[.slice a 0 cap] w fun e w' => (∃ a, e = .returned (.slice a 0 0)) ∧ Below w.heap.size w w' := by
  cases a with
  | none =>
    have he := eq_nil_yes Tryz.prog 53 195 Tryz.underlying53 0 cap
    go_enter Tryz.func312, Tryz.ntmps312
    go_wp2
    go_ret
    exact ⟨⟨_, rfl⟩, Below.refl _ _⟩
  | some ad =>
    have he := eq_nil_no Tryz.prog 53 195 Tryz.underlying53 ad 0 cap
    go_enter Tryz.func312, Tryz.ntmps312
    go_wp2
    go_ret
    exact ⟨⟨_, rfl⟩, (Below.refl _ _).alloc (Nat.le_refl _) _⟩
theorem cln_381 (a : Option Addr) (cap : Nat) (w : World) : Calls Tryz.prog 381 #[.slice a 0 cap] w fun e w' => (∃ a, e = .returned (.slice a 0 0)) ∧ Below w.heap.size w w' := by
  cases a with
  | none =>
    have he := eq_nil_yes Tryz.prog 73 87 Tryz.underlying73 0 cap
    go_enter Tryz.func381, Tryz.ntmps381
    go_wp2
    go_ret
    exact ⟨⟨_, rfl⟩, Below.refl _ _⟩
  | some ad =>
    have he := eq_nil_no Tryz.prog 73 87 Tryz.underlying73 ad 0 cap
    go_enter Tryz.func381, Tryz.ntmps381
    go_wp2
    go_ret
    exact ⟨⟨_, rfl⟩, (Below.refl _ _).alloc (Nat.le_refl _) _⟩
abbrev cmpB := Lib.compareBytes
theorem cmp_bounds : ∀ a b : List UInt8, cmpB a b = -1 ∨ cmpB a b = 0 ∨ cmpB a b = 1
  | [], [] => by simp [cmpB, Lib.compareBytes]
  | [], _ :: _ => by simp [cmpB, Lib.compareBytes]
  | _ :: _, [] => by simp [cmpB, Lib.compareBytes]
  | a :: x, b :: y => by
    have ih := cmp_bounds x y
    unfold cmpB at ih ⊢
    unfold Lib.compareBytes
    split
    · simp
    · split
      · simp
      · exact ih
theorem cmp_zero : ∀ a b : List UInt8, cmpB a b = 0 ↔ a = b
  | [], [] => by simp [cmpB, Lib.compareBytes]
  | [], _ :: _ => by simp [cmpB, Lib.compareBytes]
  | _ :: _, [] => by simp [cmpB, Lib.compareBytes]
  | a :: x, b :: y => by
    have ih := cmp_zero x y
    unfold cmpB at ih ⊢
    unfold Lib.compareBytes
    by_cases h1 : a < b
    · rw [if_pos h1]
      have : a ≠ b := fun e => by subst e; exact UInt8.lt_irrefl _ h1
      simp [this]
    · rw [if_neg h1]
      by_cases h2 : b < a
      · rw [if_pos h2]
        have : a ≠ b := fun e => by subst e; exact UInt8.lt_irrefl _ h2
        simp [this]
      · rw [if_neg h2, ih]
        have : a = b := UInt8.le_antisymm (UInt8.not_lt.mp h2) (UInt8.not_lt.mp h1)
        simp [this]
theorem cmp_less : ∀ a b : List UInt8, Op.bytesLess a b = decide (cmpB a b < 0)
  | [], [] => by simp [cmpB, Lib.compareBytes, Op.bytesLess]
  | [], _ :: _ => by simp [cmpB, Lib.compareBytes, Op.bytesLess]
  | _ :: _, [] => by simp [cmpB, Lib.compareBytes, Op.bytesLess]
  | a :: x, b :: y => by
    have ih := cmp_less x y
    unfold cmpB at ih ⊢
    unfold Lib.compareBytes Op.bytesLess
    rw [ih]
    by_cases h1 : a < b
    · simp [h1]
    · by_cases h2 : b < a
      · have : a ≠ b := fun e => by subst e; exact UInt8.lt_irrefl _ h2
        simp [h1, h2, this]
      · have : a = b := UInt8.le_antisymm (UInt8.not_lt.mp h2) (UInt8.not_lt.mp h1)
        simp [this]
theorem idxS_eq (c : UInt8) (l : List UInt8) : ∀ k : Nat, idxS c.toNat l k = if Lib.indexByte l c = -1 then -1 else Lib.indexByte l c + k := by
  induction l with
  | nil => exact fun k => rfl
  | cons a r ih =>
    intro k
    show sel (Nat.beq a.toNat c.toNat) (Int.ofNat k) (idxS c.toNat r (k + 1)) = _
    have hg := Lib.indexByte_ge r c
    rw [ih]
    rw [show Lib.indexByte (a :: r) c = if a == c then 0 else if Lib.indexByte r c == -1 then -1 else Lib.indexByte r c + 1 from rfl]
    by_cases h : a = c
    · subst h
      rw [Nat.beq_refl]
      show (k : Int) = _
      simp
    · have h1 : Nat.beq a.toNat c.toNat = false := by
        cases q : Nat.beq a.toNat c.toNat with
        | false => rfl
        | true => exact absurd (UInt8.toNat_inj.1 (Nat.eq_of_beq_eq_true q)) h
      have h2 : (a == c) = false := by simpa using h
      rw [h1, h2]
      show (if Lib.indexByte r c = -1 then -1 else Lib.indexByte r c + ((k + 1 : Nat) : Int)) = _
      simp only [Bool.false_eq_true, if_false]
      by_cases h3 : Lib.indexByte r c = -1
      · simp [h3]
      · have h6 : (Lib.indexByte r c == -1) = false := by simpa using h3
        rw [if_neg h3, h6]
        simp only [Bool.false_eq_true, if_false]
        rw [if_neg (by omega)]
        omega
theorem idxS_zero (c : UInt8) (l : List UInt8) : idxS c.toNat l 0 = Lib.indexByte l c := by
  rw [idxS_eq]
  split
  · rename_i h; exact h.symm
  · omega
theorem clR_all : clR.All fun f sz => Fn Tryz.prog f [.o (.sl [] 0)] [] (.one (.fr [] 0 sz)) [] := ⟨⟨⟨⟨trivial, fn_empty Tryz.func24 rfl rfl cln_24, trivial⟩, fn_empty Tryz.func25 rfl rfl cln_25, ⟨trivial, fn_empty Tryz.func26 rfl rfl cln_26, trivial⟩⟩, fn_empty Tryz.func27 rfl rfl cln_27, ⟨⟨trivial, fn_empty Tryz.func28 rfl rfl cln_28, trivial⟩, fn_empty Tryz.func35 rfl rfl cln_35, ⟨trivial, fn_empty Tryz.func36 rfl rfl cln_36, trivial⟩⟩⟩, fn_empty Tryz.func77 rfl rfl cln_77, ⟨⟨⟨trivial, fn_empty Tryz.func179 rfl rfl cln_179, trivial⟩, fn_empty Tryz.func180 rfl rfl cln_180, ⟨trivial, fn_empty Tryz.func217 rfl rfl cln_217, trivial⟩⟩, fn_empty Tryz.func228 rfl rfl cln_228, ⟨⟨trivial, fn_empty Tryz.func229 rfl rfl cln_229, trivial⟩, fn_empty Tryz.func312 rfl rfl cln_312, ⟨trivial, fn_empty Tryz.func381 rfl rfl cln_381, trivial⟩⟩⟩⟩
theorem primOk (R : List Rl) (A : Tr (List Fa)) (rd : List Nat) : PrimOk (kx R A rd) ⟨Fn Tryz.prog, FnX Tryz.prog, xsA⟩ where
  p1 := fun l c => by rw [idxS_zero]; exact c_indexByteS0 l c
  p2 := fun l c => by rw [idxS_zero]; exact c_indexByte0 l rfl c
  p3 := fun a b => by
    have h := c_cmp0 a b
    have e : (if a == b then 0 else if Op.bytesLess a b then -1 else 1 : Int) = Lib.compareBytes a b := by
      have h1 := cmp_bounds a b
      have h2 := cmp_zero a b
      have h3 := cmp_less a b
      by_cases q : a = b
      · rw [if_pos (by simpa using q)]; exact (h2.2 q).symm
      · rw [if_neg (by simpa using q), h3]
        have h4 : ¬ Lib.compareBytes a b = 0 := fun h => q (h2.1 h)
        by_cases h5 : Lib.compareBytes a b < 0
        · rw [if_pos (by simpa using h5)]
          have h1 : Lib.compareBytes a b = -1 ∨ Lib.compareBytes a b = 0 ∨ Lib.compareBytes a b = 1 := h1
          omega
        · rw [if_neg (by simpa using h5)]
          have h1 : Lib.compareBytes a b = -1 ∨ Lib.compareBytes a b = 0 ∨ Lib.compareBytes a b = 1 := h1
          omega
    rw [e]; exact h
  p4 := fun ls h1 h2 => c_concat ls rfl h1 h2
  p5 := fun a b => c_Equal a b rfl rfl
  cl := fun _ _ h => clR_all.find h
end Go.Sx

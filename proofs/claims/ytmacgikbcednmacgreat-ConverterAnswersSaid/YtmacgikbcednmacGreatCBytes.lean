/-
  Contracts of functions of Go's library on bytes and texts.
-/
import Derived.Test.YtmacgikbcednmacGreatSxLib
import Derived.Test.YtmacgikbcednmacGreatTa
import Derived.Lib.BytesEntry
import Derived.Lib.IndexLaws
set_option linter.all false
namespace Go.Sx
open Go.Proofs Go.RowKit
noncomputable def g140 : Par := par 8 (nthLL [[0], [0, 4], [2], [2]]) [2] (nthLL [])
noncomputable def g154 : Par := par 8 (nthLL [[0, 1], [4]]) [4] (nthLL [])
noncomputable def g144 : Par := par 27 (nthLL [[0, 1], [0, 1, 6], [0, 1], [0, 1], [0, 1, 16], [0], [4]]) [0, 4] (nthLL [])
noncomputable def g113 : Par := par 36 (nthLL [[0], [0, 3], [0, 3, 9, 10, 11], [0, 3, 9, 10, 11, 12], [0, 3, 5, 9, 10, 11], [0, 3, 9, 10, 11], [0, 3, 9, 10, 11, 20], [0, 3, 9, 10, 11], [0, 3, 9, 10, 11], [0, 6], [6, 25, 26, 27], [6, 25, 26, 27, 28], [6, 8, 25, 26, 27], [6, 25, 26, 27], [6, 25, 26, 27], [2]]) [2, 6] (nthLL [])
set_option maxRecDepth 10000
set_option maxHeartbeats 2000000
theorem clone_empty (a : Option Addr) (cap : Nat) (w : World) : Calls Tryz.prog 140 #[.slice a 0 cap] w fun e w' => (∃ a, e = .returned (.slice a 0 0)) ∧ Below w.heap.size w w' := by
  cases a with
  | none =>
    have he := eq_nil_yes Tryz.prog 25 5 Tryz.underlying25 0 cap
    go_enter Tryz.func140, Tryz.ntmps140
    go_wp2
    go_ret
    exact ⟨⟨_, rfl⟩, Below.refl _ _⟩
  | some ad =>
    have he := eq_nil_no Tryz.prog 25 5 Tryz.underlying25 ad 0 cap
    go_enter Tryz.func140, Tryz.ntmps140
    go_wp2
    go_ret
    exact ⟨⟨_, rfl⟩, (Below.refl _ _).alloc (Nat.le_refl _) _⟩

theorem c_clone (b : List UInt8) {n : Nat} (hn : n = b.length) (hb : b.length ≤ 1000000) : Fn Tryz.prog 140 [.o (.sl (b.map u8) n)] [] (.one (.fr (b.map u8) b.length 1)) [] := by
  subst hn
  by_cases h0 : b.length = 0
  · have : b = [] := List.eq_nil_of_length_eq_zero h0
    subst this
    exact fn_empty Tryz.func140 rfl rfl clone_empty
  · refine Fn_intro (G := g140) (goodA rfl) (fn := Tryz.f140) rfl rfl rfl rfl rfl ?_
    (repeat' ((conv => whnf) <;> first | exact rfl | with_reducible refine boolK_dec (fun _ => ?_) (fun _ => ?_) <;> try (exfalso; omega) | refine boolK_beq (fun _ => ?_) (fun _ => ?_) <;> try (exfalso; first | omega | with_reducible contradiction) | refine boolK_bne (fun _ => ?_) (fun _ => ?_) <;> try (exfalso; first | omega | with_reducible contradiction) | (with_reducible first | refine boolK_not ?_ | refine boolK_and ?_ | refine boolK_or ?_ | refine boolK_true ?_ | refine boolK_false ?_) | refine boolK_intro (fun _ => ?_) (fun _ => ?_) <;> try (exfalso; simp_all; done) | with_reducible refine natK_lit ?_ | refine natK_of rfl ?_ | refine natK_any ?_ | refine jP ?_ | refine jQ ?_ | refine jR ?_ | refine jS ?_ | refine jT ?_ | refine jU (fun _ => ?_) | refine jV ?_ | refine jX ?_ | refine jY ?_ | refine jZ ?_ | refine ja ?_ | refine jb ?_ | refine jc ?_ | refine jd ?_ | refine je ?_ | refine jf ?_ | refine jg ?_ | refine jh ?_ | refine ji ?_ | refine jj ?_ | refine jk ?_ | refine jn ?_ | refine jo ?_ | refine jp ?_ | refine jq ?_ | refine jr ?_ | refine js ?_ | refine jt ?_ | refine jy ?_ | refine sideK_intro (by first | omega | rfl | (simp; omega) | (simp; done)) ?_ | refine jv ?_)) <;> (try (conv => whnf))

/-- the library's function without a body that looks for a byte -/
theorem c_indexByte0 (b : List UInt8) {n : Nat} (hn : n = b.length) (c : UInt8) : Fn Tryz.prog 156 [.o (.sl (b.map u8) n), .o (.i .u8 (c.toNat : Int))] [] (.one (.c (.o (.i .i64 (Lib.indexByte b c))))) [] := by
  subst hn
  intro w Bx hlt μ vs hsb hdom hr
  have hl := hr.1
  match vs, hl with
  | [v, u], _ =>
    have hv : RelL Bx w μ (.sl (b.map u8) b.length) v := hr.2 0 _ v rfl rfl
    have hu : RelL Bx w μ (.i .u8 (c.toNat : Int)) u := hr.2 1 _ u rfl rfl
    have hu := hu.int
    subst hu
    clear hr
    have hc : (c.toNat : Int).toNat.toUInt8 = c := by simp
    have hrun : (Extern.BytealgIndexByte.indexByte #[v, .int .u8 (c.toNat : Int)]).run Tryz.prog w = .ok (.int .i64 (Lib.indexByte b c)) w := by
      generalize hcs : b.map u8 = cs at hv
      generalize hn : b.length = n at hv
      cases hv with
      | @sl0 _ a cap =>
        have hb : b = [] := List.eq_nil_of_length_eq_zero hn
        subst hb
        have hs := Lib.run_indexByteString (P := Tryz.prog) .empty (c.toNat : Int) w
        cases a with
        | none => exact hs
        | some a => exact hs
      | @sl _ b0 o _ cap _ vs hB hl hv hr hle =>
        have key := Lib.run_indexByteSlice (P := Tryz.prog) w b0 o n cap (b.map fun x => (x.toNat : Int)) (by simp [hn]) (fun i hi => by
          have hib : i < b.length := by omega
          have h1 : cs[i]? = some (u8 b[i]) := by rw [← hcs]; simp [hib]
          have h2 : i < vs.length := by rw [← hl, ← hcs]; simpa using hib
          have h3 := hr i _ vs[i] h1 (List.getElem?_eq_getElem h2)
          have h4 := (hv i vs[i] (List.getElem?_eq_getElem h2)).1
          have h3 : RelL Bx w noMu (.i .u8 (b[i].toNat : Int)) vs[i] := h3
          rw [h4, h3.int]
          simp [List.getD_eq_getElem?_getD, hib]) (c.toNat : Int)
        have hbo : Lib.bytesOf (b.map fun x => (x.toNat : Int)) = b := by
          unfold Lib.bytesOf
          rw [List.map_map]
          conv => rhs; rw [← List.map_id b]
          exact List.map_congr_left fun x _ => by simp
        rw [hbo, hc] at key
        exact key
    unfold CallsV
    rw [run_callFunc_extern (e := Extern.BytealgIndexByte.indexByte) Tryz.func156 (by kernel_rfl) rfl (by kernel_rfl) (by kernel_rfl), hrun]
    exact ⟨_, rfl, post_leaf hlt (Below.refl _ _) fun _ _ _ => RelL.i⟩

theorem c_indexByte (b : List UInt8) {n : Nat} (hn : n = b.length) (c : UInt8) : Fn Tryz.prog 154 [.o (.sl (b.map u8) n), .o (.i .u8 (c.toNat : Int))] [] (.one (.c (.o (.i .i64 (Lib.indexByte b c))))) [] := by
  subst hn
  refine Fn_intro (G := g154) (goodA rfl) (fn := Tryz.f154) rfl rfl rfl rfl rfl ?_
  (repeat' ((conv => whnf) <;> first | exact rfl | with_reducible refine boolK_dec (fun _ => ?_) (fun _ => ?_) <;> try (exfalso; omega) | refine boolK_beq (fun _ => ?_) (fun _ => ?_) <;> try (exfalso; first | omega | with_reducible contradiction) | refine boolK_bne (fun _ => ?_) (fun _ => ?_) <;> try (exfalso; first | omega | with_reducible contradiction) | (with_reducible first | refine boolK_not ?_ | refine boolK_and ?_ | refine boolK_or ?_ | refine boolK_true ?_ | refine boolK_false ?_) | refine boolK_intro (fun _ => ?_) (fun _ => ?_) <;> try (exfalso; simp_all; done) | with_reducible refine natK_lit ?_ | refine natK_of rfl ?_ | refine natK_any ?_ | refine callK_intro (c_indexByte0 _ rfl _) ?_ | refine jy ?_ | refine sideK_intro (by rfl) ?_ | refine jv ?_)) <;> (try (conv => whnf))

theorem c_grow (k : Int) (h : 0 ≤ k ∧ k ≤ 1000000) : Fn Tryz.prog 144 [.o .nl, .o (.i .i64 k)] [] (.one (.fr [] 0 1)) [] := by
  refine Fn_intro (G := g144) (goodA rfl) (fn := Tryz.f144) rfl rfl rfl rfl rfl ?_
  (repeat' ((conv => whnf) <;> first | exact rfl | with_reducible refine boolK_dec (fun _ => ?_) (fun _ => ?_) <;> try (exfalso; omega) | refine boolK_beq (fun _ => ?_) (fun _ => ?_) <;> try (exfalso; first | omega | with_reducible contradiction) | refine boolK_bne (fun _ => ?_) (fun _ => ?_) <;> try (exfalso; first | omega | with_reducible contradiction) | (with_reducible first | refine boolK_not ?_ | refine boolK_and ?_ | refine boolK_or ?_ | refine boolK_true ?_ | refine boolK_false ?_) | refine boolK_intro (fun _ => ?_) (fun _ => ?_) <;> try (exfalso; simp_all; done) | refine jA ?_ | refine jB ?_ | refine jH ?_ | refine jI ?_ | refine jJ ?_ | refine jK ?_ | with_reducible refine natK_lit ?_ | refine natK_of rfl ?_ | refine natK_any ?_ | refine jP ?_ | refine jQ ?_ | refine jR ?_ | refine jS ?_ | refine jT ?_ | refine jU (fun _ => ?_) | refine jV ?_ | refine jX ?_ | refine jY ?_ | refine jZ ?_ | refine ja ?_ | refine jb ?_ | refine jc ?_ | refine jd ?_ | refine jn ?_ | refine jo ?_ | refine jp ?_ | refine jq ?_ | refine jr ?_ | refine js ?_ | refine takeC_of (c := []) (by simp) ?_ | (refine eitherK_r ?_; (conv => whnf); refine sideK_intro (by omega) ?_) | refine jt ?_ | refine jx ?_ | refine jy ?_ | refine sideK_intro (by first | omega | (exact ⟨rfl, rfl, rfl⟩) | (exact ⟨rfl, rfl⟩) | (simp; done)) ?_ | refine jv ?_)) <;> (try (conv => whnf))

/-- the joined bytes of some slices -/
theorem c_concat (ls : List (List UInt8)) {n : Nat} (hn : n = ls.length) (hb : ls.flatten.length ≤ 1000000) (hl : ls.length ≤ 1000) : Fn Tryz.prog 113 [.o (.sl (ls.map fun b => .sl (b.map u8) b.length) n)] [] (.one (.fr (ls.flatten.map u8) ls.flatten.length 1)) [] := by
  subst hn
  have hpart : ∀ j, (ls.take j).flatten.length ≤ ls.flatten.length := fun j => by
    conv => rhs; rw [← List.take_append_drop j ls, List.flatten_append, List.length_append]
    omega
  have hnext : ∀ j, j < ls.length → (ls.take (j + 1)).flatten = (ls.take j).flatten ++ ls.getD j [] := fun j hj => by
    rw [List.take_succ_eq_append_getElem hj, List.flatten_append]
    simp [List.getD_eq_getElem?_getD, hj]
  refine Fn_intro (G := g113) (goodA rfl) (fn := Tryz.f113) rfl rfl rfl rfl rfl ?_
  conv => whnf
  refine loopK_inv (G := g113) (fun n st => ∃ (j m : Nat), n + j = ls.length ∧ m = (ls.take j).flatten.length ∧
    st = ⟨[(0, .c (.o (.sl (ls.map fun b => .sl (b.map u8) b.length) ls.length))), (3, .c (.o (.i .i64 (m : Int)))), (9, .c (.o (.sl (ls.map fun b => .sl (b.map u8) b.length) ls.length))), (10, .c (.o (.i .i64 (ls.length : Int)))), (11, .c (.o (.i .i64 (j : Int))))], []⟩) (n := ls.length) ⟨0, 0, by simp, by simp, rfl⟩ ?_
  rintro n st ⟨j, m, hj, hm, rfl⟩
  have hpj := hpart j
  have hx : j < ls.length → m + (ls.getD j []).length ≤ 1000000 := fun h => by have := hpart (j + 1); rw [hnext j h, List.length_append] at this; omega
  (repeat' ((conv => whnf) <;> first | exact rfl | with_reducible refine boolK_dec (fun _ => ?_) (fun _ => ?_) <;> try (exfalso; omega) | refine boolK_beq (fun _ => ?_) (fun _ => ?_) <;> try (exfalso; first | omega | with_reducible contradiction) | refine boolK_bne (fun _ => ?_) (fun _ => ?_) <;> try (exfalso; first | omega | with_reducible contradiction) | (with_reducible first | refine boolK_not ?_ | refine boolK_and ?_ | refine boolK_or ?_ | refine boolK_true ?_ | refine boolK_false ?_) | refine boolK_intro (fun _ => ?_) (fun _ => ?_) <;> try (exfalso; simp_all; done) | refine jA ?_ | refine jB ?_ | refine jH ?_ | refine jI ?_ | refine jJ ?_ | refine jK ?_ | with_reducible refine natK_lit ?_ | refine natK_of rfl ?_ | refine natK_any ?_ | refine jP ?_ | refine jQ ?_ | refine jR ?_ | refine jS ?_ | refine jT ?_ | refine jU (fun _ => ?_) | refine jV ?_ | refine jX ?_ | refine jY ?_ | refine jZ ?_ | refine ja ?_ | refine jb ?_ | refine jc ?_ | refine jd ?_ | refine jn ?_ | refine jo ?_ | refine jp ?_ | refine jq ?_ | refine jr ?_ | refine js ?_ | refine callK_intro (c_grow _ (by omega)) ?_ | refine nlK_nl ?_ | refine headV_bytes (by omega) ?_ | exact ⟨n - 1, by omega, j + 1, m + (ls.getD j []).length, by omega, by rw [hnext j (by omega), List.length_append, hm], rfl⟩ | refine jt ?_ | refine jy ?_ | refine sideK_intro (by first | omega | (simp; omega)) ?_ | refine jv ?_)) <;> (try (conv => whnf))
  conv => whnf
  refine loopK_inv (G := g113) (fun n st => ∃ (j m : Nat), n + j = ls.length ∧ m = (ls.take j).flatten.length ∧
    st = ⟨[(6, .c (.o (.gw 6 m 1))), (25, .c (.o (.sl (ls.map fun b => .sl (b.map u8) b.length) ls.length))), (26, .c (.o (.i .i64 (ls.length : Int)))), (27, .c (.o (.i .i64 (j : Int))))], [(6, .ar ((ls.take j).flatten.map u8))]⟩) (n := ls.length) ⟨0, 0, by simp, by simp, rfl⟩ ?_
  rintro n st ⟨j, m, hj, hm, rfl⟩
  have hpj := hpart j
  have hx : j < ls.length → m + (ls.getD j []).length ≤ 1000000 := fun h => by have := hpart (j + 1); rw [hnext j h, List.length_append] at this; omega
  (repeat' ((conv => whnf) <;> first | exact rfl | with_reducible refine boolK_dec (fun _ => ?_) (fun _ => ?_) <;> try (exfalso; omega) | refine boolK_beq (fun _ => ?_) (fun _ => ?_) <;> try (exfalso; first | omega | with_reducible contradiction) | refine boolK_bne (fun _ => ?_) (fun _ => ?_) <;> try (exfalso; first | omega | with_reducible contradiction) | (with_reducible first | refine boolK_not ?_ | refine boolK_and ?_ | refine boolK_or ?_ | refine boolK_true ?_ | refine boolK_false ?_) | refine boolK_intro (fun _ => ?_) (fun _ => ?_) <;> try (exfalso; simp_all; done) | refine jA ?_ | refine jB ?_ | refine jH ?_ | refine jI ?_ | refine jJ ?_ | refine jK ?_ | with_reducible refine natK_lit ?_ | refine natK_of rfl ?_ | refine natK_any ?_ | refine jP ?_ | refine jQ ?_ | refine jR ?_ | refine jS ?_ | refine jT ?_ | refine jU (fun _ => ?_) | refine jV ?_ | refine jX ?_ | refine jY ?_ | refine jZ ?_ | refine ja ?_ | refine jb ?_ | refine jc ?_ | refine jd ?_ | refine jn ?_ | refine jo ?_ | refine jp ?_ | refine jq ?_ | refine jr ?_ | refine js ?_ | refine headV_bytes (by omega) ?_ | exact ⟨n - 1, by omega, j + 1, m + (ls.getD j []).length, by omega, by rw [hnext j (by omega), List.length_append, hm], by rw [hnext j (by omega)]; rfl⟩ | refine jt ?_ | refine jy ?_ | refine ju ?_ | refine sideK_intro (by first | (have : j = ls.length := (by omega); subst this; rw [List.take_length] at hm ⊢; exact ⟨rfl, hm.symm, rfl⟩)) ?_ | refine jv ?_)) <;> (try (conv => whnf))

theorem c_concat2 (a b : List UInt8) {m n : Nat} (hm : m = a.length) (hn : n = b.length) (h : a.length + b.length ≤ 900000) : Fn Tryz.prog 113 [.o (.sl [.sl (a.map u8) m, .sl (b.map u8) n] 2)] [] (.one (.fr ((a ++ b).map u8) (a.length + b.length) 1)) [] := by
  subst hm; subst hn
  have c := c_concat [a, b] rfl (by simp; omega) (by simp)
  have e : [a, b].flatten = a ++ b := by simp
  rw [e, List.length_append] at c
  exact c
end Go.Sx

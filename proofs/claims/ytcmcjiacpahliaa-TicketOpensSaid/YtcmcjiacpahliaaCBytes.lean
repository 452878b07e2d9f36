/-
  Contracts of functions of Go's library on bytes and texts.
-/
import Derived.Test.YtcmcjiacpahliaaSxLib
import Derived.Test.YtcmcjiacpahliaaTa
import Derived.Lib.BytesEntry
import Derived.Lib.IndexLaws
set_option linter.all false
namespace Go.Sx
open Go.Proofs Go.RowKit
noncomputable def g166 : Par := par 8 (nthLL [[0], [0, 4], [2], [2]]) [2] (nthLL [])
noncomputable def g168 : Par := par 8 (nthLL [[0, 1], [4]]) [4] (nthLL [])
noncomputable def g162 : Par := par 27 (nthLL [[0, 1], [0, 1, 6], [0, 1], [0, 1], [0, 1, 16], [0], [4]]) [0, 4] (nthLL [])
noncomputable def g109 : Par := par 36 (nthLL [[0], [0, 3], [0, 3, 9, 10, 11], [0, 3, 9, 10, 11, 12], [0, 3, 5, 9, 10, 11], [0, 3, 9, 10, 11], [0, 3, 9, 10, 11, 20], [0, 3, 9, 10, 11], [0, 3, 9, 10, 11], [0, 6], [6, 25, 26, 27], [6, 25, 26, 27, 28], [6, 8, 25, 26, 27], [6, 25, 26, 27], [6, 25, 26, 27], [2]]) [2, 6] (nthLL [])
set_option maxRecDepth 10000
set_option maxHeartbeats 2000000
theorem clone_empty (a : Option Addr) (cap : Nat) (w : World) : Calls Try.prog 166 #[.slice a 0 cap] w fun e w' => (∃ a, e = .returned (.slice a 0 0)) ∧ Below w.heap.size w w' := by
  cases a with
  | none =>
    have he := eq_nil_yes Try.prog 41 5 Try.underlying41 0 cap
    go_enter Try.func166, Try.ntmps166
    go_wp2
    go_ret
    exact ⟨⟨_, rfl⟩, Below.refl _ _⟩
  | some ad =>
    have he := eq_nil_no Try.prog 41 5 Try.underlying41 ad 0 cap
    go_enter Try.func166, Try.ntmps166
    go_wp2
    go_ret
    exact ⟨⟨_, rfl⟩, (Below.refl _ _).alloc (Nat.le_refl _) _⟩

theorem c_clone (b : List UInt8) {n : Nat} (hn : n = b.length) (hb : b.length ≤ 1000000) : Fn Try.prog 166 [.o (.sl (b.map u8) n)] [] (.one (.fr (b.map u8) b.length 1)) [] := by
  subst hn
  by_cases h0 : b.length = 0
  · have : b = [] := List.eq_nil_of_length_eq_zero h0
    subst this
    exact fn_empty Try.func166 rfl rfl clone_empty
  · refine Fn_intro (G := g166) (goodA rfl) (fn := Try.f166) rfl rfl rfl rfl rfl ?_
    (repeat' ((conv => whnf) <;>
           first
           | exact rfl
           | with_reducible refine boolK_dec (fun _ => ?_) (fun _ => ?_) <;> try (exfalso; omega)
           | refine boolK_beq (fun _ => ?_) (fun _ => ?_) <;> try (exfalso; first | omega | contradiction)
           | refine boolK_bne (fun _ => ?_) (fun _ => ?_) <;> try (exfalso; first | omega | contradiction)
           | with_reducible refine boolK_not ?_
           | with_reducible refine boolK_and ?_
           | with_reducible refine boolK_or ?_
           | with_reducible refine boolK_true ?_
           | with_reducible refine boolK_false ?_
           | refine boolK_intro (fun _ => ?_) (fun _ => ?_) <;> try (exfalso; simp_all; done)
           | refine wrapK_i64 (by omega) ?_
           | refine wrapK_u8 (by omega) ?_
           | refine convK_i64 (by omega) ?_
           | refine convK_byte ?_
           | refine convK_u64 (by omega) ?_
           | refine convK_u16 (by omega) ?_
           | refine convK_u32 (by omega) ?_
           | refine wrapK_byte ?_
           | refine wrapK_u64 (by omega) ?_
           | refine wrapK_u32 (by omega) ?_
           | refine wrapK_u16 (by omega) ?_
           | with_reducible refine natK_lit ?_
           | refine natK_of rfl ?_
           | refine natK_any ?_
           | refine quoK_i64 (by omega) ?_
           | refine quoK_u8 (by omega) ?_
           | refine quoK_u16 (by omega) ?_
           | refine remK_pos (by omega) ?_
           | refine headI_cons ?_
           | refine headS_cons ?_
           | refine headB_cons ?_
           | refine headV_cons ?_
           | refine headX_cons ?_
           | refine headI_u8 (by first | omega | (simp; omega)) (fun _ => ?_)
           | refine headI_ints (by first | omega | (simp; omega)) ?_
           | refine bytesK_map ?_
           | refine catK_nil ?_
           | refine catK_nil' ?_
           | refine catK_u8 ?_
           | refine catK_one ?_
           | refine catK_lit (by omega) ?_
           | refine catK_ints ?_
           | refine catK_int1 ?_
           | refine packK_u8 ?_
           | refine packK_0 ?_
           | refine packK_1 (by omega) ?_
           | refine packK_2 (by omega) (by omega) ?_
           | refine packK_3 (by omega) (by omega) (by omega) ?_
           | refine packK_4 (by omega) (by omega) (by omega) (by omega) ?_
           | refine packK_any ?_
           | refine shrK_8 0 (by omega) rfl (by omega) ?_
           | refine shrK_8 1 (by omega) rfl (by omega) ?_
           | refine shrK_8 2 (by omega) rfl (by omega) ?_
           | refine shrK_8 3 (by omega) rfl (by omega) ?_
           | refine shlK_8 (by omega) (by omega) ?_
           | refine bitK_or8 (by omega) (by omega) ?_
           | refine nilK_no (by omega) ?_
           | refine takeC_u8 ?_
           | refine dropC_u8 ?_
           | refine dropC_zero ?_
           | refine takeC_any ?_
           | refine dropC_any ?_
           | refine catK_any ?_
           | refine eitherK_l ?_
           | refine nlK_sl ?_
           | refine sideK_intro (by first | omega | rfl | (simp; omega) | (simp; done)) ?_
           | refine drawK_intro (by kernel_rfl) (by kernel_rfl) ?_)) <;> (try (conv => whnf))

/-- the library's function without a body that looks for a byte -/
theorem c_indexByte0 (b : List UInt8) {n : Nat} (hn : n = b.length) (c : UInt8) : Fn Try.prog 180 [.o (.sl (b.map u8) n), .o (.i .u8 (c.toNat : Int))] [] (.one (.c (.o (.i .i64 (Lib.indexByte b c))))) [] := by
  subst hn
  intro w Bx hlt μ vs hsb hdom hr
  have hl := hr.1
  match vs, hl with
  | [v, u], _ =>
    have hv : RelL Bx w μ (.sl (b.map u8) b.length) v := hr.2 0 _ v rfl rfl
    have hu : RelL Bx w μ (.i .u8 (c.toNat : Int)) u := hr.2 1 _ u rfl rfl
    have hu := hu.int
    subst hu
    clear hr
    have hc : (c.toNat : Int).toNat.toUInt8 = c := by simp
    have hrun : (Extern.BytealgIndexByte.indexByte #[v, .int .u8 (c.toNat : Int)]).run Try.prog w = .ok (.int .i64 (Lib.indexByte b c)) w := by
      generalize hcs : b.map u8 = cs at hv
      generalize hn : b.length = n at hv
      cases hv with
      | @sl0 _ a cap =>
        have hb : b = [] := List.eq_nil_of_length_eq_zero hn
        subst hb
        have hs := Lib.run_indexByteString (P := Try.prog) .empty (c.toNat : Int) w
        cases a with
        | none => exact hs
        | some a => exact hs
      | @sl _ b0 o _ cap _ vs hB hl hv hr hle =>
        have key := Lib.run_indexByteSlice (P := Try.prog) w b0 o n cap (b.map fun x => (x.toNat : Int)) (by simp [hn]) (fun i hi => by
          have hib : i < b.length := by omega
          have h1 : cs[i]? = some (u8 b[i]) := by rw [← hcs]; simp [hib]
          have h2 : i < vs.length := by rw [← hl, ← hcs]; simpa using hib
          have h3 := hr i _ vs[i] h1 (List.getElem?_eq_getElem h2)
          have h4 := (hv i vs[i] (List.getElem?_eq_getElem h2)).1
          have h3 : RelL Bx w noMu (.i .u8 (b[i].toNat : Int)) vs[i] := h3
          rw [h4, h3.int]
          simp [List.getD_eq_getElem?_getD, hib]) (c.toNat : Int)
        have hbo : Lib.bytesOf (b.map fun x => (x.toNat : Int)) = b := by
          unfold Lib.bytesOf
          rw [List.map_map]
          conv => rhs; rw [← List.map_id b]
          exact List.map_congr_left fun x _ => by simp
        rw [hbo, hc] at key
        exact key
    unfold CallsV
    rw [run_callFunc_extern (e := Extern.BytealgIndexByte.indexByte) Try.func180 (by kernel_rfl) rfl (by kernel_rfl) (by kernel_rfl), hrun]
    exact ⟨_, rfl, post_leaf hlt (Below.refl _ _) fun _ _ _ => RelL.i⟩

theorem c_indexByte (b : List UInt8) {n : Nat} (hn : n = b.length) (c : UInt8) : Fn Try.prog 168 [.o (.sl (b.map u8) n), .o (.i .u8 (c.toNat : Int))] [] (.one (.c (.o (.i .i64 (Lib.indexByte b c))))) [] := by
  subst hn
  refine Fn_intro (G := g168) (goodA rfl) (fn := Try.f168) rfl rfl rfl rfl rfl ?_
  (repeat' ((conv => whnf) <;>
           first
           | exact rfl
           | with_reducible refine boolK_dec (fun _ => ?_) (fun _ => ?_) <;> try (exfalso; omega)
           | refine boolK_beq (fun _ => ?_) (fun _ => ?_) <;> try (exfalso; first | omega | contradiction)
           | refine boolK_bne (fun _ => ?_) (fun _ => ?_) <;> try (exfalso; first | omega | contradiction)
           | with_reducible refine boolK_not ?_
           | with_reducible refine boolK_and ?_
           | with_reducible refine boolK_or ?_
           | with_reducible refine boolK_true ?_
           | with_reducible refine boolK_false ?_
           | refine boolK_intro (fun _ => ?_) (fun _ => ?_) <;> try (exfalso; simp_all; done)
           | refine wrapK_i64 (by omega) ?_
           | refine wrapK_u8 (by omega) ?_
           | refine convK_i64 (by omega) ?_
           | refine convK_byte ?_
           | refine convK_u64 (by omega) ?_
           | refine convK_u16 (by omega) ?_
           | refine convK_u32 (by omega) ?_
           | refine wrapK_byte ?_
           | refine wrapK_u64 (by omega) ?_
           | refine wrapK_u32 (by omega) ?_
           | refine wrapK_u16 (by omega) ?_
           | with_reducible refine natK_lit ?_
           | refine natK_of rfl ?_
           | refine natK_any ?_
           | refine quoK_i64 (by omega) ?_
           | refine quoK_u8 (by omega) ?_
           | refine quoK_u16 (by omega) ?_
           | refine remK_pos (by omega) ?_
           | refine headI_cons ?_
           | refine headS_cons ?_
           | refine headB_cons ?_
           | refine headV_cons ?_
           | refine headX_cons ?_
           | refine headI_u8 (by first | omega | (simp; omega)) (fun _ => ?_)
           | refine headI_ints (by first | omega | (simp; omega)) ?_
           | refine bytesK_map ?_
           | refine catK_nil ?_
           | refine catK_nil' ?_
           | refine catK_u8 ?_
           | refine catK_one ?_
           | refine catK_lit (by omega) ?_
           | refine catK_ints ?_
           | refine catK_int1 ?_
           | refine packK_u8 ?_
           | refine packK_0 ?_
           | refine packK_1 (by omega) ?_
           | refine packK_2 (by omega) (by omega) ?_
           | refine packK_3 (by omega) (by omega) (by omega) ?_
           | refine packK_4 (by omega) (by omega) (by omega) (by omega) ?_
           | refine packK_any ?_
           | refine shrK_8 0 (by omega) rfl (by omega) ?_
           | refine shrK_8 1 (by omega) rfl (by omega) ?_
           | refine shrK_8 2 (by omega) rfl (by omega) ?_
           | refine shrK_8 3 (by omega) rfl (by omega) ?_
           | refine shlK_8 (by omega) (by omega) ?_
           | refine bitK_or8 (by omega) (by omega) ?_
           | refine nilK_no (by omega) ?_
           | refine takeC_u8 ?_
           | refine dropC_u8 ?_
           | refine dropC_zero ?_
           | refine takeC_any ?_
           | refine dropC_any ?_
           | refine callK_intro (c_indexByte0 _ rfl _) ?_
           | refine catK_any ?_
           | refine eitherK_l ?_
           | refine nlK_sl ?_
           | refine sideK_intro (by rfl) ?_
           | refine drawK_intro (by kernel_rfl) (by kernel_rfl) ?_)) <;> (try (conv => whnf))

theorem c_grow (k : Int) (h : 0 ≤ k ∧ k ≤ 1000000) : Fn Try.prog 162 [.o .nl, .o (.i .i64 k)] [] (.one (.fr [] 0 1)) [] := by
  refine Fn_intro (G := g162) (goodA rfl) (fn := Try.f162) rfl rfl rfl rfl rfl ?_
  (repeat' ((conv => whnf) <;>
           first
           | exact rfl
           | with_reducible refine boolK_dec (fun _ => ?_) (fun _ => ?_) <;> try (exfalso; omega)
           | refine boolK_beq (fun _ => ?_) (fun _ => ?_) <;> try (exfalso; first | omega | contradiction)
           | refine boolK_bne (fun _ => ?_) (fun _ => ?_) <;> try (exfalso; first | omega | contradiction)
           | with_reducible refine boolK_not ?_
           | with_reducible refine boolK_and ?_
           | with_reducible refine boolK_or ?_
           | with_reducible refine boolK_true ?_
           | with_reducible refine boolK_false ?_
           | refine boolK_intro (fun _ => ?_) (fun _ => ?_) <;> try (exfalso; simp_all; done)
           | refine wrapK_i64 (by omega) ?_
           | refine wrapK_u8 (by omega) ?_
           | refine convK_i64 (by omega) ?_
           | refine convK_byte ?_
           | refine convK_u64 (by omega) ?_
           | refine convK_u16 (by omega) ?_
           | refine convK_u32 (by omega) ?_
           | refine wrapK_byte ?_
           | refine wrapK_u64 (by omega) ?_
           | refine wrapK_u32 (by omega) ?_
           | refine wrapK_u16 (by omega) ?_
           | with_reducible refine natK_lit ?_
           | refine natK_of rfl ?_
           | refine natK_any ?_
           | refine quoK_i64 (by omega) ?_
           | refine quoK_u8 (by omega) ?_
           | refine quoK_u16 (by omega) ?_
           | refine remK_pos (by omega) ?_
           | refine headI_cons ?_
           | refine headS_cons ?_
           | refine headB_cons ?_
           | refine headV_cons ?_
           | refine headX_cons ?_
           | refine headI_u8 (by first | omega | (simp; omega)) (fun _ => ?_)
           | refine headI_ints (by first | omega | (simp; omega)) ?_
           | refine bytesK_map ?_
           | refine catK_nil ?_
           | refine catK_nil' ?_
           | refine catK_u8 ?_
           | refine catK_one ?_
           | refine catK_lit (by omega) ?_
           | refine catK_ints ?_
           | refine catK_int1 ?_
           | refine packK_u8 ?_
           | refine packK_0 ?_
           | refine packK_1 (by omega) ?_
           | refine packK_2 (by omega) (by omega) ?_
           | refine packK_3 (by omega) (by omega) (by omega) ?_
           | refine packK_4 (by omega) (by omega) (by omega) (by omega) ?_
           | refine packK_any ?_
           | refine shrK_8 0 (by omega) rfl (by omega) ?_
           | refine shrK_8 1 (by omega) rfl (by omega) ?_
           | refine shrK_8 2 (by omega) rfl (by omega) ?_
           | refine shrK_8 3 (by omega) rfl (by omega) ?_
           | refine shlK_8 (by omega) (by omega) ?_
           | refine bitK_or8 (by omega) (by omega) ?_
           | refine nilK_no (by omega) ?_
           | refine takeC_u8 ?_
           | refine dropC_u8 ?_
           | refine dropC_zero ?_
           | refine takeC_any ?_
           | refine dropC_any ?_
           | refine takeC_of (c := []) (by simp) ?_
           | (refine eitherK_r ?_; (conv => whnf); refine sideK_intro (by omega) ?_)
           | refine catK_any ?_
           | refine eitherK_l ?_
           | refine nlK_sl ?_
           | refine sideK_intro (by first | omega | (exact ⟨rfl, rfl, rfl⟩) | (exact ⟨rfl, rfl⟩) | (simp; done)) ?_
           | refine drawK_intro (by kernel_rfl) (by kernel_rfl) ?_)) <;> (try (conv => whnf))

/-- the joined bytes of some slices -/
theorem c_concat (ls : List (List UInt8)) {n : Nat} (hn : n = ls.length) (hb : ls.flatten.length ≤ 1000000) (hl : ls.length ≤ 1000) : Fn Try.prog 109 [.o (.sl (ls.map fun b => .sl (b.map u8) b.length) n)] [] (.one (.fr (ls.flatten.map u8) ls.flatten.length 1)) [] := by
  subst hn
  have hpart : ∀ j, (ls.take j).flatten.length ≤ ls.flatten.length := fun j => by
    conv => rhs; rw [← List.take_append_drop j ls, List.flatten_append, List.length_append]
    omega
  have hnext : ∀ j, j < ls.length → (ls.take (j + 1)).flatten = (ls.take j).flatten ++ ls.getD j [] := fun j hj => by
    rw [List.take_succ_eq_append_getElem hj, List.flatten_append]
    simp [List.getD_eq_getElem?_getD, hj]
  refine Fn_intro (G := g109) (goodA rfl) (fn := Try.f109) rfl rfl rfl rfl rfl ?_
  conv => whnf
  refine loopK_inv (G := g109) (fun n st => ∃ (j m : Nat), n + j = ls.length ∧ m = (ls.take j).flatten.length ∧
    st = ⟨[(0, .c (.o (.sl (ls.map fun b => .sl (b.map u8) b.length) ls.length))), (3, .c (.o (.i .i64 (m : Int)))), (9, .c (.o (.sl (ls.map fun b => .sl (b.map u8) b.length) ls.length))), (10, .c (.o (.i .i64 (ls.length : Int)))), (11, .c (.o (.i .i64 (j : Int))))], []⟩) (n := ls.length) ⟨0, 0, by simp, by simp, rfl⟩ ?_
  rintro n st ⟨j, m, hj, hm, rfl⟩
  have hpj := hpart j
  have hx : j < ls.length → m + (ls.getD j []).length ≤ 1000000 := fun h => by have := hpart (j + 1); rw [hnext j h, List.length_append] at this; omega
  (repeat' ((conv => whnf) <;>
           first
           | exact rfl
           | with_reducible refine boolK_dec (fun _ => ?_) (fun _ => ?_) <;> try (exfalso; omega)
           | refine boolK_beq (fun _ => ?_) (fun _ => ?_) <;> try (exfalso; first | omega | contradiction)
           | refine boolK_bne (fun _ => ?_) (fun _ => ?_) <;> try (exfalso; first | omega | contradiction)
           | with_reducible refine boolK_not ?_
           | with_reducible refine boolK_and ?_
           | with_reducible refine boolK_or ?_
           | with_reducible refine boolK_true ?_
           | with_reducible refine boolK_false ?_
           | refine boolK_intro (fun _ => ?_) (fun _ => ?_) <;> try (exfalso; simp_all; done)
           | refine wrapK_i64 (by omega) ?_
           | refine wrapK_u8 (by omega) ?_
           | refine convK_i64 (by omega) ?_
           | refine convK_byte ?_
           | refine convK_u64 (by omega) ?_
           | refine convK_u16 (by omega) ?_
           | refine convK_u32 (by omega) ?_
           | refine wrapK_byte ?_
           | refine wrapK_u64 (by omega) ?_
           | refine wrapK_u32 (by omega) ?_
           | refine wrapK_u16 (by omega) ?_
           | with_reducible refine natK_lit ?_
           | refine natK_of rfl ?_
           | refine natK_any ?_
           | refine quoK_i64 (by omega) ?_
           | refine quoK_u8 (by omega) ?_
           | refine quoK_u16 (by omega) ?_
           | refine remK_pos (by omega) ?_
           | refine headI_cons ?_
           | refine headS_cons ?_
           | refine headB_cons ?_
           | refine headV_cons ?_
           | refine headX_cons ?_
           | refine headI_u8 (by first | omega | (simp; omega)) (fun _ => ?_)
           | refine headI_ints (by first | omega | (simp; omega)) ?_
           | refine bytesK_map ?_
           | refine catK_nil ?_
           | refine catK_nil' ?_
           | refine catK_u8 ?_
           | refine catK_one ?_
           | refine catK_lit (by omega) ?_
           | refine catK_ints ?_
           | refine catK_int1 ?_
           | refine packK_u8 ?_
           | refine packK_0 ?_
           | refine packK_1 (by omega) ?_
           | refine packK_2 (by omega) (by omega) ?_
           | refine packK_3 (by omega) (by omega) (by omega) ?_
           | refine packK_4 (by omega) (by omega) (by omega) (by omega) ?_
           | refine packK_any ?_
           | refine shrK_8 0 (by omega) rfl (by omega) ?_
           | refine shrK_8 1 (by omega) rfl (by omega) ?_
           | refine shrK_8 2 (by omega) rfl (by omega) ?_
           | refine shrK_8 3 (by omega) rfl (by omega) ?_
           | refine shlK_8 (by omega) (by omega) ?_
           | refine bitK_or8 (by omega) (by omega) ?_
           | refine nilK_no (by omega) ?_
           | refine takeC_u8 ?_
           | refine dropC_u8 ?_
           | refine dropC_zero ?_
           | refine takeC_any ?_
           | refine dropC_any ?_
           | refine callK_intro (c_grow _ (by omega)) ?_
           | refine nlK_nl ?_
           | refine headV_bytes (by omega) ?_
           | exact ⟨n - 1, by omega, j + 1, m + (ls.getD j []).length, by omega, by rw [hnext j (by omega), List.length_append, hm], rfl⟩
           | refine catK_any ?_
           | refine eitherK_l ?_
           | refine nlK_sl ?_
           | refine sideK_intro (by first | omega | (simp; omega)) ?_
           | refine drawK_intro (by kernel_rfl) (by kernel_rfl) ?_)) <;> (try (conv => whnf))
  conv => whnf
  refine loopK_inv (G := g109) (fun n st => ∃ (j m : Nat), n + j = ls.length ∧ m = (ls.take j).flatten.length ∧
    st = ⟨[(6, .c (.o (.gw 6 m 1))), (25, .c (.o (.sl (ls.map fun b => .sl (b.map u8) b.length) ls.length))), (26, .c (.o (.i .i64 (ls.length : Int)))), (27, .c (.o (.i .i64 (j : Int))))], [(6, .ar ((ls.take j).flatten.map u8))]⟩) (n := ls.length) ⟨0, 0, by simp, by simp, rfl⟩ ?_
  rintro n st ⟨j, m, hj, hm, rfl⟩
  have hpj := hpart j
  have hx : j < ls.length → m + (ls.getD j []).length ≤ 1000000 := fun h => by have := hpart (j + 1); rw [hnext j h, List.length_append] at this; omega
  (repeat' ((conv => whnf) <;>
           first
           | exact rfl
           | with_reducible refine boolK_dec (fun _ => ?_) (fun _ => ?_) <;> try (exfalso; omega)
           | refine boolK_beq (fun _ => ?_) (fun _ => ?_) <;> try (exfalso; first | omega | contradiction)
           | refine boolK_bne (fun _ => ?_) (fun _ => ?_) <;> try (exfalso; first | omega | contradiction)
           | with_reducible refine boolK_not ?_
           | with_reducible refine boolK_and ?_
           | with_reducible refine boolK_or ?_
           | with_reducible refine boolK_true ?_
           | with_reducible refine boolK_false ?_
           | refine boolK_intro (fun _ => ?_) (fun _ => ?_) <;> try (exfalso; simp_all; done)
           | refine wrapK_i64 (by omega) ?_
           | refine wrapK_u8 (by omega) ?_
           | refine convK_i64 (by omega) ?_
           | refine convK_byte ?_
           | refine convK_u64 (by omega) ?_
           | refine convK_u16 (by omega) ?_
           | refine convK_u32 (by omega) ?_
           | refine wrapK_byte ?_
           | refine wrapK_u64 (by omega) ?_
           | refine wrapK_u32 (by omega) ?_
           | refine wrapK_u16 (by omega) ?_
           | with_reducible refine natK_lit ?_
           | refine natK_of rfl ?_
           | refine natK_any ?_
           | refine quoK_i64 (by omega) ?_
           | refine quoK_u8 (by omega) ?_
           | refine quoK_u16 (by omega) ?_
           | refine remK_pos (by omega) ?_
           | refine headI_cons ?_
           | refine headS_cons ?_
           | refine headB_cons ?_
           | refine headV_cons ?_
           | refine headX_cons ?_
           | refine headI_u8 (by first | omega | (simp; omega)) (fun _ => ?_)
           | refine headI_ints (by first | omega | (simp; omega)) ?_
           | refine bytesK_map ?_
           | refine catK_nil ?_
           | refine catK_nil' ?_
           | refine catK_u8 ?_
           | refine catK_one ?_
           | refine catK_lit (by omega) ?_
           | refine catK_ints ?_
           | refine catK_int1 ?_
           | refine packK_u8 ?_
           | refine packK_0 ?_
           | refine packK_1 (by omega) ?_
           | refine packK_2 (by omega) (by omega) ?_
           | refine packK_3 (by omega) (by omega) (by omega) ?_
           | refine packK_4 (by omega) (by omega) (by omega) (by omega) ?_
           | refine packK_any ?_
           | refine shrK_8 0 (by omega) rfl (by omega) ?_
           | refine shrK_8 1 (by omega) rfl (by omega) ?_
           | refine shrK_8 2 (by omega) rfl (by omega) ?_
           | refine shrK_8 3 (by omega) rfl (by omega) ?_
           | refine shlK_8 (by omega) (by omega) ?_
           | refine bitK_or8 (by omega) (by omega) ?_
           | refine nilK_no (by omega) ?_
           | refine takeC_u8 ?_
           | refine dropC_u8 ?_
           | refine dropC_zero ?_
           | refine takeC_any ?_
           | refine dropC_any ?_
           | refine headV_bytes (by omega) ?_
           | exact ⟨n - 1, by omega, j + 1, m + (ls.getD j []).length, by omega, by rw [hnext j (by omega), List.length_append, hm], by rw [hnext j (by omega)]; rfl⟩
           | refine catK_any ?_
           | refine eitherK_l ?_
           | refine nlK_sl ?_
           | refine sideK_intro (by first | omega | rfl | exact Nat.le_of_ble_eq_true rfl | (refine ⟨?_, ?_⟩ <;> first | omega | (simp; done) | (simp; omega)) | (simp; done) | (simp; omega) | (have : j = ls.length := (by omega); subst this; rw [List.take_length] at hm ⊢; exact ⟨rfl, hm.symm, rfl⟩)) ?_
           | refine drawK_intro (by kernel_rfl) (by kernel_rfl) ?_)) <;> (try (conv => whnf))

end Go.Sx

/-
  Contracts of the small functions of the laws about principals.
-/
import Derived.Test.YtjgiijcnhhnkkaaCPrin
import Derived.Test.YtjgiijcnhhnkkaaLOwn
set_option linter.all false
namespace Go.Sx
open Go.Proofs
noncomputable def g42 : Par := par 24 (nthLL [[], [1, 2], [1, 2, 4], [0]]) [0] (nthLL [])
noncomputable def g43 : Par := par 19 (nthLL [[1], [2]]) [2] (nthLL [])
noncomputable def g44 : Par := par 25 (nthLL [[0, 1, 2], [0, 1, 2, 7], [0, 1, 2, 7, 8], [0, 1, 2, 7, 8, 11], [0, 1, 2, 7, 8], [0, 1, 2, 7, 8, 16], [0, 1, 2, 7, 8], [0, 1, 2, 7, 8], [6]]) [6, 7] (nthLL [])
set_option maxRecDepth 10000
set_option maxHeartbeats 2000000
theorem awk1_h1 : parseS [114, 99, 109, 100, 46, 104, 111, 115, 116, 46, 109, 105, 116, 64, 65, 84, 72, 69, 78, 65] [88] = (([114, 99, 109, 100], [104, 111, 115, 116, 46, 109, 105, 116], [65, 84, 72, 69, 78, 65]), 0) := by decide +kernel
theorem awk1_h2 : parseS [97, 64, 98, 64, 99] [88] = (([], [], []), 103) := by decide +kernel
theorem c_awk1 : Fn Try.prog 53 [.o (.s [114, 99, 109, 100, 46, 104, 111, 115, 116, 46, 109, 105, 116, 64, 65, 84, 72, 69, 78, 65]), .o (.s [88])] [] (.tup [.c (.a [.s [114, 99, 109, 100], .s [104, 111, 115, 116, 46, 109, 105, 116], .s [65, 84, 72, 69, 78, 65]]), .c (.o (.i .i64 0))]) [] := by
  have c := c_Parse [114, 99, 109, 100, 46, 104, 111, 115, 116, 46, 109, 105, 116, 64, 65, 84, 72, 69, 78, 65] [88] (by decide) (by decide)
  rw [awk1_h1] at c
  exact c
theorem c_awk2 : Fn Try.prog 53 [.o (.s [97, 64, 98, 64, 99]), .o (.s [88])] [] (.tup [.c (.a [.s [], .s [], .s []]), .c (.o (.i .i64 103))]) [] := by
  have c := c_Parse [97, 64, 98, 64, 99] [88] (by decide) (by decide)
  rw [awk1_h2] at c
  exact c
theorem c_awake1 : Fn Try.prog 42 [] [] (.one (.c (.o (.b true)))) [] := by
  refine Fn_intro (G := g42) (goodA rfl) (fn := Try.f42) rfl rfl rfl rfl rfl ?_
  (repeat' ((conv => whnf) <;>
           first
           | exact rfl
           | with_reducible refine boolK_dec (fun _ => ?_) (fun _ => ?_) <;> try (exfalso; omega)
           | refine boolK_beq (fun _ => ?_) (fun _ => ?_) <;> try (exfalso; first | omega | contradiction)
           | refine boolK_bne (fun _ => ?_) (fun _ => ?_) <;> try (exfalso; first | omega | contradiction)
           | with_reducible refine boolK_not ?_
           | with_reducible refine boolK_and ?_
           | with_reducible refine boolK_or ?_
           | with_reducible refine boolK_true ?_
           | with_reducible refine boolK_false ?_
           | refine boolK_intro (fun _ => ?_) (fun _ => ?_) <;> try (exfalso; simp_all; done)
           | refine wrapK_i64 (by omega) ?_
           | refine wrapK_u8 (by omega) ?_
           | refine convK_i64 (by omega) ?_
           | refine convK_byte ?_
           | refine convK_u64 (by omega) ?_
           | refine convK_u16 (by omega) ?_
           | refine convK_u32 (by omega) ?_
           | refine wrapK_byte ?_
           | refine wrapK_u64 (by omega) ?_
           | refine wrapK_u32 (by omega) ?_
           | refine wrapK_u16 (by omega) ?_
           | with_reducible refine natK_lit ?_
           | refine natK_of rfl ?_
           | refine natK_any ?_
           | refine quoK_i64 (by omega) ?_
           | refine quoK_u8 (by omega) ?_
           | refine quoK_u16 (by omega) ?_
           | refine remK_pos (by omega) ?_
           | refine headI_cons ?_
           | refine headS_cons ?_
           | refine headB_cons ?_
           | refine headV_cons ?_
           | refine headX_cons ?_
           | refine headI_u8 (by first | omega | (simp; omega)) (fun _ => ?_)
           | refine headI_ints (by first | omega | (simp; omega)) ?_
           | refine bytesK_map ?_
           | refine catK_nil ?_
           | refine catK_nil' ?_
           | refine catK_u8 ?_
           | refine catK_one ?_
           | refine catK_lit (by omega) ?_
           | refine catK_ints ?_
           | refine catK_int1 ?_
           | refine packK_u8 ?_
           | refine packK_0 ?_
           | refine packK_1 (by omega) ?_
           | refine packK_2 (by omega) (by omega) ?_
           | refine packK_3 (by omega) (by omega) (by omega) ?_
           | refine packK_4 (by omega) (by omega) (by omega) (by omega) ?_
           | refine packK_any ?_
           | refine shrK_8 0 (by omega) rfl (by omega) ?_
           | refine shrK_8 1 (by omega) rfl (by omega) ?_
           | refine shrK_8 2 (by omega) rfl (by omega) ?_
           | refine shrK_8 3 (by omega) rfl (by omega) ?_
           | refine shlK_8 (by omega) (by omega) ?_
           | refine bitK_or8 (by omega) (by omega) ?_
           | refine nilK_no (by omega) ?_
           | refine takeC_u8 ?_
           | refine dropC_u8 ?_
           | refine dropC_zero ?_
           | refine takeC_any ?_
           | refine dropC_any ?_
           | refine callK_intro (c_awk1) ?_
           | refine callK_intro (c_awk2) ?_
           | refine catK_any ?_
           | refine eitherK_l ?_
           | refine nlK_sl ?_
           | refine sideK_intro (by first | omega | rfl | exact Nat.le_of_ble_eq_true rfl | (refine ⟨?_, ?_⟩ <;> first | omega | (simp; done) | (simp; omega)) | (simp; done) | (simp; omega)) ?_
           | refine drawK_intro (by kernel_rfl) (by kernel_rfl) ?_)) <;> (try (conv => whnf))
theorem c_long1 (x y z : List UInt8) : Fn Try.prog 43 [.a [.s x, .s y, .s z]] [] (.one (.c (.o (.b (decide (x.length > 100 ∨ y.length > 100 ∨ z.length > 100)))))) [] := by
  refine Fn_intro (G := g43) (goodA rfl) (fn := Try.f43) rfl rfl rfl rfl rfl ?_
  (repeat' ((conv => whnf) <;>
           first
           | exact rfl
           | with_reducible refine boolK_dec (fun _ => ?_) (fun _ => ?_) <;> try (exfalso; omega)
           | refine boolK_beq (fun _ => ?_) (fun _ => ?_) <;> try (exfalso; first | omega | contradiction)
           | refine boolK_bne (fun _ => ?_) (fun _ => ?_) <;> try (exfalso; first | omega | contradiction)
           | with_reducible refine boolK_not ?_
           | with_reducible refine boolK_and ?_
           | with_reducible refine boolK_or ?_
           | with_reducible refine boolK_true ?_
           | with_reducible refine boolK_false ?_
           | refine boolK_intro (fun _ => ?_) (fun _ => ?_) <;> try (exfalso; simp_all; done)
           | refine wrapK_i64 (by omega) ?_
           | refine wrapK_u8 (by omega) ?_
           | refine convK_i64 (by omega) ?_
           | refine convK_byte ?_
           | refine convK_u64 (by omega) ?_
           | refine convK_u16 (by omega) ?_
           | refine convK_u32 (by omega) ?_
           | refine wrapK_byte ?_
           | refine wrapK_u64 (by omega) ?_
           | refine wrapK_u32 (by omega) ?_
           | refine wrapK_u16 (by omega) ?_
           | with_reducible refine natK_lit ?_
           | refine natK_of rfl ?_
           | refine natK_any ?_
           | refine quoK_i64 (by omega) ?_
           | refine quoK_u8 (by omega) ?_
           | refine quoK_u16 (by omega) ?_
           | refine remK_pos (by omega) ?_
           | refine headI_cons ?_
           | refine headS_cons ?_
           | refine headB_cons ?_
           | refine headV_cons ?_
           | refine headX_cons ?_
           | refine headI_u8 (by first | omega | (simp; omega)) (fun _ => ?_)
           | refine headI_ints (by first | omega | (simp; omega)) ?_
           | refine bytesK_map ?_
           | refine catK_nil ?_
           | refine catK_nil' ?_
           | refine catK_u8 ?_
           | refine catK_one ?_
           | refine catK_lit (by omega) ?_
           | refine catK_ints ?_
           | refine catK_int1 ?_
           | refine packK_u8 ?_
           | refine packK_0 ?_
           | refine packK_1 (by omega) ?_
           | refine packK_2 (by omega) (by omega) ?_
           | refine packK_3 (by omega) (by omega) (by omega) ?_
           | refine packK_4 (by omega) (by omega) (by omega) (by omega) ?_
           | refine packK_any ?_
           | refine shrK_8 0 (by omega) rfl (by omega) ?_
           | refine shrK_8 1 (by omega) rfl (by omega) ?_
           | refine shrK_8 2 (by omega) rfl (by omega) ?_
           | refine shrK_8 3 (by omega) rfl (by omega) ?_
           | refine shlK_8 (by omega) (by omega) ?_
           | refine bitK_or8 (by omega) (by omega) ?_
           | refine nilK_no (by omega) ?_
           | refine takeC_u8 ?_
           | refine dropC_u8 ?_
           | refine dropC_zero ?_
           | refine takeC_any ?_
           | refine dropC_any ?_
           | refine catK_any ?_
           | refine eitherK_l ?_
           | refine nlK_sl ?_
           | refine sideK_intro (by first | omega | rfl | exact Nat.le_of_ble_eq_true rfl | (refine ⟨?_, ?_⟩ <;> first | omega | (simp; done) | (simp; omega)) | (simp; done) | (simp; omega) | (exact congrArg (fun x => [L.b x]) (decide_eq_decide.mpr (by omega))) | (exact congrArg (fun x => [L.b x]) (Eq.symm (decide_eq_true (by omega)))) | (exact congrArg (fun x => [L.b x]) (Eq.symm (decide_eq_false (by omega))))) ?_
           | refine drawK_intro (by kernel_rfl) (by kernel_rfl) ?_)) <;> (try (conv => whnf))
/-- a text of some letters with a byte at an index -/
def stretchS (n : Nat) (k : Int) (c : UInt8) : List UInt8 := (List.range n).map fun (i : Nat) => if (i : Int) = k then c else 110
theorem stretchS_succ (n : Nat) (k : Int) (c : UInt8) : stretchS (n + 1) k c = stretchS n k c ++ [if (n : Int) = k then c else 110] := by
  rw [stretchS, stretchS, List.range_succ, List.map_append]; rfl
@[simp] theorem stretchS_len (n : Nat) (k : Int) (c : UInt8) : (stretchS n k c).length = n := by simp [stretchS]
theorem c_stretched (n : Nat) (hn : n ≤ 1000) {m : Int} (hm : m = n) (k : Int) (c : UInt8) : Fn Try.prog 44 [.o (.i .i64 m), .o (.i .i64 k), .o (.i .u8 (c.toNat : Int))] [] (.one (.c (.o (.s (stretchS n k c))))) [] := by
  subst hm
  refine Fn_intro (G := g44) (goodA rfl) (fn := Try.f44) rfl rfl rfl rfl rfl ?_
  conv => whnf
  refine loopK_inv (G := g44) (fun q st => ∃ (j : Nat), q + j = n ∧
    st = ⟨[(0, .c (.o (.i .i64 (n : Int)))), (1, .c (.o (.i .i64 k))), (2, .c (.o (.i .u8 (c.toNat : Int)))), (7, .c (.o (.s (stretchS j k c)))), (8, .c (.o (.i .i64 (j : Int))))], []⟩) (n := n) ⟨0, by omega, rfl⟩ ?_
  rintro q st ⟨j, hj, rfl⟩
  have hl := stretchS_len j k c
  (repeat' ((conv => whnf) <;>
           first
           | exact rfl
           | with_reducible refine boolK_dec (fun _ => ?_) (fun _ => ?_) <;> try (exfalso; omega)
           | refine boolK_beq (fun _ => ?_) (fun _ => ?_) <;> try (exfalso; first | omega | contradiction)
           | refine boolK_bne (fun _ => ?_) (fun _ => ?_) <;> try (exfalso; first | omega | contradiction)
           | with_reducible refine boolK_not ?_
           | with_reducible refine boolK_and ?_
           | with_reducible refine boolK_or ?_
           | with_reducible refine boolK_true ?_
           | with_reducible refine boolK_false ?_
           | refine boolK_intro (fun _ => ?_) (fun _ => ?_) <;> try (exfalso; simp_all; done)
           | refine wrapK_i64 (by omega) ?_
           | refine wrapK_u8 (by omega) ?_
           | refine convK_i64 (by omega) ?_
           | refine convK_byte ?_
           | refine convK_u64 (by omega) ?_
           | refine convK_u16 (by omega) ?_
           | refine convK_u32 (by omega) ?_
           | refine wrapK_byte ?_
           | refine wrapK_u64 (by omega) ?_
           | refine wrapK_u32 (by omega) ?_
           | refine wrapK_u16 (by omega) ?_
           | with_reducible refine natK_lit ?_
           | refine natK_of rfl ?_
           | refine natK_any ?_
           | refine quoK_i64 (by omega) ?_
           | refine quoK_u8 (by omega) ?_
           | refine quoK_u16 (by omega) ?_
           | refine remK_pos (by omega) ?_
           | refine headI_cons ?_
           | refine headS_cons ?_
           | refine headB_cons ?_
           | refine headV_cons ?_
           | refine headX_cons ?_
           | refine headI_u8 (by first | omega | (simp; omega)) (fun _ => ?_)
           | refine headI_ints (by first | omega | (simp; omega)) ?_
           | refine bytesK_map ?_
           | refine catK_nil ?_
           | refine catK_nil' ?_
           | refine catK_u8 ?_
           | refine catK_one ?_
           | refine catK_lit (by omega) ?_
           | refine catK_ints ?_
           | refine catK_int1 ?_
           | refine packK_u8 ?_
           | refine packK_0 ?_
           | refine packK_1 (by omega) ?_
           | refine packK_2 (by omega) (by omega) ?_
           | refine packK_3 (by omega) (by omega) (by omega) ?_
           | refine packK_4 (by omega) (by omega) (by omega) (by omega) ?_
           | refine packK_any ?_
           | refine shrK_8 0 (by omega) rfl (by omega) ?_
           | refine shrK_8 1 (by omega) rfl (by omega) ?_
           | refine shrK_8 2 (by omega) rfl (by omega) ?_
           | refine shrK_8 3 (by omega) rfl (by omega) ?_
           | refine shlK_8 (by omega) (by omega) ?_
           | refine bitK_or8 (by omega) (by omega) ?_
           | refine nilK_no (by omega) ?_
           | refine takeC_u8 ?_
           | refine dropC_u8 ?_
           | refine dropC_zero ?_
           | refine takeC_any ?_
           | refine dropC_any ?_
           | exact ⟨q - 1, by omega, j + 1, by omega, by rw [stretchS_succ, if_pos (by assumption)]; rfl⟩
           | exact ⟨q - 1, by omega, j + 1, by omega, by rw [stretchS_succ, if_neg (by assumption)]; rfl⟩
           | refine bytesK_of (l := [c]) rfl ?_
           | refine catK_any ?_
           | refine eitherK_l ?_
           | refine nlK_sl ?_
           | refine sideK_intro (by first | omega | rfl | exact Nat.le_of_ble_eq_true rfl | (refine ⟨?_, ?_⟩ <;> first | omega | (simp; done) | (simp; omega)) | (simp; done) | (simp; omega) | (obtain rfl : j = n := (by omega); rfl)) ?_
           | refine drawK_intro (by kernel_rfl) (by kernel_rfl) ?_)) <;> (try (conv => whnf))
end Go.Sx

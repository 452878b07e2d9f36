/-
  A contract of the laws' simple databases.
-/
import Derived.Test.YtmacgikbcednmacGreatCDbB
import Derived.Test.YtmacgikbcednmacGreatCData
set_option linter.all false
namespace Go.Sx
open Go.Proofs Go.RowKit
def simX (ex bad : Int) (i : Int) : Int := if bad % 16 = 8 + i then 1000 + ex * 100 else 0
def simA (bad : Int) (i : Int) : Int := if bad % 16 = i then 1 + bad / 16 % 3 else 0
def simO (life ex bad : Int) : List DE := [⟨userN 0, [], longK 0, 3, simX ex bad 0, life, simA bad 0, 0, 0⟩, ⟨userN 1, [], longK 1, 4, simX ex bad 1, life, simA bad 1, 0, 0⟩, ⟨userN 2, [], longK 2, 5, simX ex bad 2, life, simA bad 2, 0, 0⟩, ⟨serviceN 2, serviceI 2, longK 3, 6, simX ex bad 3, life, simA bad 3, 0, 0⟩, ⟨serviceN 0, serviceI 0, longK 4, 7, simX ex bad 4, life, simA bad 4, 0, 0⟩, ⟨serviceN 1, serviceI 1, longK 5, 8, simX ex bad 5, life, simA bad 5, 0, 0⟩]
theorem simX_y {ex bad i : Int} (h : bad % 16 = 8 + i) : simX ex bad i = 1000 + ex * 100 := by rw [simX, if_pos h]
theorem simX_n {ex bad i : Int} (h : ¬ bad % 16 = 8 + i) : simX ex bad i = 0 := by rw [simX, if_neg h]
theorem simA_y {bad i : Int} (h : bad % 16 = i) : simA bad i = 1 + bad / 16 % 3 := by rw [simA, if_pos h]
theorem simA_n {bad i : Int} (h : ¬ bad % 16 = i) : simA bad i = 0 := by rw [simA, if_neg h]
noncomputable def g9 : Par := par 71 (nthLL [[0, 1, 2, 6], [0, 1, 2, 6, 7], [0, 1, 2, 6, 7, 8], [0, 1, 2, 6, 7, 8, 9], [0, 1, 2, 6, 7, 8, 9, 22], [0, 1, 2, 6, 7, 8, 9], [0, 1, 2, 6, 7, 8, 9, 10], [0, 1, 2, 6, 7, 8, 9, 10, 46], [0, 1, 2, 6, 7, 8, 9, 10], [0, 1, 2, 6, 7, 8, 9, 10, 58], [0, 1, 2, 6, 7, 8, 9, 10], [0, 1, 2, 6, 7, 8, 9], [6]]) [6, 100006, 100007] (nthLL [[], [], [], [], [], [], [0, 0, 3, 7, 15, 0, 0, 96, 224, 480, 0, 1024, 0, 4096, 0, 16384, 65535, 0, 262143]])
set_option maxRecDepth 10000
set_option maxHeartbeats 16000000
theorem c_Sim0 (life ex bad : UInt8) (h : (bad.toNat : Int) % 16 = 0) : Fn Tryz.prog 9 [.o (.i .u8 (life.toNat : Int)), .o (.i .u8 (ex.toNat : Int)), .o (.i .u8 (bad.toNat : Int))] [] (.one (.sa [.s [65, 84, 72]] (flat deR (simO (life.toNat : Int) (ex.toNat : Int) (bad.toNat : Int))) 6 9 [])) [] := by
  have h1 := byte_lt life
  have h2 := byte_lt ex
  have h3 := byte_lt bad
  rw [show flat deR (simO (life.toNat : Int) (ex.toNat : Int) (bad.toNat : Int)) = [.s (userN 0), .s ([]), .i .u64 (longK 0), .i .i64 3, .i .i64 (simX (ex.toNat : Int) (bad.toNat : Int) 0), .i .i64 (life.toNat : Int), .i .i64 (simA (bad.toNat : Int) 0), .i .i64 0, .i .i64 0, .s (userN 1), .s ([]), .i .u64 (longK 1), .i .i64 4, .i .i64 (simX (ex.toNat : Int) (bad.toNat : Int) 1), .i .i64 (life.toNat : Int), .i .i64 (simA (bad.toNat : Int) 1), .i .i64 0, .i .i64 0, .s (userN 2), .s ([]), .i .u64 (longK 2), .i .i64 5, .i .i64 (simX (ex.toNat : Int) (bad.toNat : Int) 2), .i .i64 (life.toNat : Int), .i .i64 (simA (bad.toNat : Int) 2), .i .i64 0, .i .i64 0, .s (serviceN 2), .s (serviceI 2), .i .u64 (longK 3), .i .i64 6, .i .i64 (simX (ex.toNat : Int) (bad.toNat : Int) 3), .i .i64 (life.toNat : Int), .i .i64 (simA (bad.toNat : Int) 3), .i .i64 0, .i .i64 0, .s (serviceN 0), .s (serviceI 0), .i .u64 (longK 4), .i .i64 7, .i .i64 (simX (ex.toNat : Int) (bad.toNat : Int) 4), .i .i64 (life.toNat : Int), .i .i64 (simA (bad.toNat : Int) 4), .i .i64 0, .i .i64 0, .s (serviceN 1), .s (serviceI 1), .i .u64 (longK 5), .i .i64 8, .i .i64 (simX (ex.toNat : Int) (bad.toNat : Int) 5), .i .i64 (life.toNat : Int), .i .i64 (simA (bad.toNat : Int) 5), .i .i64 0, .i .i64 0] from rfl]
  rw [simX_n (i := 0) (by omega), simA_y (i := 0) (by omega), simX_n (i := 1) (by omega), simA_n (i := 1) (by omega), simX_n (i := 2) (by omega), simA_n (i := 2) (by omega), simX_n (i := 3) (by omega), simA_n (i := 3) (by omega), simX_n (i := 4) (by omega), simA_n (i := 4) (by omega), simX_n (i := 5) (by omega), simA_n (i := 5) (by omega)]
  have u0 := c_User 0 (by omega)
  have u1 := c_User 1 (by omega)
  have u2 := c_User 2 (by omega)
  have s0 := c_Service 0 (by omega)
  have s1 := c_Service 1 (by omega)
  have s2 := c_Service 2 (by omega)
  generalize userN 0 = U0 at *
  generalize userN 1 = U1 at *
  generalize userN 2 = U2 at *
  generalize serviceN 0 = S0 at *
  generalize serviceN 1 = S1 at *
  generalize serviceN 2 = S2 at *
  generalize serviceI 0 = I0 at *
  generalize serviceI 1 = I1 at *
  generalize serviceI 2 = I2 at *
  refine Fn_intro (G := g9) (goodA rfl) (fn := Tryz.f9) rfl rfl rfl rfl rfl ?_
  (repeat' ((conv => whnf) <;> first | exact rfl | with_reducible refine boolK_dec (fun _ => ?_) (fun _ => ?_) <;> try (exfalso; omega) | refine boolK_beq (fun _ => ?_) (fun _ => ?_) <;> try (exfalso; first | omega | with_reducible contradiction) | refine boolK_bne (fun _ => ?_) (fun _ => ?_) <;> try (exfalso; first | omega | with_reducible contradiction) | (with_reducible first | refine boolK_not ?_ | refine boolK_and ?_ | refine boolK_or ?_ | refine boolK_true ?_ | refine boolK_false ?_) | refine boolK_intro (fun _ => ?_) (fun _ => ?_) <;> try (exfalso; simp_all; done) | refine jA ?_ | refine jB ?_ | refine jC ?_ | refine jD ?_ | refine jE ?_ | refine jF ?_ | refine jG ?_ | refine jH ?_ | refine jI ?_ | refine jJ ?_ | refine jK ?_ | with_reducible refine natK_lit ?_ | refine natK_of rfl ?_ | refine natK_any ?_ | refine jL ?_ | refine jM ?_ | refine jN ?_ | refine jO ?_ | refine jP ?_ | refine jQ ?_ | refine jR ?_ | refine jS ?_ | refine jT ?_ | refine jU (fun _ => ?_) | refine jV ?_ | refine jW ?_ | refine jX ?_ | refine jY ?_ | refine jZ ?_ | refine ja ?_ | refine jb ?_ | refine jc ?_ | refine jd ?_ | refine je ?_ | refine jf ?_ | refine jg ?_ | refine jh ?_ | refine ji ?_ | refine jj ?_ | refine jk ?_ | refine jo ?_ | refine jp ?_ | refine jq ?_ | refine jr ?_ | refine js ?_ | refine callK_intro (u0) ?_ | refine callK_intro (u1) ?_ | refine callK_intro (u2) ?_ | refine callK_intro (s0) ?_ | refine callK_intro (s1) ?_ | refine callK_intro (s2) ?_ | refine callK_intro (c_Long _ (by omega)) ?_ | refine loopK_step (G := g9) ?_ | refine jt ?_ | refine jy ?_ | refine ju ?_ | refine sideK_intro (by first | (exact ⟨rfl, rfl⟩)) ?_ | refine jv ?_)) <;> (try (conv => whnf))
theorem c_Sim1 (life ex bad : UInt8) (h : (bad.toNat : Int) % 16 = 1) : Fn Tryz.prog 9 [.o (.i .u8 (life.toNat : Int)), .o (.i .u8 (ex.toNat : Int)), .o (.i .u8 (bad.toNat : Int))] [] (.one (.sa [.s [65, 84, 72]] (flat deR (simO (life.toNat : Int) (ex.toNat : Int) (bad.toNat : Int))) 6 9 [])) [] := by
  have h1 := byte_lt life
  have h2 := byte_lt ex
  have h3 := byte_lt bad
  rw [show flat deR (simO (life.toNat : Int) (ex.toNat : Int) (bad.toNat : Int)) = [.s (userN 0), .s ([]), .i .u64 (longK 0), .i .i64 3, .i .i64 (simX (ex.toNat : Int) (bad.toNat : Int) 0), .i .i64 (life.toNat : Int), .i .i64 (simA (bad.toNat : Int) 0), .i .i64 0, .i .i64 0, .s (userN 1), .s ([]), .i .u64 (longK 1), .i .i64 4, .i .i64 (simX (ex.toNat : Int) (bad.toNat : Int) 1), .i .i64 (life.toNat : Int), .i .i64 (simA (bad.toNat : Int) 1), .i .i64 0, .i .i64 0, .s (userN 2), .s ([]), .i .u64 (longK 2), .i .i64 5, .i .i64 (simX (ex.toNat : Int) (bad.toNat : Int) 2), .i .i64 (life.toNat : Int), .i .i64 (simA (bad.toNat : Int) 2), .i .i64 0, .i .i64 0, .s (serviceN 2), .s (serviceI 2), .i .u64 (longK 3), .i .i64 6, .i .i64 (simX (ex.toNat : Int) (bad.toNat : Int) 3), .i .i64 (life.toNat : Int), .i .i64 (simA (bad.toNat : Int) 3), .i .i64 0, .i .i64 0, .s (serviceN 0), .s (serviceI 0), .i .u64 (longK 4), .i .i64 7, .i .i64 (simX (ex.toNat : Int) (bad.toNat : Int) 4), .i .i64 (life.toNat : Int), .i .i64 (simA (bad.toNat : Int) 4), .i .i64 0, .i .i64 0, .s (serviceN 1), .s (serviceI 1), .i .u64 (longK 5), .i .i64 8, .i .i64 (simX (ex.toNat : Int) (bad.toNat : Int) 5), .i .i64 (life.toNat : Int), .i .i64 (simA (bad.toNat : Int) 5), .i .i64 0, .i .i64 0] from rfl]
  rw [simX_n (i := 0) (by omega), simA_n (i := 0) (by omega), simX_n (i := 1) (by omega), simA_y (i := 1) (by omega), simX_n (i := 2) (by omega), simA_n (i := 2) (by omega), simX_n (i := 3) (by omega), simA_n (i := 3) (by omega), simX_n (i := 4) (by omega), simA_n (i := 4) (by omega), simX_n (i := 5) (by omega), simA_n (i := 5) (by omega)]
  have u0 := c_User 0 (by omega)
  have u1 := c_User 1 (by omega)
  have u2 := c_User 2 (by omega)
  have s0 := c_Service 0 (by omega)
  have s1 := c_Service 1 (by omega)
  have s2 := c_Service 2 (by omega)
  generalize userN 0 = U0 at *
  generalize userN 1 = U1 at *
  generalize userN 2 = U2 at *
  generalize serviceN 0 = S0 at *
  generalize serviceN 1 = S1 at *
  generalize serviceN 2 = S2 at *
  generalize serviceI 0 = I0 at *
  generalize serviceI 1 = I1 at *
  generalize serviceI 2 = I2 at *
  refine Fn_intro (G := g9) (goodA rfl) (fn := Tryz.f9) rfl rfl rfl rfl rfl ?_
  (repeat' ((conv => whnf) <;> first | exact rfl | with_reducible refine boolK_dec (fun _ => ?_) (fun _ => ?_) <;> try (exfalso; omega) | refine boolK_beq (fun _ => ?_) (fun _ => ?_) <;> try (exfalso; first | omega | with_reducible contradiction) | refine boolK_bne (fun _ => ?_) (fun _ => ?_) <;> try (exfalso; first | omega | with_reducible contradiction) | (with_reducible first | refine boolK_not ?_ | refine boolK_and ?_ | refine boolK_or ?_ | refine boolK_true ?_ | refine boolK_false ?_) | refine boolK_intro (fun _ => ?_) (fun _ => ?_) <;> try (exfalso; simp_all; done) | refine jA ?_ | refine jB ?_ | refine jC ?_ | refine jD ?_ | refine jE ?_ | refine jF ?_ | refine jG ?_ | refine jH ?_ | refine jI ?_ | refine jJ ?_ | refine jK ?_ | with_reducible refine natK_lit ?_ | refine natK_of rfl ?_ | refine natK_any ?_ | refine jL ?_ | refine jM ?_ | refine jN ?_ | refine jO ?_ | refine jP ?_ | refine jQ ?_ | refine jR ?_ | refine jS ?_ | refine jT ?_ | refine jU (fun _ => ?_) | refine jV ?_ | refine jW ?_ | refine jX ?_ | refine jY ?_ | refine jZ ?_ | refine ja ?_ | refine jb ?_ | refine jc ?_ | refine jd ?_ | refine je ?_ | refine jf ?_ | refine jg ?_ | refine jh ?_ | refine ji ?_ | refine jj ?_ | refine jk ?_ | refine jo ?_ | refine jp ?_ | refine jq ?_ | refine jr ?_ | refine js ?_ | refine callK_intro (u0) ?_ | refine callK_intro (u1) ?_ | refine callK_intro (u2) ?_ | refine callK_intro (s0) ?_ | refine callK_intro (s1) ?_ | refine callK_intro (s2) ?_ | refine callK_intro (c_Long _ (by omega)) ?_ | refine loopK_step (G := g9) ?_ | refine jt ?_ | refine jy ?_ | refine ju ?_ | refine sideK_intro (by first | (exact ⟨rfl, rfl⟩)) ?_ | refine jv ?_)) <;> (try (conv => whnf))
theorem c_Sim2 (life ex bad : UInt8) (h : (bad.toNat : Int) % 16 = 2) : Fn Tryz.prog 9 [.o (.i .u8 (life.toNat : Int)), .o (.i .u8 (ex.toNat : Int)), .o (.i .u8 (bad.toNat : Int))] [] (.one (.sa [.s [65, 84, 72]] (flat deR (simO (life.toNat : Int) (ex.toNat : Int) (bad.toNat : Int))) 6 9 [])) [] := by
  have h1 := byte_lt life
  have h2 := byte_lt ex
  have h3 := byte_lt bad
  rw [show flat deR (simO (life.toNat : Int) (ex.toNat : Int) (bad.toNat : Int)) = [.s (userN 0), .s ([]), .i .u64 (longK 0), .i .i64 3, .i .i64 (simX (ex.toNat : Int) (bad.toNat : Int) 0), .i .i64 (life.toNat : Int), .i .i64 (simA (bad.toNat : Int) 0), .i .i64 0, .i .i64 0, .s (userN 1), .s ([]), .i .u64 (longK 1), .i .i64 4, .i .i64 (simX (ex.toNat : Int) (bad.toNat : Int) 1), .i .i64 (life.toNat : Int), .i .i64 (simA (bad.toNat : Int) 1), .i .i64 0, .i .i64 0, .s (userN 2), .s ([]), .i .u64 (longK 2), .i .i64 5, .i .i64 (simX (ex.toNat : Int) (bad.toNat : Int) 2), .i .i64 (life.toNat : Int), .i .i64 (simA (bad.toNat : Int) 2), .i .i64 0, .i .i64 0, .s (serviceN 2), .s (serviceI 2), .i .u64 (longK 3), .i .i64 6, .i .i64 (simX (ex.toNat : Int) (bad.toNat : Int) 3), .i .i64 (life.toNat : Int), .i .i64 (simA (bad.toNat : Int) 3), .i .i64 0, .i .i64 0, .s (serviceN 0), .s (serviceI 0), .i .u64 (longK 4), .i .i64 7, .i .i64 (simX (ex.toNat : Int) (bad.toNat : Int) 4), .i .i64 (life.toNat : Int), .i .i64 (simA (bad.toNat : Int) 4), .i .i64 0, .i .i64 0, .s (serviceN 1), .s (serviceI 1), .i .u64 (longK 5), .i .i64 8, .i .i64 (simX (ex.toNat : Int) (bad.toNat : Int) 5), .i .i64 (life.toNat : Int), .i .i64 (simA (bad.toNat : Int) 5), .i .i64 0, .i .i64 0] from rfl]
  rw [simX_n (i := 0) (by omega), simA_n (i := 0) (by omega), simX_n (i := 1) (by omega), simA_n (i := 1) (by omega), simX_n (i := 2) (by omega), simA_y (i := 2) (by omega), simX_n (i := 3) (by omega), simA_n (i := 3) (by omega), simX_n (i := 4) (by omega), simA_n (i := 4) (by omega), simX_n (i := 5) (by omega), simA_n (i := 5) (by omega)]
  have u0 := c_User 0 (by omega)
  have u1 := c_User 1 (by omega)
  have u2 := c_User 2 (by omega)
  have s0 := c_Service 0 (by omega)
  have s1 := c_Service 1 (by omega)
  have s2 := c_Service 2 (by omega)
  generalize userN 0 = U0 at *
  generalize userN 1 = U1 at *
  generalize userN 2 = U2 at *
  generalize serviceN 0 = S0 at *
  generalize serviceN 1 = S1 at *
  generalize serviceN 2 = S2 at *
  generalize serviceI 0 = I0 at *
  generalize serviceI 1 = I1 at *
  generalize serviceI 2 = I2 at *
  refine Fn_intro (G := g9) (goodA rfl) (fn := Tryz.f9) rfl rfl rfl rfl rfl ?_
  (repeat' ((conv => whnf) <;> first | exact rfl | with_reducible refine boolK_dec (fun _ => ?_) (fun _ => ?_) <;> try (exfalso; omega) | refine boolK_beq (fun _ => ?_) (fun _ => ?_) <;> try (exfalso; first | omega | with_reducible contradiction) | refine boolK_bne (fun _ => ?_) (fun _ => ?_) <;> try (exfalso; first | omega | with_reducible contradiction) | (with_reducible first | refine boolK_not ?_ | refine boolK_and ?_ | refine boolK_or ?_ | refine boolK_true ?_ | refine boolK_false ?_) | refine boolK_intro (fun _ => ?_) (fun _ => ?_) <;> try (exfalso; simp_all; done) | refine jA ?_ | refine jB ?_ | refine jC ?_ | refine jD ?_ | refine jE ?_ | refine jF ?_ | refine jG ?_ | refine jH ?_ | refine jI ?_ | refine jJ ?_ | refine jK ?_ | with_reducible refine natK_lit ?_ | refine natK_of rfl ?_ | refine natK_any ?_ | refine jL ?_ | refine jM ?_ | refine jN ?_ | refine jO ?_ | refine jP ?_ | refine jQ ?_ | refine jR ?_ | refine jS ?_ | refine jT ?_ | refine jU (fun _ => ?_) | refine jV ?_ | refine jW ?_ | refine jX ?_ | refine jY ?_ | refine jZ ?_ | refine ja ?_ | refine jb ?_ | refine jc ?_ | refine jd ?_ | refine je ?_ | refine jf ?_ | refine jg ?_ | refine jh ?_ | refine ji ?_ | refine jj ?_ | refine jk ?_ | refine jo ?_ | refine jp ?_ | refine jq ?_ | refine jr ?_ | refine js ?_ | refine callK_intro (u0) ?_ | refine callK_intro (u1) ?_ | refine callK_intro (u2) ?_ | refine callK_intro (s0) ?_ | refine callK_intro (s1) ?_ | refine callK_intro (s2) ?_ | refine callK_intro (c_Long _ (by omega)) ?_ | refine loopK_step (G := g9) ?_ | refine jt ?_ | refine jy ?_ | refine ju ?_ | refine sideK_intro (by first | (exact ⟨rfl, rfl⟩)) ?_ | refine jv ?_)) <;> (try (conv => whnf))
theorem c_Sim3 (life ex bad : UInt8) (h : (bad.toNat : Int) % 16 = 3) : Fn Tryz.prog 9 [.o (.i .u8 (life.toNat : Int)), .o (.i .u8 (ex.toNat : Int)), .o (.i .u8 (bad.toNat : Int))] [] (.one (.sa [.s [65, 84, 72]] (flat deR (simO (life.toNat : Int) (ex.toNat : Int) (bad.toNat : Int))) 6 9 [])) [] := by
  have h1 := byte_lt life
  have h2 := byte_lt ex
  have h3 := byte_lt bad
  rw [show flat deR (simO (life.toNat : Int) (ex.toNat : Int) (bad.toNat : Int)) = [.s (userN 0), .s ([]), .i .u64 (longK 0), .i .i64 3, .i .i64 (simX (ex.toNat : Int) (bad.toNat : Int) 0), .i .i64 (life.toNat : Int), .i .i64 (simA (bad.toNat : Int) 0), .i .i64 0, .i .i64 0, .s (userN 1), .s ([]), .i .u64 (longK 1), .i .i64 4, .i .i64 (simX (ex.toNat : Int) (bad.toNat : Int) 1), .i .i64 (life.toNat : Int), .i .i64 (simA (bad.toNat : Int) 1), .i .i64 0, .i .i64 0, .s (userN 2), .s ([]), .i .u64 (longK 2), .i .i64 5, .i .i64 (simX (ex.toNat : Int) (bad.toNat : Int) 2), .i .i64 (life.toNat : Int), .i .i64 (simA (bad.toNat : Int) 2), .i .i64 0, .i .i64 0, .s (serviceN 2), .s (serviceI 2), .i .u64 (longK 3), .i .i64 6, .i .i64 (simX (ex.toNat : Int) (bad.toNat : Int) 3), .i .i64 (life.toNat : Int), .i .i64 (simA (bad.toNat : Int) 3), .i .i64 0, .i .i64 0, .s (serviceN 0), .s (serviceI 0), .i .u64 (longK 4), .i .i64 7, .i .i64 (simX (ex.toNat : Int) (bad.toNat : Int) 4), .i .i64 (life.toNat : Int), .i .i64 (simA (bad.toNat : Int) 4), .i .i64 0, .i .i64 0, .s (serviceN 1), .s (serviceI 1), .i .u64 (longK 5), .i .i64 8, .i .i64 (simX (ex.toNat : Int) (bad.toNat : Int) 5), .i .i64 (life.toNat : Int), .i .i64 (simA (bad.toNat : Int) 5), .i .i64 0, .i .i64 0] from rfl]
  rw [simX_n (i := 0) (by omega), simA_n (i := 0) (by omega), simX_n (i := 1) (by omega), simA_n (i := 1) (by omega), simX_n (i := 2) (by omega), simA_n (i := 2) (by omega), simX_n (i := 3) (by omega), simA_y (i := 3) (by omega), simX_n (i := 4) (by omega), simA_n (i := 4) (by omega), simX_n (i := 5) (by omega), simA_n (i := 5) (by omega)]
  have u0 := c_User 0 (by omega)
  have u1 := c_User 1 (by omega)
  have u2 := c_User 2 (by omega)
  have s0 := c_Service 0 (by omega)
  have s1 := c_Service 1 (by omega)
  have s2 := c_Service 2 (by omega)
  generalize userN 0 = U0 at *
  generalize userN 1 = U1 at *
  generalize userN 2 = U2 at *
  generalize serviceN 0 = S0 at *
  generalize serviceN 1 = S1 at *
  generalize serviceN 2 = S2 at *
  generalize serviceI 0 = I0 at *
  generalize serviceI 1 = I1 at *
  generalize serviceI 2 = I2 at *
  refine Fn_intro (G := g9) (goodA rfl) (fn := Tryz.f9) rfl rfl rfl rfl rfl ?_
  (repeat' ((conv => whnf) <;> first | exact rfl | with_reducible refine boolK_dec (fun _ => ?_) (fun _ => ?_) <;> try (exfalso; omega) | refine boolK_beq (fun _ => ?_) (fun _ => ?_) <;> try (exfalso; first | omega | with_reducible contradiction) | refine boolK_bne (fun _ => ?_) (fun _ => ?_) <;> try (exfalso; first | omega | with_reducible contradiction) | (with_reducible first | refine boolK_not ?_ | refine boolK_and ?_ | refine boolK_or ?_ | refine boolK_true ?_ | refine boolK_false ?_) | refine boolK_intro (fun _ => ?_) (fun _ => ?_) <;> try (exfalso; simp_all; done) | refine jA ?_ | refine jB ?_ | refine jC ?_ | refine jD ?_ | refine jE ?_ | refine jF ?_ | refine jG ?_ | refine jH ?_ | refine jI ?_ | refine jJ ?_ | refine jK ?_ | with_reducible refine natK_lit ?_ | refine natK_of rfl ?_ | refine natK_any ?_ | refine jL ?_ | refine jM ?_ | refine jN ?_ | refine jO ?_ | refine jP ?_ | refine jQ ?_ | refine jR ?_ | refine jS ?_ | refine jT ?_ | refine jU (fun _ => ?_) | refine jV ?_ | refine jW ?_ | refine jX ?_ | refine jY ?_ | refine jZ ?_ | refine ja ?_ | refine jb ?_ | refine jc ?_ | refine jd ?_ | refine je ?_ | refine jf ?_ | refine jg ?_ | refine jh ?_ | refine ji ?_ | refine jj ?_ | refine jk ?_ | refine jo ?_ | refine jp ?_ | refine jq ?_ | refine jr ?_ | refine js ?_ | refine callK_intro (u0) ?_ | refine callK_intro (u1) ?_ | refine callK_intro (u2) ?_ | refine callK_intro (s0) ?_ | refine callK_intro (s1) ?_ | refine callK_intro (s2) ?_ | refine callK_intro (c_Long _ (by omega)) ?_ | refine loopK_step (G := g9) ?_ | refine jt ?_ | refine jy ?_ | refine ju ?_ | refine sideK_intro (by first | (exact ⟨rfl, rfl⟩)) ?_ | refine jv ?_)) <;> (try (conv => whnf))
theorem c_Sim4 (life ex bad : UInt8) (h : (bad.toNat : Int) % 16 = 4) : Fn Tryz.prog 9 [.o (.i .u8 (life.toNat : Int)), .o (.i .u8 (ex.toNat : Int)), .o (.i .u8 (bad.toNat : Int))] [] (.one (.sa [.s [65, 84, 72]] (flat deR (simO (life.toNat : Int) (ex.toNat : Int) (bad.toNat : Int))) 6 9 [])) [] := by
  have h1 := byte_lt life
  have h2 := byte_lt ex
  have h3 := byte_lt bad
  rw [show flat deR (simO (life.toNat : Int) (ex.toNat : Int) (bad.toNat : Int)) = [.s (userN 0), .s ([]), .i .u64 (longK 0), .i .i64 3, .i .i64 (simX (ex.toNat : Int) (bad.toNat : Int) 0), .i .i64 (life.toNat : Int), .i .i64 (simA (bad.toNat : Int) 0), .i .i64 0, .i .i64 0, .s (userN 1), .s ([]), .i .u64 (longK 1), .i .i64 4, .i .i64 (simX (ex.toNat : Int) (bad.toNat : Int) 1), .i .i64 (life.toNat : Int), .i .i64 (simA (bad.toNat : Int) 1), .i .i64 0, .i .i64 0, .s (userN 2), .s ([]), .i .u64 (longK 2), .i .i64 5, .i .i64 (simX (ex.toNat : Int) (bad.toNat : Int) 2), .i .i64 (life.toNat : Int), .i .i64 (simA (bad.toNat : Int) 2), .i .i64 0, .i .i64 0, .s (serviceN 2), .s (serviceI 2), .i .u64 (longK 3), .i .i64 6, .i .i64 (simX (ex.toNat : Int) (bad.toNat : Int) 3), .i .i64 (life.toNat : Int), .i .i64 (simA (bad.toNat : Int) 3), .i .i64 0, .i .i64 0, .s (serviceN 0), .s (serviceI 0), .i .u64 (longK 4), .i .i64 7, .i .i64 (simX (ex.toNat : Int) (bad.toNat : Int) 4), .i .i64 (life.toNat : Int), .i .i64 (simA (bad.toNat : Int) 4), .i .i64 0, .i .i64 0, .s (serviceN 1), .s (serviceI 1), .i .u64 (longK 5), .i .i64 8, .i .i64 (simX (ex.toNat : Int) (bad.toNat : Int) 5), .i .i64 (life.toNat : Int), .i .i64 (simA (bad.toNat : Int) 5), .i .i64 0, .i .i64 0] from rfl]
  rw [simX_n (i := 0) (by omega), simA_n (i := 0) (by omega), simX_n (i := 1) (by omega), simA_n (i := 1) (by omega), simX_n (i := 2) (by omega), simA_n (i := 2) (by omega), simX_n (i := 3) (by omega), simA_n (i := 3) (by omega), simX_n (i := 4) (by omega), simA_y (i := 4) (by omega), simX_n (i := 5) (by omega), simA_n (i := 5) (by omega)]
  have u0 := c_User 0 (by omega)
  have u1 := c_User 1 (by omega)
  have u2 := c_User 2 (by omega)
  have s0 := c_Service 0 (by omega)
  have s1 := c_Service 1 (by omega)
  have s2 := c_Service 2 (by omega)
  generalize userN 0 = U0 at *
  generalize userN 1 = U1 at *
  generalize userN 2 = U2 at *
  generalize serviceN 0 = S0 at *
  generalize serviceN 1 = S1 at *
  generalize serviceN 2 = S2 at *
  generalize serviceI 0 = I0 at *
  generalize serviceI 1 = I1 at *
  generalize serviceI 2 = I2 at *
  refine Fn_intro (G := g9) (goodA rfl) (fn := Tryz.f9) rfl rfl rfl rfl rfl ?_
  (repeat' ((conv => whnf) <;> first | exact rfl | with_reducible refine boolK_dec (fun _ => ?_) (fun _ => ?_) <;> try (exfalso; omega) | refine boolK_beq (fun _ => ?_) (fun _ => ?_) <;> try (exfalso; first | omega | with_reducible contradiction) | refine boolK_bne (fun _ => ?_) (fun _ => ?_) <;> try (exfalso; first | omega | with_reducible contradiction) | (with_reducible first | refine boolK_not ?_ | refine boolK_and ?_ | refine boolK_or ?_ | refine boolK_true ?_ | refine boolK_false ?_) | refine boolK_intro (fun _ => ?_) (fun _ => ?_) <;> try (exfalso; simp_all; done) | refine jA ?_ | refine jB ?_ | refine jC ?_ | refine jD ?_ | refine jE ?_ | refine jF ?_ | refine jG ?_ | refine jH ?_ | refine jI ?_ | refine jJ ?_ | refine jK ?_ | with_reducible refine natK_lit ?_ | refine natK_of rfl ?_ | refine natK_any ?_ | refine jL ?_ | refine jM ?_ | refine jN ?_ | refine jO ?_ | refine jP ?_ | refine jQ ?_ | refine jR ?_ | refine jS ?_ | refine jT ?_ | refine jU (fun _ => ?_) | refine jV ?_ | refine jW ?_ | refine jX ?_ | refine jY ?_ | refine jZ ?_ | refine ja ?_ | refine jb ?_ | refine jc ?_ | refine jd ?_ | refine je ?_ | refine jf ?_ | refine jg ?_ | refine jh ?_ | refine ji ?_ | refine jj ?_ | refine jk ?_ | refine jo ?_ | refine jp ?_ | refine jq ?_ | refine jr ?_ | refine js ?_ | refine callK_intro (u0) ?_ | refine callK_intro (u1) ?_ | refine callK_intro (u2) ?_ | refine callK_intro (s0) ?_ | refine callK_intro (s1) ?_ | refine callK_intro (s2) ?_ | refine callK_intro (c_Long _ (by omega)) ?_ | refine loopK_step (G := g9) ?_ | refine jt ?_ | refine jy ?_ | refine ju ?_ | refine sideK_intro (by first | (exact ⟨rfl, rfl⟩)) ?_ | refine jv ?_)) <;> (try (conv => whnf))
theorem c_Sim5 (life ex bad : UInt8) (h : (bad.toNat : Int) % 16 = 5) : Fn Tryz.prog 9 [.o (.i .u8 (life.toNat : Int)), .o (.i .u8 (ex.toNat : Int)), .o (.i .u8 (bad.toNat : Int))] [] (.one (.sa [.s [65, 84, 72]] (flat deR (simO (life.toNat : Int) (ex.toNat : Int) (bad.toNat : Int))) 6 9 [])) [] := by
  have h1 := byte_lt life
  have h2 := byte_lt ex
  have h3 := byte_lt bad
  rw [show flat deR (simO (life.toNat : Int) (ex.toNat : Int) (bad.toNat : Int)) = [.s (userN 0), .s ([]), .i .u64 (longK 0), .i .i64 3, .i .i64 (simX (ex.toNat : Int) (bad.toNat : Int) 0), .i .i64 (life.toNat : Int), .i .i64 (simA (bad.toNat : Int) 0), .i .i64 0, .i .i64 0, .s (userN 1), .s ([]), .i .u64 (longK 1), .i .i64 4, .i .i64 (simX (ex.toNat : Int) (bad.toNat : Int) 1), .i .i64 (life.toNat : Int), .i .i64 (simA (bad.toNat : Int) 1), .i .i64 0, .i .i64 0, .s (userN 2), .s ([]), .i .u64 (longK 2), .i .i64 5, .i .i64 (simX (ex.toNat : Int) (bad.toNat : Int) 2), .i .i64 (life.toNat : Int), .i .i64 (simA (bad.toNat : Int) 2), .i .i64 0, .i .i64 0, .s (serviceN 2), .s (serviceI 2), .i .u64 (longK 3), .i .i64 6, .i .i64 (simX (ex.toNat : Int) (bad.toNat : Int) 3), .i .i64 (life.toNat : Int), .i .i64 (simA (bad.toNat : Int) 3), .i .i64 0, .i .i64 0, .s (serviceN 0), .s (serviceI 0), .i .u64 (longK 4), .i .i64 7, .i .i64 (simX (ex.toNat : Int) (bad.toNat : Int) 4), .i .i64 (life.toNat : Int), .i .i64 (simA (bad.toNat : Int) 4), .i .i64 0, .i .i64 0, .s (serviceN 1), .s (serviceI 1), .i .u64 (longK 5), .i .i64 8, .i .i64 (simX (ex.toNat : Int) (bad.toNat : Int) 5), .i .i64 (life.toNat : Int), .i .i64 (simA (bad.toNat : Int) 5), .i .i64 0, .i .i64 0] from rfl]
  rw [simX_n (i := 0) (by omega), simA_n (i := 0) (by omega), simX_n (i := 1) (by omega), simA_n (i := 1) (by omega), simX_n (i := 2) (by omega), simA_n (i := 2) (by omega), simX_n (i := 3) (by omega), simA_n (i := 3) (by omega), simX_n (i := 4) (by omega), simA_n (i := 4) (by omega), simX_n (i := 5) (by omega), simA_y (i := 5) (by omega)]
  have u0 := c_User 0 (by omega)
  have u1 := c_User 1 (by omega)
  have u2 := c_User 2 (by omega)
  have s0 := c_Service 0 (by omega)
  have s1 := c_Service 1 (by omega)
  have s2 := c_Service 2 (by omega)
  generalize userN 0 = U0 at *
  generalize userN 1 = U1 at *
  generalize userN 2 = U2 at *
  generalize serviceN 0 = S0 at *
  generalize serviceN 1 = S1 at *
  generalize serviceN 2 = S2 at *
  generalize serviceI 0 = I0 at *
  generalize serviceI 1 = I1 at *
  generalize serviceI 2 = I2 at *
  refine Fn_intro (G := g9) (goodA rfl) (fn := Tryz.f9) rfl rfl rfl rfl rfl ?_
  (repeat' ((conv => whnf) <;> first | exact rfl | with_reducible refine boolK_dec (fun _ => ?_) (fun _ => ?_) <;> try (exfalso; omega) | refine boolK_beq (fun _ => ?_) (fun _ => ?_) <;> try (exfalso; first | omega | with_reducible contradiction) | refine boolK_bne (fun _ => ?_) (fun _ => ?_) <;> try (exfalso; first | omega | with_reducible contradiction) | (with_reducible first | refine boolK_not ?_ | refine boolK_and ?_ | refine boolK_or ?_ | refine boolK_true ?_ | refine boolK_false ?_) | refine boolK_intro (fun _ => ?_) (fun _ => ?_) <;> try (exfalso; simp_all; done) | refine jA ?_ | refine jB ?_ | refine jC ?_ | refine jD ?_ | refine jE ?_ | refine jF ?_ | refine jG ?_ | refine jH ?_ | refine jI ?_ | refine jJ ?_ | refine jK ?_ | with_reducible refine natK_lit ?_ | refine natK_of rfl ?_ | refine natK_any ?_ | refine jL ?_ | refine jM ?_ | refine jN ?_ | refine jO ?_ | refine jP ?_ | refine jQ ?_ | refine jR ?_ | refine jS ?_ | refine jT ?_ | refine jU (fun _ => ?_) | refine jV ?_ | refine jW ?_ | refine jX ?_ | refine jY ?_ | refine jZ ?_ | refine ja ?_ | refine jb ?_ | refine jc ?_ | refine jd ?_ | refine je ?_ | refine jf ?_ | refine jg ?_ | refine jh ?_ | refine ji ?_ | refine jj ?_ | refine jk ?_ | refine jo ?_ | refine jp ?_ | refine jq ?_ | refine jr ?_ | refine js ?_ | refine callK_intro (u0) ?_ | refine callK_intro (u1) ?_ | refine callK_intro (u2) ?_ | refine callK_intro (s0) ?_ | refine callK_intro (s1) ?_ | refine callK_intro (s2) ?_ | refine callK_intro (c_Long _ (by omega)) ?_ | refine loopK_step (G := g9) ?_ | refine jt ?_ | refine jy ?_ | refine ju ?_ | refine sideK_intro (by first | (exact ⟨rfl, rfl⟩)) ?_ | refine jv ?_)) <;> (try (conv => whnf))
theorem c_Sim8 (life ex bad : UInt8) (h : (bad.toNat : Int) % 16 = 8) : Fn Tryz.prog 9 [.o (.i .u8 (life.toNat : Int)), .o (.i .u8 (ex.toNat : Int)), .o (.i .u8 (bad.toNat : Int))] [] (.one (.sa [.s [65, 84, 72]] (flat deR (simO (life.toNat : Int) (ex.toNat : Int) (bad.toNat : Int))) 6 9 [])) [] := by
  have h1 := byte_lt life
  have h2 := byte_lt ex
  have h3 := byte_lt bad
  rw [show flat deR (simO (life.toNat : Int) (ex.toNat : Int) (bad.toNat : Int)) = [.s (userN 0), .s ([]), .i .u64 (longK 0), .i .i64 3, .i .i64 (simX (ex.toNat : Int) (bad.toNat : Int) 0), .i .i64 (life.toNat : Int), .i .i64 (simA (bad.toNat : Int) 0), .i .i64 0, .i .i64 0, .s (userN 1), .s ([]), .i .u64 (longK 1), .i .i64 4, .i .i64 (simX (ex.toNat : Int) (bad.toNat : Int) 1), .i .i64 (life.toNat : Int), .i .i64 (simA (bad.toNat : Int) 1), .i .i64 0, .i .i64 0, .s (userN 2), .s ([]), .i .u64 (longK 2), .i .i64 5, .i .i64 (simX (ex.toNat : Int) (bad.toNat : Int) 2), .i .i64 (life.toNat : Int), .i .i64 (simA (bad.toNat : Int) 2), .i .i64 0, .i .i64 0, .s (serviceN 2), .s (serviceI 2), .i .u64 (longK 3), .i .i64 6, .i .i64 (simX (ex.toNat : Int) (bad.toNat : Int) 3), .i .i64 (life.toNat : Int), .i .i64 (simA (bad.toNat : Int) 3), .i .i64 0, .i .i64 0, .s (serviceN 0), .s (serviceI 0), .i .u64 (longK 4), .i .i64 7, .i .i64 (simX (ex.toNat : Int) (bad.toNat : Int) 4), .i .i64 (life.toNat : Int), .i .i64 (simA (bad.toNat : Int) 4), .i .i64 0, .i .i64 0, .s (serviceN 1), .s (serviceI 1), .i .u64 (longK 5), .i .i64 8, .i .i64 (simX (ex.toNat : Int) (bad.toNat : Int) 5), .i .i64 (life.toNat : Int), .i .i64 (simA (bad.toNat : Int) 5), .i .i64 0, .i .i64 0] from rfl]
  rw [simX_y (i := 0) (by omega), simA_n (i := 0) (by omega), simX_n (i := 1) (by omega), simA_n (i := 1) (by omega), simX_n (i := 2) (by omega), simA_n (i := 2) (by omega), simX_n (i := 3) (by omega), simA_n (i := 3) (by omega), simX_n (i := 4) (by omega), simA_n (i := 4) (by omega), simX_n (i := 5) (by omega), simA_n (i := 5) (by omega)]
  have u0 := c_User 0 (by omega)
  have u1 := c_User 1 (by omega)
  have u2 := c_User 2 (by omega)
  have s0 := c_Service 0 (by omega)
  have s1 := c_Service 1 (by omega)
  have s2 := c_Service 2 (by omega)
  generalize userN 0 = U0 at *
  generalize userN 1 = U1 at *
  generalize userN 2 = U2 at *
  generalize serviceN 0 = S0 at *
  generalize serviceN 1 = S1 at *
  generalize serviceN 2 = S2 at *
  generalize serviceI 0 = I0 at *
  generalize serviceI 1 = I1 at *
  generalize serviceI 2 = I2 at *
  refine Fn_intro (G := g9) (goodA rfl) (fn := Tryz.f9) rfl rfl rfl rfl rfl ?_
  (repeat' ((conv => whnf) <;> first | exact rfl | with_reducible refine boolK_dec (fun _ => ?_) (fun _ => ?_) <;> try (exfalso; omega) | refine boolK_beq (fun _ => ?_) (fun _ => ?_) <;> try (exfalso; first | omega | with_reducible contradiction) | refine boolK_bne (fun _ => ?_) (fun _ => ?_) <;> try (exfalso; first | omega | with_reducible contradiction) | (with_reducible first | refine boolK_not ?_ | refine boolK_and ?_ | refine boolK_or ?_ | refine boolK_true ?_ | refine boolK_false ?_) | refine boolK_intro (fun _ => ?_) (fun _ => ?_) <;> try (exfalso; simp_all; done) | refine jA ?_ | refine jB ?_ | refine jC ?_ | refine jD ?_ | refine jE ?_ | refine jF ?_ | refine jG ?_ | refine jH ?_ | refine jI ?_ | refine jJ ?_ | refine jK ?_ | with_reducible refine natK_lit ?_ | refine natK_of rfl ?_ | refine natK_any ?_ | refine jL ?_ | refine jM ?_ | refine jN ?_ | refine jO ?_ | refine jP ?_ | refine jQ ?_ | refine jR ?_ | refine jS ?_ | refine jT ?_ | refine jU (fun _ => ?_) | refine jV ?_ | refine jW ?_ | refine jX ?_ | refine jY ?_ | refine jZ ?_ | refine ja ?_ | refine jb ?_ | refine jc ?_ | refine jd ?_ | refine je ?_ | refine jf ?_ | refine jg ?_ | refine jh ?_ | refine ji ?_ | refine jj ?_ | refine jk ?_ | refine jo ?_ | refine jp ?_ | refine jq ?_ | refine jr ?_ | refine js ?_ | refine callK_intro (u0) ?_ | refine callK_intro (u1) ?_ | refine callK_intro (u2) ?_ | refine callK_intro (s0) ?_ | refine callK_intro (s1) ?_ | refine callK_intro (s2) ?_ | refine callK_intro (c_Long _ (by omega)) ?_ | refine loopK_step (G := g9) ?_ | refine jt ?_ | refine jy ?_ | refine ju ?_ | refine sideK_intro (by first | (exact ⟨rfl, rfl⟩)) ?_ | refine jv ?_)) <;> (try (conv => whnf))
theorem c_Sim9 (life ex bad : UInt8) (h : (bad.toNat : Int) % 16 = 9) : Fn Tryz.prog 9 [.o (.i .u8 (life.toNat : Int)), .o (.i .u8 (ex.toNat : Int)), .o (.i .u8 (bad.toNat : Int))] [] (.one (.sa [.s [65, 84, 72]] (flat deR (simO (life.toNat : Int) (ex.toNat : Int) (bad.toNat : Int))) 6 9 [])) [] := by
  have h1 := byte_lt life
  have h2 := byte_lt ex
  have h3 := byte_lt bad
  rw [show flat deR (simO (life.toNat : Int) (ex.toNat : Int) (bad.toNat : Int)) = [.s (userN 0), .s ([]), .i .u64 (longK 0), .i .i64 3, .i .i64 (simX (ex.toNat : Int) (bad.toNat : Int) 0), .i .i64 (life.toNat : Int), .i .i64 (simA (bad.toNat : Int) 0), .i .i64 0, .i .i64 0, .s (userN 1), .s ([]), .i .u64 (longK 1), .i .i64 4, .i .i64 (simX (ex.toNat : Int) (bad.toNat : Int) 1), .i .i64 (life.toNat : Int), .i .i64 (simA (bad.toNat : Int) 1), .i .i64 0, .i .i64 0, .s (userN 2), .s ([]), .i .u64 (longK 2), .i .i64 5, .i .i64 (simX (ex.toNat : Int) (bad.toNat : Int) 2), .i .i64 (life.toNat : Int), .i .i64 (simA (bad.toNat : Int) 2), .i .i64 0, .i .i64 0, .s (serviceN 2), .s (serviceI 2), .i .u64 (longK 3), .i .i64 6, .i .i64 (simX (ex.toNat : Int) (bad.toNat : Int) 3), .i .i64 (life.toNat : Int), .i .i64 (simA (bad.toNat : Int) 3), .i .i64 0, .i .i64 0, .s (serviceN 0), .s (serviceI 0), .i .u64 (longK 4), .i .i64 7, .i .i64 (simX (ex.toNat : Int) (bad.toNat : Int) 4), .i .i64 (life.toNat : Int), .i .i64 (simA (bad.toNat : Int) 4), .i .i64 0, .i .i64 0, .s (serviceN 1), .s (serviceI 1), .i .u64 (longK 5), .i .i64 8, .i .i64 (simX (ex.toNat : Int) (bad.toNat : Int) 5), .i .i64 (life.toNat : Int), .i .i64 (simA (bad.toNat : Int) 5), .i .i64 0, .i .i64 0] from rfl]
  rw [simX_n (i := 0) (by omega), simA_n (i := 0) (by omega), simX_y (i := 1) (by omega), simA_n (i := 1) (by omega), simX_n (i := 2) (by omega), simA_n (i := 2) (by omega), simX_n (i := 3) (by omega), simA_n (i := 3) (by omega), simX_n (i := 4) (by omega), simA_n (i := 4) (by omega), simX_n (i := 5) (by omega), simA_n (i := 5) (by omega)]
  have u0 := c_User 0 (by omega)
  have u1 := c_User 1 (by omega)
  have u2 := c_User 2 (by omega)
  have s0 := c_Service 0 (by omega)
  have s1 := c_Service 1 (by omega)
  have s2 := c_Service 2 (by omega)
  generalize userN 0 = U0 at *
  generalize userN 1 = U1 at *
  generalize userN 2 = U2 at *
  generalize serviceN 0 = S0 at *
  generalize serviceN 1 = S1 at *
  generalize serviceN 2 = S2 at *
  generalize serviceI 0 = I0 at *
  generalize serviceI 1 = I1 at *
  generalize serviceI 2 = I2 at *
  refine Fn_intro (G := g9) (goodA rfl) (fn := Tryz.f9) rfl rfl rfl rfl rfl ?_
  (repeat' ((conv => whnf) <;> first | exact rfl | with_reducible refine boolK_dec (fun _ => ?_) (fun _ => ?_) <;> try (exfalso; omega) | refine boolK_beq (fun _ => ?_) (fun _ => ?_) <;> try (exfalso; first | omega | with_reducible contradiction) | refine boolK_bne (fun _ => ?_) (fun _ => ?_) <;> try (exfalso; first | omega | with_reducible contradiction) | (with_reducible first | refine boolK_not ?_ | refine boolK_and ?_ | refine boolK_or ?_ | refine boolK_true ?_ | refine boolK_false ?_) | refine boolK_intro (fun _ => ?_) (fun _ => ?_) <;> try (exfalso; simp_all; done) | refine jA ?_ | refine jB ?_ | refine jC ?_ | refine jD ?_ | refine jE ?_ | refine jF ?_ | refine jG ?_ | refine jH ?_ | refine jI ?_ | refine jJ ?_ | refine jK ?_ | with_reducible refine natK_lit ?_ | refine natK_of rfl ?_ | refine natK_any ?_ | refine jL ?_ | refine jM ?_ | refine jN ?_ | refine jO ?_ | refine jP ?_ | refine jQ ?_ | refine jR ?_ | refine jS ?_ | refine jT ?_ | refine jU (fun _ => ?_) | refine jV ?_ | refine jW ?_ | refine jX ?_ | refine jY ?_ | refine jZ ?_ | refine ja ?_ | refine jb ?_ | refine jc ?_ | refine jd ?_ | refine je ?_ | refine jf ?_ | refine jg ?_ | refine jh ?_ | refine ji ?_ | refine jj ?_ | refine jk ?_ | refine jo ?_ | refine jp ?_ | refine jq ?_ | refine jr ?_ | refine js ?_ | refine callK_intro (u0) ?_ | refine callK_intro (u1) ?_ | refine callK_intro (u2) ?_ | refine callK_intro (s0) ?_ | refine callK_intro (s1) ?_ | refine callK_intro (s2) ?_ | refine callK_intro (c_Long _ (by omega)) ?_ | refine loopK_step (G := g9) ?_ | refine jt ?_ | refine jy ?_ | refine ju ?_ | refine sideK_intro (by first | (exact ⟨rfl, rfl⟩)) ?_ | refine jv ?_)) <;> (try (conv => whnf))
theorem c_Sim10 (life ex bad : UInt8) (h : (bad.toNat : Int) % 16 = 10) : Fn Tryz.prog 9 [.o (.i .u8 (life.toNat : Int)), .o (.i .u8 (ex.toNat : Int)), .o (.i .u8 (bad.toNat : Int))] [] (.one (.sa [.s [65, 84, 72]] (flat deR (simO (life.toNat : Int) (ex.toNat : Int) (bad.toNat : Int))) 6 9 [])) [] := by
  have h1 := byte_lt life
  have h2 := byte_lt ex
  have h3 := byte_lt bad
  rw [show flat deR (simO (life.toNat : Int) (ex.toNat : Int) (bad.toNat : Int)) = [.s (userN 0), .s ([]), .i .u64 (longK 0), .i .i64 3, .i .i64 (simX (ex.toNat : Int) (bad.toNat : Int) 0), .i .i64 (life.toNat : Int), .i .i64 (simA (bad.toNat : Int) 0), .i .i64 0, .i .i64 0, .s (userN 1), .s ([]), .i .u64 (longK 1), .i .i64 4, .i .i64 (simX (ex.toNat : Int) (bad.toNat : Int) 1), .i .i64 (life.toNat : Int), .i .i64 (simA (bad.toNat : Int) 1), .i .i64 0, .i .i64 0, .s (userN 2), .s ([]), .i .u64 (longK 2), .i .i64 5, .i .i64 (simX (ex.toNat : Int) (bad.toNat : Int) 2), .i .i64 (life.toNat : Int), .i .i64 (simA (bad.toNat : Int) 2), .i .i64 0, .i .i64 0, .s (serviceN 2), .s (serviceI 2), .i .u64 (longK 3), .i .i64 6, .i .i64 (simX (ex.toNat : Int) (bad.toNat : Int) 3), .i .i64 (life.toNat : Int), .i .i64 (simA (bad.toNat : Int) 3), .i .i64 0, .i .i64 0, .s (serviceN 0), .s (serviceI 0), .i .u64 (longK 4), .i .i64 7, .i .i64 (simX (ex.toNat : Int) (bad.toNat : Int) 4), .i .i64 (life.toNat : Int), .i .i64 (simA (bad.toNat : Int) 4), .i .i64 0, .i .i64 0, .s (serviceN 1), .s (serviceI 1), .i .u64 (longK 5), .i .i64 8, .i .i64 (simX (ex.toNat : Int) (bad.toNat : Int) 5), .i .i64 (life.toNat : Int), .i .i64 (simA (bad.toNat : Int) 5), .i .i64 0, .i .i64 0] from rfl]
  rw [simX_n (i := 0) (by omega), simA_n (i := 0) (by omega), simX_n (i := 1) (by omega), simA_n (i := 1) (by omega), simX_y (i := 2) (by omega), simA_n (i := 2) (by omega), simX_n (i := 3) (by omega), simA_n (i := 3) (by omega), simX_n (i := 4) (by omega), simA_n (i := 4) (by omega), simX_n (i := 5) (by omega), simA_n (i := 5) (by omega)]
  have u0 := c_User 0 (by omega)
  have u1 := c_User 1 (by omega)
  have u2 := c_User 2 (by omega)
  have s0 := c_Service 0 (by omega)
  have s1 := c_Service 1 (by omega)
  have s2 := c_Service 2 (by omega)
  generalize userN 0 = U0 at *
  generalize userN 1 = U1 at *
  generalize userN 2 = U2 at *
  generalize serviceN 0 = S0 at *
  generalize serviceN 1 = S1 at *
  generalize serviceN 2 = S2 at *
  generalize serviceI 0 = I0 at *
  generalize serviceI 1 = I1 at *
  generalize serviceI 2 = I2 at *
  refine Fn_intro (G := g9) (goodA rfl) (fn := Tryz.f9) rfl rfl rfl rfl rfl ?_
  (repeat' ((conv => whnf) <;> first | exact rfl | with_reducible refine boolK_dec (fun _ => ?_) (fun _ => ?_) <;> try (exfalso; omega) | refine boolK_beq (fun _ => ?_) (fun _ => ?_) <;> try (exfalso; first | omega | with_reducible contradiction) | refine boolK_bne (fun _ => ?_) (fun _ => ?_) <;> try (exfalso; first | omega | with_reducible contradiction) | (with_reducible first | refine boolK_not ?_ | refine boolK_and ?_ | refine boolK_or ?_ | refine boolK_true ?_ | refine boolK_false ?_) | refine boolK_intro (fun _ => ?_) (fun _ => ?_) <;> try (exfalso; simp_all; done) | refine jA ?_ | refine jB ?_ | refine jC ?_ | refine jD ?_ | refine jE ?_ | refine jF ?_ | refine jG ?_ | refine jH ?_ | refine jI ?_ | refine jJ ?_ | refine jK ?_ | with_reducible refine natK_lit ?_ | refine natK_of rfl ?_ | refine natK_any ?_ | refine jL ?_ | refine jM ?_ | refine jN ?_ | refine jO ?_ | refine jP ?_ | refine jQ ?_ | refine jR ?_ | refine jS ?_ | refine jT ?_ | refine jU (fun _ => ?_) | refine jV ?_ | refine jW ?_ | refine jX ?_ | refine jY ?_ | refine jZ ?_ | refine ja ?_ | refine jb ?_ | refine jc ?_ | refine jd ?_ | refine je ?_ | refine jf ?_ | refine jg ?_ | refine jh ?_ | refine ji ?_ | refine jj ?_ | refine jk ?_ | refine jo ?_ | refine jp ?_ | refine jq ?_ | refine jr ?_ | refine js ?_ | refine callK_intro (u0) ?_ | refine callK_intro (u1) ?_ | refine callK_intro (u2) ?_ | refine callK_intro (s0) ?_ | refine callK_intro (s1) ?_ | refine callK_intro (s2) ?_ | refine callK_intro (c_Long _ (by omega)) ?_ | refine loopK_step (G := g9) ?_ | refine jt ?_ | refine jy ?_ | refine ju ?_ | refine sideK_intro (by first | (exact ⟨rfl, rfl⟩)) ?_ | refine jv ?_)) <;> (try (conv => whnf))
theorem c_Sim11 (life ex bad : UInt8) (h : (bad.toNat : Int) % 16 = 11) : Fn Tryz.prog 9 [.o (.i .u8 (life.toNat : Int)), .o (.i .u8 (ex.toNat : Int)), .o (.i .u8 (bad.toNat : Int))] [] (.one (.sa [.s [65, 84, 72]] (flat deR (simO (life.toNat : Int) (ex.toNat : Int) (bad.toNat : Int))) 6 9 [])) [] := by
  have h1 := byte_lt life
  have h2 := byte_lt ex
  have h3 := byte_lt bad
  rw [show flat deR (simO (life.toNat : Int) (ex.toNat : Int) (bad.toNat : Int)) = [.s (userN 0), .s ([]), .i .u64 (longK 0), .i .i64 3, .i .i64 (simX (ex.toNat : Int) (bad.toNat : Int) 0), .i .i64 (life.toNat : Int), .i .i64 (simA (bad.toNat : Int) 0), .i .i64 0, .i .i64 0, .s (userN 1), .s ([]), .i .u64 (longK 1), .i .i64 4, .i .i64 (simX (ex.toNat : Int) (bad.toNat : Int) 1), .i .i64 (life.toNat : Int), .i .i64 (simA (bad.toNat : Int) 1), .i .i64 0, .i .i64 0, .s (userN 2), .s ([]), .i .u64 (longK 2), .i .i64 5, .i .i64 (simX (ex.toNat : Int) (bad.toNat : Int) 2), .i .i64 (life.toNat : Int), .i .i64 (simA (bad.toNat : Int) 2), .i .i64 0, .i .i64 0, .s (serviceN 2), .s (serviceI 2), .i .u64 (longK 3), .i .i64 6, .i .i64 (simX (ex.toNat : Int) (bad.toNat : Int) 3), .i .i64 (life.toNat : Int), .i .i64 (simA (bad.toNat : Int) 3), .i .i64 0, .i .i64 0, .s (serviceN 0), .s (serviceI 0), .i .u64 (longK 4), .i .i64 7, .i .i64 (simX (ex.toNat : Int) (bad.toNat : Int) 4), .i .i64 (life.toNat : Int), .i .i64 (simA (bad.toNat : Int) 4), .i .i64 0, .i .i64 0, .s (serviceN 1), .s (serviceI 1), .i .u64 (longK 5), .i .i64 8, .i .i64 (simX (ex.toNat : Int) (bad.toNat : Int) 5), .i .i64 (life.toNat : Int), .i .i64 (simA (bad.toNat : Int) 5), .i .i64 0, .i .i64 0] from rfl]
  rw [simX_n (i := 0) (by omega), simA_n (i := 0) (by omega), simX_n (i := 1) (by omega), simA_n (i := 1) (by omega), simX_n (i := 2) (by omega), simA_n (i := 2) (by omega), simX_y (i := 3) (by omega), simA_n (i := 3) (by omega), simX_n (i := 4) (by omega), simA_n (i := 4) (by omega), simX_n (i := 5) (by omega), simA_n (i := 5) (by omega)]
  have u0 := c_User 0 (by omega)
  have u1 := c_User 1 (by omega)
  have u2 := c_User 2 (by omega)
  have s0 := c_Service 0 (by omega)
  have s1 := c_Service 1 (by omega)
  have s2 := c_Service 2 (by omega)
  generalize userN 0 = U0 at *
  generalize userN 1 = U1 at *
  generalize userN 2 = U2 at *
  generalize serviceN 0 = S0 at *
  generalize serviceN 1 = S1 at *
  generalize serviceN 2 = S2 at *
  generalize serviceI 0 = I0 at *
  generalize serviceI 1 = I1 at *
  generalize serviceI 2 = I2 at *
  refine Fn_intro (G := g9) (goodA rfl) (fn := Tryz.f9) rfl rfl rfl rfl rfl ?_
  (repeat' ((conv => whnf) <;> first | exact rfl | with_reducible refine boolK_dec (fun _ => ?_) (fun _ => ?_) <;> try (exfalso; omega) | refine boolK_beq (fun _ => ?_) (fun _ => ?_) <;> try (exfalso; first | omega | with_reducible contradiction) | refine boolK_bne (fun _ => ?_) (fun _ => ?_) <;> try (exfalso; first | omega | with_reducible contradiction) | (with_reducible first | refine boolK_not ?_ | refine boolK_and ?_ | refine boolK_or ?_ | refine boolK_true ?_ | refine boolK_false ?_) | refine boolK_intro (fun _ => ?_) (fun _ => ?_) <;> try (exfalso; simp_all; done) | refine jA ?_ | refine jB ?_ | refine jC ?_ | refine jD ?_ | refine jE ?_ | refine jF ?_ | refine jG ?_ | refine jH ?_ | refine jI ?_ | refine jJ ?_ | refine jK ?_ | with_reducible refine natK_lit ?_ | refine natK_of rfl ?_ | refine natK_any ?_ | refine jL ?_ | refine jM ?_ | refine jN ?_ | refine jO ?_ | refine jP ?_ | refine jQ ?_ | refine jR ?_ | refine jS ?_ | refine jT ?_ | refine jU (fun _ => ?_) | refine jV ?_ | refine jW ?_ | refine jX ?_ | refine jY ?_ | refine jZ ?_ | refine ja ?_ | refine jb ?_ | refine jc ?_ | refine jd ?_ | refine je ?_ | refine jf ?_ | refine jg ?_ | refine jh ?_ | refine ji ?_ | refine jj ?_ | refine jk ?_ | refine jo ?_ | refine jp ?_ | refine jq ?_ | refine jr ?_ | refine js ?_ | refine callK_intro (u0) ?_ | refine callK_intro (u1) ?_ | refine callK_intro (u2) ?_ | refine callK_intro (s0) ?_ | refine callK_intro (s1) ?_ | refine callK_intro (s2) ?_ | refine callK_intro (c_Long _ (by omega)) ?_ | refine loopK_step (G := g9) ?_ | refine jt ?_ | refine jy ?_ | refine ju ?_ | refine sideK_intro (by first | (exact ⟨rfl, rfl⟩)) ?_ | refine jv ?_)) <;> (try (conv => whnf))
theorem c_Sim12 (life ex bad : UInt8) (h : (bad.toNat : Int) % 16 = 12) : Fn Tryz.prog 9 [.o (.i .u8 (life.toNat : Int)), .o (.i .u8 (ex.toNat : Int)), .o (.i .u8 (bad.toNat : Int))] [] (.one (.sa [.s [65, 84, 72]] (flat deR (simO (life.toNat : Int) (ex.toNat : Int) (bad.toNat : Int))) 6 9 [])) [] := by
  have h1 := byte_lt life
  have h2 := byte_lt ex
  have h3 := byte_lt bad
  rw [show flat deR (simO (life.toNat : Int) (ex.toNat : Int) (bad.toNat : Int)) = [.s (userN 0), .s ([]), .i .u64 (longK 0), .i .i64 3, .i .i64 (simX (ex.toNat : Int) (bad.toNat : Int) 0), .i .i64 (life.toNat : Int), .i .i64 (simA (bad.toNat : Int) 0), .i .i64 0, .i .i64 0, .s (userN 1), .s ([]), .i .u64 (longK 1), .i .i64 4, .i .i64 (simX (ex.toNat : Int) (bad.toNat : Int) 1), .i .i64 (life.toNat : Int), .i .i64 (simA (bad.toNat : Int) 1), .i .i64 0, .i .i64 0, .s (userN 2), .s ([]), .i .u64 (longK 2), .i .i64 5, .i .i64 (simX (ex.toNat : Int) (bad.toNat : Int) 2), .i .i64 (life.toNat : Int), .i .i64 (simA (bad.toNat : Int) 2), .i .i64 0, .i .i64 0, .s (serviceN 2), .s (serviceI 2), .i .u64 (longK 3), .i .i64 6, .i .i64 (simX (ex.toNat : Int) (bad.toNat : Int) 3), .i .i64 (life.toNat : Int), .i .i64 (simA (bad.toNat : Int) 3), .i .i64 0, .i .i64 0, .s (serviceN 0), .s (serviceI 0), .i .u64 (longK 4), .i .i64 7, .i .i64 (simX (ex.toNat : Int) (bad.toNat : Int) 4), .i .i64 (life.toNat : Int), .i .i64 (simA (bad.toNat : Int) 4), .i .i64 0, .i .i64 0, .s (serviceN 1), .s (serviceI 1), .i .u64 (longK 5), .i .i64 8, .i .i64 (simX (ex.toNat : Int) (bad.toNat : Int) 5), .i .i64 (life.toNat : Int), .i .i64 (simA (bad.toNat : Int) 5), .i .i64 0, .i .i64 0] from rfl]
  rw [simX_n (i := 0) (by omega), simA_n (i := 0) (by omega), simX_n (i := 1) (by omega), simA_n (i := 1) (by omega), simX_n (i := 2) (by omega), simA_n (i := 2) (by omega), simX_n (i := 3) (by omega), simA_n (i := 3) (by omega), simX_y (i := 4) (by omega), simA_n (i := 4) (by omega), simX_n (i := 5) (by omega), simA_n (i := 5) (by omega)]
  have u0 := c_User 0 (by omega)
  have u1 := c_User 1 (by omega)
  have u2 := c_User 2 (by omega)
  have s0 := c_Service 0 (by omega)
  have s1 := c_Service 1 (by omega)
  have s2 := c_Service 2 (by omega)
  generalize userN 0 = U0 at *
  generalize userN 1 = U1 at *
  generalize userN 2 = U2 at *
  generalize serviceN 0 = S0 at *
  generalize serviceN 1 = S1 at *
  generalize serviceN 2 = S2 at *
  generalize serviceI 0 = I0 at *
  generalize serviceI 1 = I1 at *
  generalize serviceI 2 = I2 at *
  refine Fn_intro (G := g9) (goodA rfl) (fn := Tryz.f9) rfl rfl rfl rfl rfl ?_
  (repeat' ((conv => whnf) <;> first | exact rfl | with_reducible refine boolK_dec (fun _ => ?_) (fun _ => ?_) <;> try (exfalso; omega) | refine boolK_beq (fun _ => ?_) (fun _ => ?_) <;> try (exfalso; first | omega | with_reducible contradiction) | refine boolK_bne (fun _ => ?_) (fun _ => ?_) <;> try (exfalso; first | omega | with_reducible contradiction) | (with_reducible first | refine boolK_not ?_ | refine boolK_and ?_ | refine boolK_or ?_ | refine boolK_true ?_ | refine boolK_false ?_) | refine boolK_intro (fun _ => ?_) (fun _ => ?_) <;> try (exfalso; simp_all; done) | refine jA ?_ | refine jB ?_ | refine jC ?_ | refine jD ?_ | refine jE ?_ | refine jF ?_ | refine jG ?_ | refine jH ?_ | refine jI ?_ | refine jJ ?_ | refine jK ?_ | with_reducible refine natK_lit ?_ | refine natK_of rfl ?_ | refine natK_any ?_ | refine jL ?_ | refine jM ?_ | refine jN ?_ | refine jO ?_ | refine jP ?_ | refine jQ ?_ | refine jR ?_ | refine jS ?_ | refine jT ?_ | refine jU (fun _ => ?_) | refine jV ?_ | refine jW ?_ | refine jX ?_ | refine jY ?_ | refine jZ ?_ | refine ja ?_ | refine jb ?_ | refine jc ?_ | refine jd ?_ | refine je ?_ | refine jf ?_ | refine jg ?_ | refine jh ?_ | refine ji ?_ | refine jj ?_ | refine jk ?_ | refine jo ?_ | refine jp ?_ | refine jq ?_ | refine jr ?_ | refine js ?_ | refine callK_intro (u0) ?_ | refine callK_intro (u1) ?_ | refine callK_intro (u2) ?_ | refine callK_intro (s0) ?_ | refine callK_intro (s1) ?_ | refine callK_intro (s2) ?_ | refine callK_intro (c_Long _ (by omega)) ?_ | refine loopK_step (G := g9) ?_ | refine jt ?_ | refine jy ?_ | refine ju ?_ | refine sideK_intro (by first | (exact ⟨rfl, rfl⟩)) ?_ | refine jv ?_)) <;> (try (conv => whnf))
theorem c_Sim13 (life ex bad : UInt8) (h : (bad.toNat : Int) % 16 = 13) : Fn Tryz.prog 9 [.o (.i .u8 (life.toNat : Int)), .o (.i .u8 (ex.toNat : Int)), .o (.i .u8 (bad.toNat : Int))] [] (.one (.sa [.s [65, 84, 72]] (flat deR (simO (life.toNat : Int) (ex.toNat : Int) (bad.toNat : Int))) 6 9 [])) [] := by
  have h1 := byte_lt life
  have h2 := byte_lt ex
  have h3 := byte_lt bad
  rw [show flat deR (simO (life.toNat : Int) (ex.toNat : Int) (bad.toNat : Int)) = [.s (userN 0), .s ([]), .i .u64 (longK 0), .i .i64 3, .i .i64 (simX (ex.toNat : Int) (bad.toNat : Int) 0), .i .i64 (life.toNat : Int), .i .i64 (simA (bad.toNat : Int) 0), .i .i64 0, .i .i64 0, .s (userN 1), .s ([]), .i .u64 (longK 1), .i .i64 4, .i .i64 (simX (ex.toNat : Int) (bad.toNat : Int) 1), .i .i64 (life.toNat : Int), .i .i64 (simA (bad.toNat : Int) 1), .i .i64 0, .i .i64 0, .s (userN 2), .s ([]), .i .u64 (longK 2), .i .i64 5, .i .i64 (simX (ex.toNat : Int) (bad.toNat : Int) 2), .i .i64 (life.toNat : Int), .i .i64 (simA (bad.toNat : Int) 2), .i .i64 0, .i .i64 0, .s (serviceN 2), .s (serviceI 2), .i .u64 (longK 3), .i .i64 6, .i .i64 (simX (ex.toNat : Int) (bad.toNat : Int) 3), .i .i64 (life.toNat : Int), .i .i64 (simA (bad.toNat : Int) 3), .i .i64 0, .i .i64 0, .s (serviceN 0), .s (serviceI 0), .i .u64 (longK 4), .i .i64 7, .i .i64 (simX (ex.toNat : Int) (bad.toNat : Int) 4), .i .i64 (life.toNat : Int), .i .i64 (simA (bad.toNat : Int) 4), .i .i64 0, .i .i64 0, .s (serviceN 1), .s (serviceI 1), .i .u64 (longK 5), .i .i64 8, .i .i64 (simX (ex.toNat : Int) (bad.toNat : Int) 5), .i .i64 (life.toNat : Int), .i .i64 (simA (bad.toNat : Int) 5), .i .i64 0, .i .i64 0] from rfl]
  rw [simX_n (i := 0) (by omega), simA_n (i := 0) (by omega), simX_n (i := 1) (by omega), simA_n (i := 1) (by omega), simX_n (i := 2) (by omega), simA_n (i := 2) (by omega), simX_n (i := 3) (by omega), simA_n (i := 3) (by omega), simX_n (i := 4) (by omega), simA_n (i := 4) (by omega), simX_y (i := 5) (by omega), simA_n (i := 5) (by omega)]
  have u0 := c_User 0 (by omega)
  have u1 := c_User 1 (by omega)
  have u2 := c_User 2 (by omega)
  have s0 := c_Service 0 (by omega)
  have s1 := c_Service 1 (by omega)
  have s2 := c_Service 2 (by omega)
  generalize userN 0 = U0 at *
  generalize userN 1 = U1 at *
  generalize userN 2 = U2 at *
  generalize serviceN 0 = S0 at *
  generalize serviceN 1 = S1 at *
  generalize serviceN 2 = S2 at *
  generalize serviceI 0 = I0 at *
  generalize serviceI 1 = I1 at *
  generalize serviceI 2 = I2 at *
  refine Fn_intro (G := g9) (goodA rfl) (fn := Tryz.f9) rfl rfl rfl rfl rfl ?_
  (repeat' ((conv => whnf) <;> first | exact rfl | with_reducible refine boolK_dec (fun _ => ?_) (fun _ => ?_) <;> try (exfalso; omega) | refine boolK_beq (fun _ => ?_) (fun _ => ?_) <;> try (exfalso; first | omega | with_reducible contradiction) | refine boolK_bne (fun _ => ?_) (fun _ => ?_) <;> try (exfalso; first | omega | with_reducible contradiction) | (with_reducible first | refine boolK_not ?_ | refine boolK_and ?_ | refine boolK_or ?_ | refine boolK_true ?_ | refine boolK_false ?_) | refine boolK_intro (fun _ => ?_) (fun _ => ?_) <;> try (exfalso; simp_all; done) | refine jA ?_ | refine jB ?_ | refine jC ?_ | refine jD ?_ | refine jE ?_ | refine jF ?_ | refine jG ?_ | refine jH ?_ | refine jI ?_ | refine jJ ?_ | refine jK ?_ | with_reducible refine natK_lit ?_ | refine natK_of rfl ?_ | refine natK_any ?_ | refine jL ?_ | refine jM ?_ | refine jN ?_ | refine jO ?_ | refine jP ?_ | refine jQ ?_ | refine jR ?_ | refine jS ?_ | refine jT ?_ | refine jU (fun _ => ?_) | refine jV ?_ | refine jW ?_ | refine jX ?_ | refine jY ?_ | refine jZ ?_ | refine ja ?_ | refine jb ?_ | refine jc ?_ | refine jd ?_ | refine je ?_ | refine jf ?_ | refine jg ?_ | refine jh ?_ | refine ji ?_ | refine jj ?_ | refine jk ?_ | refine jo ?_ | refine jp ?_ | refine jq ?_ | refine jr ?_ | refine js ?_ | refine callK_intro (u0) ?_ | refine callK_intro (u1) ?_ | refine callK_intro (u2) ?_ | refine callK_intro (s0) ?_ | refine callK_intro (s1) ?_ | refine callK_intro (s2) ?_ | refine callK_intro (c_Long _ (by omega)) ?_ | refine loopK_step (G := g9) ?_ | refine jt ?_ | refine jy ?_ | refine ju ?_ | refine sideK_intro (by first | (exact ⟨rfl, rfl⟩)) ?_ | refine jv ?_)) <;> (try (conv => whnf))
theorem c_Sim99 (life ex bad : UInt8) (h : (bad.toNat : Int) % 16 = 6 ∨ (bad.toNat : Int) % 16 = 7 ∨ (bad.toNat : Int) % 16 = 14 ∨ (bad.toNat : Int) % 16 = 15) : Fn Tryz.prog 9 [.o (.i .u8 (life.toNat : Int)), .o (.i .u8 (ex.toNat : Int)), .o (.i .u8 (bad.toNat : Int))] [] (.one (.sa [.s [65, 84, 72]] (flat deR (simO (life.toNat : Int) (ex.toNat : Int) (bad.toNat : Int))) 6 9 [])) [] := by
  have h1 := byte_lt life
  have h2 := byte_lt ex
  have h3 := byte_lt bad
  rw [show flat deR (simO (life.toNat : Int) (ex.toNat : Int) (bad.toNat : Int)) = [.s (userN 0), .s ([]), .i .u64 (longK 0), .i .i64 3, .i .i64 (simX (ex.toNat : Int) (bad.toNat : Int) 0), .i .i64 (life.toNat : Int), .i .i64 (simA (bad.toNat : Int) 0), .i .i64 0, .i .i64 0, .s (userN 1), .s ([]), .i .u64 (longK 1), .i .i64 4, .i .i64 (simX (ex.toNat : Int) (bad.toNat : Int) 1), .i .i64 (life.toNat : Int), .i .i64 (simA (bad.toNat : Int) 1), .i .i64 0, .i .i64 0, .s (userN 2), .s ([]), .i .u64 (longK 2), .i .i64 5, .i .i64 (simX (ex.toNat : Int) (bad.toNat : Int) 2), .i .i64 (life.toNat : Int), .i .i64 (simA (bad.toNat : Int) 2), .i .i64 0, .i .i64 0, .s (serviceN 2), .s (serviceI 2), .i .u64 (longK 3), .i .i64 6, .i .i64 (simX (ex.toNat : Int) (bad.toNat : Int) 3), .i .i64 (life.toNat : Int), .i .i64 (simA (bad.toNat : Int) 3), .i .i64 0, .i .i64 0, .s (serviceN 0), .s (serviceI 0), .i .u64 (longK 4), .i .i64 7, .i .i64 (simX (ex.toNat : Int) (bad.toNat : Int) 4), .i .i64 (life.toNat : Int), .i .i64 (simA (bad.toNat : Int) 4), .i .i64 0, .i .i64 0, .s (serviceN 1), .s (serviceI 1), .i .u64 (longK 5), .i .i64 8, .i .i64 (simX (ex.toNat : Int) (bad.toNat : Int) 5), .i .i64 (life.toNat : Int), .i .i64 (simA (bad.toNat : Int) 5), .i .i64 0, .i .i64 0] from rfl]
  rw [simX_n (i := 0) (by omega), simA_n (i := 0) (by omega), simX_n (i := 1) (by omega), simA_n (i := 1) (by omega), simX_n (i := 2) (by omega), simA_n (i := 2) (by omega), simX_n (i := 3) (by omega), simA_n (i := 3) (by omega), simX_n (i := 4) (by omega), simA_n (i := 4) (by omega), simX_n (i := 5) (by omega), simA_n (i := 5) (by omega)]
  have u0 := c_User 0 (by omega)
  have u1 := c_User 1 (by omega)
  have u2 := c_User 2 (by omega)
  have s0 := c_Service 0 (by omega)
  have s1 := c_Service 1 (by omega)
  have s2 := c_Service 2 (by omega)
  generalize userN 0 = U0 at *
  generalize userN 1 = U1 at *
  generalize userN 2 = U2 at *
  generalize serviceN 0 = S0 at *
  generalize serviceN 1 = S1 at *
  generalize serviceN 2 = S2 at *
  generalize serviceI 0 = I0 at *
  generalize serviceI 1 = I1 at *
  generalize serviceI 2 = I2 at *
  refine Fn_intro (G := g9) (goodA rfl) (fn := Tryz.f9) rfl rfl rfl rfl rfl ?_
  (repeat' ((conv => whnf) <;> first | exact rfl | with_reducible refine boolK_dec (fun _ => ?_) (fun _ => ?_) <;> try (exfalso; omega) | refine boolK_beq (fun _ => ?_) (fun _ => ?_) <;> try (exfalso; first | omega | with_reducible contradiction) | refine boolK_bne (fun _ => ?_) (fun _ => ?_) <;> try (exfalso; first | omega | with_reducible contradiction) | (with_reducible first | refine boolK_not ?_ | refine boolK_and ?_ | refine boolK_or ?_ | refine boolK_true ?_ | refine boolK_false ?_) | refine boolK_intro (fun _ => ?_) (fun _ => ?_) <;> try (exfalso; simp_all; done) | refine jA ?_ | refine jB ?_ | refine jC ?_ | refine jD ?_ | refine jE ?_ | refine jF ?_ | refine jG ?_ | refine jH ?_ | refine jI ?_ | refine jJ ?_ | refine jK ?_ | with_reducible refine natK_lit ?_ | refine natK_of rfl ?_ | refine natK_any ?_ | refine jL ?_ | refine jM ?_ | refine jN ?_ | refine jO ?_ | refine jP ?_ | refine jQ ?_ | refine jR ?_ | refine jS ?_ | refine jT ?_ | refine jU (fun _ => ?_) | refine jV ?_ | refine jW ?_ | refine jX ?_ | refine jY ?_ | refine jZ ?_ | refine ja ?_ | refine jb ?_ | refine jc ?_ | refine jd ?_ | refine je ?_ | refine jf ?_ | refine jg ?_ | refine jh ?_ | refine ji ?_ | refine jj ?_ | refine jk ?_ | refine jo ?_ | refine jp ?_ | refine jq ?_ | refine jr ?_ | refine js ?_ | refine callK_intro (u0) ?_ | refine callK_intro (u1) ?_ | refine callK_intro (u2) ?_ | refine callK_intro (s0) ?_ | refine callK_intro (s1) ?_ | refine callK_intro (s2) ?_ | refine callK_intro (c_Long _ (by omega)) ?_ | refine loopK_step (G := g9) ?_ | refine jt ?_ | refine jy ?_ | refine ju ?_ | refine sideK_intro (by first | (exact ⟨rfl, rfl⟩)) ?_ | refine jv ?_)) <;> (try (conv => whnf))
theorem c_Simple (life ex bad : UInt8) : Fn Tryz.prog 9 [.o (.i .u8 (life.toNat : Int)), .o (.i .u8 (ex.toNat : Int)), .o (.i .u8 (bad.toNat : Int))] [] (.one (.sa [.s [65, 84, 72]] (flat deR (simO (life.toNat : Int) (ex.toNat : Int) (bad.toNat : Int))) 6 9 [])) [] := by
  have h3 := byte_lt bad
  have hb : (bad.toNat : Int) % 16 = 0 ∨ (bad.toNat : Int) % 16 = 1 ∨ (bad.toNat : Int) % 16 = 2 ∨ (bad.toNat : Int) % 16 = 3 ∨ (bad.toNat : Int) % 16 = 4 ∨ (bad.toNat : Int) % 16 = 5 ∨ (bad.toNat : Int) % 16 = 8 ∨ (bad.toNat : Int) % 16 = 9 ∨ (bad.toNat : Int) % 16 = 10 ∨ (bad.toNat : Int) % 16 = 11 ∨ (bad.toNat : Int) % 16 = 12 ∨ (bad.toNat : Int) % 16 = 13 ∨ ((bad.toNat : Int) % 16 = 6 ∨ (bad.toNat : Int) % 16 = 7 ∨ (bad.toNat : Int) % 16 = 14 ∨ (bad.toNat : Int) % 16 = 15) := by omega
  rcases hb with h | h | h | h | h | h | h | h | h | h | h | h | h
  · exact c_Sim0 life ex bad h
  · exact c_Sim1 life ex bad h
  · exact c_Sim2 life ex bad h
  · exact c_Sim3 life ex bad h
  · exact c_Sim4 life ex bad h
  · exact c_Sim5 life ex bad h
  · exact c_Sim8 life ex bad h
  · exact c_Sim9 life ex bad h
  · exact c_Sim10 life ex bad h
  · exact c_Sim11 life ex bad h
  · exact c_Sim12 life ex bad h
  · exact c_Sim13 life ex bad h
  · exact c_Sim99 life ex bad h
end Go.Sx

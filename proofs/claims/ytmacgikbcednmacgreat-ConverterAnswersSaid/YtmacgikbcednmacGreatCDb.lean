/-
  Contracts of the functions of package database and of its reference.
-/
import Derived.Test.YtmacgikbcednmacGreatPX1
import Derived.Test.YtmacgikbcednmacGreatCKey
import Derived.Test.YtmacgikbcednmacGreatCFieldP
set_option linter.all false
namespace Go.Sx
open Go.Proofs Go.RowKit
theorem headS_de {l : List DE} {j : Nat} {K : List UInt8 → List L → Prop} (h : j < l.length) (hk : K (l.getD j de0).x (.s (l.getD j de0).y :: .i .u64 (l.getD j de0).k :: .i .i64 (l.getD j de0).kv :: .i .i64 (l.getD j de0).ex :: .i .i64 (l.getD j de0).ml :: .i .i64 (l.getD j de0).atr :: .i .i64 (l.getD j de0).fl :: .i .i64 (l.getD j de0).un :: flat deR (l.drop (j + 1)))) : headS ((flat deR l).drop (j * 9)) K :=
  ⟨_, _, by rw [flat_at deR_len de0 h]; rfl, hk⟩
theorem headS_de0 {l : List DE} {j : Nat} {K : List UInt8 → List L → Prop} (h : j < l.length) (hk : K (l.getD j de0).x (.s (l.getD j de0).y :: .i .u64 (l.getD j de0).k :: .i .i64 (l.getD j de0).kv :: .i .i64 (l.getD j de0).ex :: .i .i64 (l.getD j de0).ml :: .i .i64 (l.getD j de0).atr :: .i .i64 (l.getD j de0).fl :: .i .i64 (l.getD j de0).un :: flat deR (l.drop (j + 1)))) : headS (((flat deR l).drop (j * 9)).drop 0) K :=
  ⟨_, _, by rw [flat_at deR_len de0 h]; rfl, hk⟩
theorem headS_de1 {l : List DE} {j : Nat} {K : List UInt8 → List L → Prop} (h : j < l.length) (hk : K (l.getD j de0).y (.i .u64 (l.getD j de0).k :: .i .i64 (l.getD j de0).kv :: .i .i64 (l.getD j de0).ex :: .i .i64 (l.getD j de0).ml :: .i .i64 (l.getD j de0).atr :: .i .i64 (l.getD j de0).fl :: .i .i64 (l.getD j de0).un :: flat deR (l.drop (j + 1)))) : headS (((flat deR l).drop (j * 9)).drop 1) K :=
  ⟨_, _, by rw [flat_at deR_len de0 h]; rfl, hk⟩

set_option maxRecDepth 10000
set_option maxHeartbeats 4000000
end Go.Sx

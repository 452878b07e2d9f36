/-
  Contracts of the functions that look through lists of keys of services, and of their reference.
-/
import Derived.Test.YtfagmeafkddibaaDoorPSrv
import Derived.Test.YtfagmeafkddibaaDoorCKey
import Derived.Test.YtfagmeafkddibaaDoorCFieldP
set_option linter.all false
namespace Go.Sx
open Go.Proofs Go.RowKit
theorem headS_sk {l : List SK} {j : Nat} {K : List UInt8 → List L → Prop} (h : j < l.length) (hk : K (l.getD j sk0).x (.s (l.getD j sk0).y :: .s (l.getD j sk0).z :: .i .i64 (l.getD j sk0).n :: .i .u64 (l.getD j sk0).k :: flat skR (l.drop (j + 1)))) : headS ((flat skR l).drop (j * 5)) K :=
  ⟨_, _, by rw [flat_at skR_len sk0 h]; rfl, hk⟩
theorem headS_sk0 {l : List SK} {j : Nat} {K : List UInt8 → List L → Prop} (h : j < l.length) (hk : K (l.getD j sk0).x (.s (l.getD j sk0).y :: .s (l.getD j sk0).z :: .i .i64 (l.getD j sk0).n :: .i .u64 (l.getD j sk0).k :: flat skR (l.drop (j + 1)))) : headS (((flat skR l).drop (j * 5)).drop 0) K :=
  ⟨_, _, by rw [flat_at skR_len sk0 h]; rfl, hk⟩
theorem headS_sk00 {l : List SK} {j : Nat} {K : List UInt8 → List L → Prop} (h : j < l.length) (hk : K (l.getD j sk0).x (.s (l.getD j sk0).y :: .s (l.getD j sk0).z :: .i .i64 (l.getD j sk0).n :: .i .u64 (l.getD j sk0).k :: flat skR (l.drop (j + 1)))) : headS ((((flat skR l).drop (j * 5)).drop 0).drop 0) K :=
  ⟨_, _, by rw [flat_at skR_len sk0 h]; rfl, hk⟩
theorem headS_sk1 {l : List SK} {j : Nat} {K : List UInt8 → List L → Prop} (h : j < l.length) (hk : K (l.getD j sk0).y (.s (l.getD j sk0).z :: .i .i64 (l.getD j sk0).n :: .i .u64 (l.getD j sk0).k :: flat skR (l.drop (j + 1)))) : headS ((((flat skR l).drop (j * 5)).drop 0).drop 1) K :=
  ⟨_, _, by rw [flat_at skR_len sk0 h]; rfl, hk⟩
theorem headS_sk2 {l : List SK} {j : Nat} {K : List UInt8 → List L → Prop} (h : j < l.length) (hk : K (l.getD j sk0).z (.i .i64 (l.getD j sk0).n :: .i .u64 (l.getD j sk0).k :: flat skR (l.drop (j + 1)))) : headS ((((flat skR l).drop (j * 5)).drop 0).drop 2) K :=
  ⟨_, _, by rw [flat_at skR_len sk0 h]; rfl, hk⟩
theorem headI_sk3 {l : List SK} {j : Nat} {K : Int → List L → Prop} (h : j < l.length) (hk : K (l.getD j sk0).n (.i .u64 (l.getD j sk0).k :: flat skR (l.drop (j + 1)))) : headI .i64 (((flat skR l).drop (j * 5)).drop 3) K :=
  ⟨_, _, by rw [flat_at skR_len sk0 h]; rfl, hk⟩
theorem headI_sk4 {l : List SK} {j : Nat} {K : Int → List L → Prop} (h : j < l.length) (hk : K (l.getD j sk0).k (flat skR (l.drop (j + 1)))) : headI .u64 (((flat skR l).drop (j * 5)).drop 4) K :=
  ⟨_, _, by rw [flat_at skR_len sk0 h]; rfl, hk⟩
theorem headI_bk3 {l : List SK} {j : Nat} {K : Int → List L → Prop} (h : j < l.length) (hk : K (l.getD j sk0).n (.i .u64 (l.getD j sk0).k :: flat skR (l.drop (j + 1)))) : headI .i64 ((flat skR l).drop (j * 5 + 3)) K :=
  ⟨_, _, by rw [← List.drop_drop, flat_at skR_len sk0 h]; rfl, hk⟩

set_option maxRecDepth 10000
set_option maxHeartbeats 2000000
end Go.Sx

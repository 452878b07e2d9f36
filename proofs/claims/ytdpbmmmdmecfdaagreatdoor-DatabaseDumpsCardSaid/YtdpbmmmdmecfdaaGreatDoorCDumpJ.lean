/-
  The contract of database.Dump, at any database, as the evaluator takes it.
-/
import Derived.Test.YtdpbmmmdmecfdaaGreatDoorCDumpI
set_option linter.all false
namespace Go.Sx
open Go.Proofs Go.RowKit
theorem rel_plainV {B : Nat → Prop} {w : World} {l : L} {v : Value} (hp : isPlain l = true) (h : RelL B w (fun _ => none) l v) : v = plainV l := by
  cases h <;> first | rfl | cases hp
set_option maxRecDepth 100000 in
theorem c_Dump (r : List UInt8) (l : List DE) (m : Nat) (hm : m = l.length) (hl : l.length ≤ 1000) (hr : r.length ≤ 80000) (hs : ∀ s ∈ l, deSm 90000 s) : Fn Tryz.prog 7 [.a [.s r, .sl (flat deR l) m]] [] (.tup [.c (.o (.s (dumpS r l).1)), .c (.o (.i .i64 (dumpS r l).2))]) [] := by
  subst hm
  intro w Bx hlt μ vs hsb hdom hrel
  have hlen := hrel.1
  match vs, hlen with
  | [v], _ =>
    obtain ⟨us, rfl, hu⟩ : ∃ us : List Value, v = .agg ⟨us⟩ ∧ Rels Bx w μ [.s r, .sl (flat deR l) l.length] us := hrel.2 0 _ v rfl rfl
    match us, hu.1 with
    | [a, b], _ =>
      have ha : RelL Bx w μ (.s r) a := hu.2 0 _ a rfl rfl
      have hb : RelL Bx w μ (.sl (flat deR l) l.length) b := hu.2 1 _ b rfl rfl
      cases ha
      have hfl := flat_len deR_len l
      obtain ⟨sv, cap, rfl, hc, hat⟩ : ∃ sv cap, b = .slice sv l.length cap ∧ l.length ≤ cap ∧ DbAt w sv l := by
        generalize hF : flat deR l = F at hb
        generalize hN : l.length = N at hb
        cases hb with
        | sl0 => exact ⟨_, _, rfl, Nat.zero_le _, .inl (List.eq_nil_of_length_eq_zero hN)⟩
        | @sl _ b o _ cap _ vs h1 h2 h3 h4 h5 =>
          refine ⟨_, _, rfl, h5, ?_⟩
          by_cases h0 : l = []
          · exact .inl h0
          · have hpos : 0 < l.length := List.length_pos_iff.2 h0
            subst hF
            refine .inr ⟨b, o, rfl, ?_, fun j hj => ?_⟩
            · exact h3.lt (by intro e; rw [e, List.length_nil] at h2; omega)
            · have hjF : j < (flat deR l).length := by omega
              have hjv : j < vs.length := by omega
              have hv := rel_plainV (flat_plain l hjF) (h4 j _ vs[j] (List.getElem?_eq_getElem hjF) (List.getElem?_eq_getElem hjv))
              rw [(h3 j vs[j] (List.getElem?_eq_getElem hjv)).1, hv, List.getD_eq_getElem?_getD, List.getElem?_eq_getElem hjF]
              rfl
      have hb : ∃ c, Tryz.f7.body = some c := ⟨_, rfl⟩
      obtain ⟨c, hb⟩ := hb
      have hne : Tryz.f7.name ≠ "runtime.NumGoroutine" := by decide
      have hcall : (callFunc 7 ⟨[.agg ⟨[.string ⟨⟨r⟩⟩, .slice sv l.length cap]⟩]⟩).run Tryz.prog w = .ok (.enter 7 ⟨[.agg ⟨[.string ⟨⟨r⟩⟩, .slice sv l.length cap]⟩]⟩) w := by simp [callFunc, Tryz.func7, hne, hb]
      unfold CallsV
      rw [hcall]
      refine Calls.mono (Dump_walk r l hl hr hs sv cap hc w (fun b hS => (hsb.gp b hS).2) hat) ?_
      rintro e w' ⟨rfl, hbel⟩
      refine ⟨_, rfl, post_plain hlt hbel (us := [.string ⟨⟨(dumpS r l).1⟩⟩, .int .i64 (dumpS r l).2]) rfl ⟨rfl, fun j q u h1 h2 => ?_⟩⟩
      match j, h1, h2 with
      | 0, h1, h2 => simp [resList] at h1 h2; subst h1; subst h2; exact ⟨_, rfl, fun B w => RelL.s⟩
      | 1, h1, h2 => simp [resList] at h1 h2; subst h1; subst h2; exact ⟨_, rfl, fun B w => RelL.i⟩
end Go.Sx

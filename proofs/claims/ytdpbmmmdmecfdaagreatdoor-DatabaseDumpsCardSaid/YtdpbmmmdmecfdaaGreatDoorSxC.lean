/-
  The same for code, loops, functions; tables of types; from a row's arguments to a contract's: for every program; the conditions stand in each theorem.
-/
import Derived.Test.YtdpbmmmdmecfdaaGreatDoorSxB
import Derived.LoopN
import Derived.Laws.StructEq
import Derived.KernelRfl
import Derived.ChangeOld
import Derived.Below
import Derived.Carry
set_option linter.all false
/-
  The evaluator is right about whole pieces of code.
-/
namespace Go.Sx

def exOf : Ex → Exit
  | .normal => .normal
  | .exit id => .exit id
  | .ret => .ret

def Inv {P : Program} [Gl P] (X : Cx P) (N : Nat) (w0 : World) (μ0 : Mu) (st : St) (a : Act) (w : World) : Prop := ∃ μ B, SR X N st a w μ B ∧ Hist X w0 μ0 μ w ∧ Dom st.x μ

def Post {P : Program} [Gl P] (X : Cx P) (N : Nat) (w0 : World) (μ0 : Mu) (K : Ex → St → Prop) (e : Exit) (a : Act) (w : World) : Prop := ∃ ex st, e = exOf ex ∧ K ex st ∧ Inv X N w0 μ0 st a w

section
variable {P : Program} [Gl P] {X : Cx P} {G : Par} {w0 : World} {μ0 : Mu}

/-- what a program's parameters must keep -/
structure Good (P : Program) [Gl P] (G : Par) : Prop where
  F : G.F = Fn P
  T : TOk P G.T
  E : ∀ t, (G.T t).eq = true → EqTy P t (G.T t).zero
  N : G.N ≤ 1000
  Z : ∀ t e, (G.T t).d = .slice e → idsLs (G.T e).zero = []
  M : P.follows .mixedOrders = true

theorem pend_start {ops : List Oper} {x : Bxs} {μ : Mu} (h : okStart ops x = true) (hd : Dom x μ) (hN : ∀ o ∈ ops, creates o.op = true → o.dst.getD 99998 % 10000 < 1000 ∨ o.dst.getD 99998 % 10000 = 9998) : nodupB (crDsts ops) = true ∧ Pend μ ops := by
  simp only [okStart, Bool.and_eq_true] at h
  refine ⟨h.1, fun o ho hc j => ?_⟩
  cases hm : μ (o.dst.getD 99998 % 10000 + 10000 * j) with
  | none => rfl
  | some l =>
    exfalso
    have hmem : (o.dst.getD 99998 % 10000) ∈ crDsts ops := List.mem_filterMap.2 ⟨o, ho, by simp [hc]⟩
    rcases hd _ (by rw [hm]; simp) with h1 | ⟨bx, h1⟩
    · have hN := hN o ho hc
      generalize o.dst.getD 99998 % 10000 = d at hN h1
      have : isPar (d + 10000 * j) = false := by
        rcases hN with h2 | h2
        · exact par_no (.inl h2) j
        · subst h2
          unfold isPar
          rw [Bool.and_eq_false_iff]
          right
          cases h2 : Nat.blt (9998 + 10000 * j) 2000 with
          | false => rfl
          | true => have : 9998 + 10000 * j + 1 ≤ 2000 := Nat.le_of_ble_eq_true h2; omega
      rw [this] at h1; cases h1
    · have := List.all_eq_true.1 h.2 _ (mem_of_boxOf h1)
      simp only [Bool.not_eq_true'] at this
      rw [show idMod (o.dst.getD 99998 % 10000 + 10000 * j, bx) = o.dst.getD 99998 % 10000 from (Nat.add_mul_mod_self_left _ _ _).trans (Nat.mod_mod _ _), List.elem_eq_true_of_mem hmem] at this
      cases this

theorem dsts_of_opsK {all : List Oper} (hN : G.N ≤ 1000) (ops : List Oper) : (∀ o ∈ ops, dstOk G.N o.dst = true) → ∀ o ∈ ops, creates o.op = true → o.dst.getD 99998 % 10000 < 1000 ∨ o.dst.getD 99998 % 10000 = 9998 := by
  intro h o ho _
  rcases dst_cases hN (h o ho) _ rfl with h1 | h1
  · left; exact Nat.lt_of_le_of_lt (Nat.mod_le _ _) h1
  · right; rw [h1]

theorem region_sound (hg : Good P G) {id : Nat} {ops : Array Oper} {st : St} {K : Ex → St → Prop} {a : Act} {w : World} (hi : Inv X G.N w0 μ0 st a w) (hk : awp G (.region id ops false) st K) :
    (Code.region id ops false).wp P (Post X G.N w0 μ0 K) a w := by
  obtain ⟨μ, B, hs, hh, hd⟩ := hi
  obtain ⟨h1, hk⟩ := cond_false (show bif !okStart ops.toList st.x || !(ops.toList.all fun o => dstOk G.N o.dst) then False else opsK G ops.toList ops.toList st [] fun st' _ => canonK (G.live id) G.mv st' fun st'' => K .normal st'' from hk)
  simp only [Bool.or_eq_false_iff, Bool.not_eq_false'] at h1
  obtain ⟨h2, h3⟩ := pend_start h1.1 hd (dsts_of_opsK (all := ops.toList) hg.N _ (fun o ho => List.all_eq_true.1 h1.2 o ho))
  refine wp_region ?_
  have := ops_sound (P := P) (X := X) (w0 := w0) (μ0 := μ0) hg.F hg.T hg.E hg.N (arr := ops) (Q := Post X G.N w0 μ0 K) ops.toList 0 st [] _ a w μ B (fun j => by simp) hs hh h2 h3 hk (fun st' inf' a' w' μ' B' hk' hs' hh' => by
    obtain ⟨st2, μ2, B2, k1, k2, k3, k4⟩ := canon_sound hs' hh' hk'
    exact ⟨.normal, st2, rfl, k1, μ2, B2, k2, k3, k4⟩)
  rw [List.range_eq_range']
  simpa using this

theorem drawn_sb {w : World} {μ : Mu} {B : Nat → Prop} {m : Nat → Option Bx} (h : SB X m μ B w) : SB X m μ B { w with drawn := w.drawn + 1 } := by
  have g : Grow B w B { w with drawn := w.drawn + 1 } := ⟨Nat.le_refl _, fun _ _ _ => rfl, fun _ h => h, fun _ _ h => h⟩
  have row : ∀ {μ : Mu} {cs : List L} {b o : Nat}, Row B w μ cs b o → Row B { w with drawn := w.drawn + 1 } μ cs b o := fun h => h.grow g (fun _ _ h => h) fun _ => rfl
  refine ⟨fun id bx hm => ?_, h.sep, h.loc, h.bx, h.sz, h.blt, h.gp.grow g⟩
  have hb := h.box id bx hm
  cases bx with
  | st cs => obtain ⟨b, o, k1, k2, k3, k4⟩ := hb; exact ⟨b, o, k1, row k2, k3, k4⟩
  | ar cs => rcases hb with k | ⟨b, o, k1, k2, k3, k4⟩
             · exact .inl k
             · exact .inr ⟨b, o, k1, row k2, k3, k4⟩
  | fz cs => rcases hb with k | ⟨b, o, k1, k2, k4⟩
             · exact .inl k
             · exact .inr ⟨b, o, k1, row k2, k4⟩

theorem drawn_sound (hg : Good P G) {id : Nat} {ops : Array Oper} {st : St} {K : Ex → St → Prop} {a : Act} {w : World} (hi : Inv X G.N w0 μ0 st a w) (hk : awp G (.region id ops true) st K) :
    (Code.region id ops true).wp P (Post X G.N w0 μ0 K) a w := by
  obtain ⟨μ, B, hs, hh, hd⟩ := hi
  obtain ⟨h1, hk⟩ := cond_false (show bif !okStart ops.toList st.x || !(ops.toList.all fun o => dstOk G.N o.dst) then False else opsK G ops.toList ops.toList st [] fun st' inf => drawK (statB ops.toList (G.mask id)) (dynB inf (G.mask id)) (canonK (G.live id) G.mv st' fun st'' => K .normal st'') from hk)
  simp only [Bool.or_eq_false_iff, Bool.not_eq_false'] at h1
  obtain ⟨h2, h3⟩ := pend_start h1.1 hd (dsts_of_opsK (all := ops.toList) hg.N _ (fun o ho => List.all_eq_true.1 h1.2 o ho))
  obtain ⟨evs, new, st', ⟨⟨hstat, hdyn⟩, hk⟩, k2, k3, k4, k5, k6⟩ := ops_trace ops.toList st [] _ (lookE st.e) (fun t => Eqv.refl _) hk
  rw [List.append_nil] at hdyn
  have told : Told G ops (G.mask id) st evs new := ⟨k2, k3, k4, hstat, hdyn⟩
  refine wp_region_any hg.M ?_
  refine draw_run (X := X) (w0 := w0) (μ0 := μ0) hg.F hg.T hg.E hg.N hg.Z told h2 (fun S a w μ B hall hm => ?_) ops.size (Array.replicate ops.size false) (List.range ops.size) (by simp) (by simp) (fun i hi _ => by simpa using hi) ⟨fun k o hk hs => ?_⟩ a _ μ B ?_
  · have he : eS ops evs st S = preF (upEs ops.toList evs) (lookE st.e) := foldS_all _ _ _ fun j hj => by
      rw [Nat.zero_add]; exact hall j (by rw [upEs_len k2] at hj; simpa using hj)
    have hx : mS evs st S = preF (upMs evs) (boxOf st.x) := foldS_all _ _ _ fun j hj => by
      rw [Nat.zero_add]; exact hall j (by simp only [upMs, List.length_map] at hj; rw [k2] at hj; simpa using hj)
    have hsr : SR X G.N st' a w μ B := ⟨by rw [k6, ← hx]; exact hm.sb, fun t => k5 t _ _ _ _ (by rw [← he]; exact hm.env t), hm.sz, hm.dfr⟩
    obtain ⟨st2, μ2, B2, g1, g2, g3, g4⟩ := canon_sound hsr hm.hist hk
    exact ⟨.normal, st2, rfl, g1, μ2, B2, g2, g3, g4⟩
  · have : (Array.replicate ops.size false).getD k false = false := by
      simp only [Array.getD]; split <;> simp
    rw [this] at hs; cases hs
  · have hS : ∀ j, (Array.replicate ops.size false).getD j false = false := fun j => by
      simp only [Array.getD]; split <;> simp
    have he : eS ops evs st (fun i => (Array.replicate ops.size false).getD i false) = lookE st.e := foldS_none _ _ _ fun j _ => hS _
    have hx : mS evs st (fun i => (Array.replicate ops.size false).getD i false) = boxOf st.x := foldS_none _ _ _ fun j _ => hS _
    have g : Grow B w B { w with drawn := w.drawn + 1 } := ⟨Nat.le_refl _, fun _ _ _ => rfl, fun _ h => h, fun _ _ h => h⟩
    refine ⟨by rw [hx]; exact drawn_sb hs.sb, fun t => ?_, hs.sz, hs.dfr, ⟨hh.base, hh.blk, hh.os, hh.tape, hh.output, hh.par, hh.ex⟩, fun i o ho _ hc j => h3 o ?_ hc j⟩
    · rw [he]; exact (hs.env t).grow g fun _ _ h => h
    · have : o ∈ ops := Array.mem_of_getElem? ho
      simpa using this

theorem awp_sound (hg : Good P G) (c : Code) : ∀ (st : St) (K : Ex → St → Prop) (a : Act) (w : World), Inv X G.N w0 μ0 st a w → awp G c st K → c.wp P (Post X G.N w0 μ0 K) a w := by
  induction c with
  | skip => exact fun st K a w hi hk => wp_skip ⟨.normal, st, rfl, hk, hi⟩
  | region id ops draw =>
    intro st K a w hi hk
    cases draw with
    | false => exact region_sound hg hi hk
    | true => exact drawn_sound hg hi hk
  | seq x y ihx ihy =>
    intro st K a w hi hk
    refine wp_seq (wp_mono (ihx st _ a w hi hk) ?_)
    rintro e a' w' ⟨ex, st', rfl, hk', hi'⟩
    cases ex with
    | normal => exact ihy st' K a' w' hi' hk'
    | exit id => exact ⟨.exit id, st', rfl, hk', hi'⟩
    | ret => exact ⟨.ret, st', rfl, hk', hi'⟩
  | cond c x y ihx ihy =>
    intro st K a w hi hk
    change operandK st.e c _ at hk
    rw [operandK_eq] at hk
    have hi' := hi
    obtain ⟨μ, B, hs, hh, hd⟩ := hi'
    have hr := operand_rel hs c
    generalize operandV st.e c = v at hk hr
    generalize hu : a.eval c = u at hr
    cases v with
    | t _ => exact hk.elim
    | c v => cases v with
      | a _ => exact hk.elim
      | o l =>
        cases l <;> try exact hk.elim
        case tt => cases hr; exact wp_cond_true hu (ihx st K a w hi hk)
        case ff => cases hr; exact wp_cond_false hu (ihy st K a w hi hk)
        case b t => cases hr; exact wp_cond_split hu (fun ht => ihx st K a w hi (hk.1 ht)) (fun ht => ihy st K a w hi (hk.2 ht))
  | block id body ih =>
    intro st K a w hi hk
    refine wp_block (wp_mono (ih st _ a w hi hk) ?_)
    rintro e a' w' ⟨ex, st', rfl, hk', hi'⟩
    cases ex with
    | normal => exact ⟨.normal, st', rfl, hk', hi'⟩
    | ret => exact ⟨.ret, st', rfl, hk', hi'⟩
    | exit j =>
      show if j = id then _ else _
      change (bif Nat.beq j id then K .normal st' else K (.exit j) st') at hk'
      by_cases hj : j = id
      · subst hj
        rw [if_pos rfl]
        simp at hk'
        exact ⟨.normal, st', rfl, hk', hi'⟩
      · rw [if_neg hj]
        rw [beq_ne hj] at hk'
        exact ⟨.exit j, st', rfl, hk', hi'⟩
  | loop body ih =>
    intro st K a w hi hk
    obtain ⟨n, hk⟩ := hk
    refine wp_loop_rounds n ?_
    induction n generalizing st a w with
    | zero => exact hk.elim
    | succ n ihn =>
      refine wp_mono (ih st _ a w hi hk) ?_
      rintro e a' w' ⟨ex, st', rfl, hk', hi'⟩
      cases ex with
      | normal => exact ihn st' a' w' hi' hk'
      | exit id => exact ⟨.exit id, st', rfl, hk', hi'⟩
      | ret => exact ⟨.ret, st', rfl, hk', hi'⟩
  | exit id => exact fun st K a w hi hk => wp_exit ⟨.exit id, st, rfl, hk, hi⟩
  | ret => exact fun st K a w hi hk => wp_ret ⟨.ret, st, rfl, hk, hi⟩
  | rangeFunc f ps as b _ _ => exact fun st K a w hi hk => hk.elim
  | scope b _ => exact fun st K a w hi hk => hk.elim
  | label l => exact fun st K a w hi hk => hk.elim
  | goto l => exact fun st K a w hi hk => hk.elim
  | refuse y => exact fun st K a w hi hk => hk.elim

end
end Go.Sx

/-
  A function's beginning and its end.
-/
namespace Go.Sx

/-- the leaf behind as many leaves as pre has -/
noncomputable def cutAtK (pre : List L) : List L → (List L → L → List L → Prop) → Prop :=
  List.rec (motive := fun _ => List L → (List L → L → List L → Prop) → Prop)
    (fun ls K => match ls with
      | [] => False
      | l :: r => K [] l r)
    (fun _ _ ih ls K => match ls with
      | [] => False
      | l :: r => ih r fun a m b => K (l :: a) m b) pre

theorem cutAtK_elim (pre : List L) : ∀ (ls : List L) {K : List L → L → List L → Prop}, cutAtK pre ls K → ∃ a l b, ls = a ++ l :: b ∧ a.length = pre.length ∧ K a l b := by
  induction pre with
  | nil =>
    intro ls K h
    match ls, h with
    | l :: r, h => exact ⟨[], l, r, rfl, rfl, h⟩
  | cons p pre ih =>
    intro ls K h
    match ls, h with
    | l :: r, h =>
      obtain ⟨a, m, b, rfl, h1, h2⟩ := ih r h
      exact ⟨l :: a, m, b, rfl, by simp [h1], h2⟩

/-- the slice in a struct that goes out -/
def saK (x : LK) (cs : List L) (n sz : Nat) (l : L) (fz : List Nat) (K : List Nat → List Nat → Prop) : Prop :=
  match l with
  | .gw id n' sz' => x id fun bx => match bx with
    | .ar cs' => bif isPar id then False else sideK (cs = cs' ∧ n = n' ∧ sz = sz') (K fz [id])
    | _ => False
  | .nl => sideK (cs = [] ∧ n = 0) (K fz [])
  | _ => False

/-- a result, against what the contract says of it: the boxes that are frozen for it, and the box that goes out with it -/
noncomputable def outK (x : LK) (r : R) (v : V) (K : List Nat → List Nat → Prop) : Prop :=
  match v with
  | .c c => match r with
    | .fr cs n sz => match c with
      | .o l => match l with
        | .gw id n' sz' => x id fun bx => match bx with
          | .ar cs' => bif isPar id then False else sideK (cs = cs' ∧ n = n' ∧ sz = sz') (K [] [id])
          | _ => False
        | .nl => sideK (cs = [] ∧ n = 0) (K [] [])
        | _ => False
      | .a _ => False
    | .pt cs => match c with
      | .o l => match l with
        | .p id off => match off with
          | 0 => x id fun bx => match bx with
            | .st cl => bif isPar id then False else closeK x cl fun ls ef => sideK (ls = cs) (K (ef.map (·.1)) [id])
            | _ => False
          | _ => False
        | _ => False
      | .a _ => False
    | .sa pre cs n sz post => match c with
      | .a ls => cutAtK pre ls fun a l b => closeK x a fun a' ef => sideK (a' = pre) <| closeK x b fun b' ef' => sideK (b' = post) <| saK x cs n sz l (ef.map (·.1) ++ ef'.map (·.1)) K
      | .o _ => False
    | .c (.o l') => match c with
      | .o l => closeK x [l] fun ls ef => sideK (ls = [l']) (K (ef.map (·.1)) [])
      | .a _ => False
    | .c (.a ls') => match c with
      | .a ls => closeK x ls fun ls ef => sideK (ls = ls') (K (ef.map (·.1)) [])
      | .o _ => False
  | .t _ => False

noncomputable def outsK (x : LK) (rs : List R) : List V → (List Nat → List Nat → Prop) → Prop :=
  List.rec (motive := fun _ => List V → (List Nat → List Nat → Prop) → Prop)
    (fun vs K => match vs with
      | [] => K [] []
      | _ => False)
    (fun r _ ih vs K => match vs with
      | [] => False
      | v :: q => outK x r v fun fz fr => ih q fun fz' fr' => K (fz ++ fz') (fr ++ fr')) rs

noncomputable def boxesK (x : LK) (bs : Bxs) : (List Nat → Prop) → Prop :=
  List.rec (motive := fun _ => (List Nat → Prop) → Prop) (fun K => K [])
    (fun q _ ih K => x q.1 fun bx => match bx with
      | .st cl => match q.2 with
        | .st cl' => closeK x cl fun ls ef => sideK (ls = cl') (ih fun fz => K (ef.map (·.1) ++ fz))
        | _ => False
      | .ar cs => match q.2 with
        | .ar cs' => sideK (cs = cs') (ih K)
        | _ => False
      | .fz _ => False) bs

noncomputable def resVK (T : TypeId → TI) (st : St) (rv : List ResultVar) : (List V → Prop) → Prop :=
  List.rec (motive := fun _ => (List V → Prop) → Prop) (fun K => K [])
    (fun r _ ih K => match r with
      | .tmp t => getK st.e t fun v => ih fun vs => K (v :: vs)
      | .cell a t => getK st.e a fun p => loadSem (T t) p (lookK st.x) fun v => ih fun vs => K (v :: vs)) rv

def shapeOk (res : Res) (n : Nat) : Bool :=
  match res with
  | .one _ => Nat.beq n 1
  | .tup _ => !Nat.beq n 1

noncomputable def finK (T : TypeId → TI) (rv : List ResultVar) (bs : Bxs) (res : Res) (bs' : Bxs) (st : St) : Prop :=
  resVK T st rv fun vs => outsK (lookK st.x) (resList res) vs fun fz fr => boxesK (lookK st.x) bs' fun fz' =>
    bif nodupB fr && (fr.all (fun id => !(fz ++ fz').elem id) && shapeOk res rv.length) then bs'.map (·.1) = bs.map (·.1) else False

section
variable {P : Program} [Gl P] {B : Nat → Prop} {w : World} {μ : Mu} {X : Cx P} {m : Nat → Option Bx} {T : TypeId → TI}

/-- the box that a result names -/
def resId : R → V → Option Nat
  | .fr _ _ _, .c (.o (.gw id _ _)) => some id
  | .pt _, .c (.o (.p id _)) => some id
  | .sa pre _ _ _ _, .c (.a ls) => match ls[pre.length]? with
    | some (.gw id _ _) => some id
    | _ => none
  | _, _ => none

structure OutB (m : Nat → Option Bx) (μ : Mu) (B : Nat → Prop) (w : World) (r : R) (v : V) (u : Value) (fz : List Nat) (id : Nat) (bx : Bx) : Prop where
  hi : resId r v = some id
  hp : isPar id = false
  hb : rBox r = some bx
  hm : ∃ bx0, m id = some bx0 ∧ live bx0 = true
  hf : ∀ i ∈ fz, ∃ cs, m i = some (.ar cs) ∧ isPar i = false
  box : ∀ rd Bk, (∀ i ∈ fz, i ∈ rd) → BkOk rd μ B Bk → (∀ b o n, μ id = some (some (b, o, n)) → Bk b) → ∀ (μk : Mu) k, μk k = μ id → BoxF Bk w μk k bx
  rel : ∀ rd Bk, (∀ i ∈ fz, i ∈ rd) → BkOk rd μ B Bk → ∀ (μk : Mu) j, μk (2000 + j) = μ id → RelR Bk w μk j r u

structure OutN (m : Nat → Option Bx) (μ : Mu) (B : Nat → Prop) (w : World) (r : R) (v : V) (u : Value) (fz : List Nat) : Prop where
  hi : resId r v = none
  hb : ∀ bx, rBox r = some bx → bx = .ar []
  hf : ∀ i ∈ fz, ∃ cs, m i = some (.ar cs) ∧ isPar i = false
  rel : ∀ rd Bk, (∀ i ∈ fz, i ∈ rd) → BkOk rd μ B Bk → ∀ (μk : Mu) j, μk (2000 + j) = some none → RelR Bk w μk j r u

/-- what is known of one result -/
inductive OutR (m : Nat → Option Bx) (μ : Mu) (B : Nat → Prop) (w : World) : R → V → Value → List Nat → List Nat → Prop where
  | b {r v u fz id bx} (h : OutB m μ B w r v u fz id bx) : OutR m μ B w r v u fz [id]
  | n {r v u fz} (h : OutN m μ B w r v u fz) : OutR m μ B w r v u fz []

theorem OutR.ids {r : R} {v : V} {u : Value} {f g : List Nat} (h : OutR m μ B w r v u f g) : g = (resId r v).toList := by
  cases h with
  | b h => rw [h.hi]; rfl
  | n h => rw [h.hi]; rfl

theorem OutR.fz {r : R} {v : V} {u : Value} {f g : List Nat} (h : OutR m μ B w r v u f g) : ∀ i ∈ f, ∃ cs, m i = some (.ar cs) ∧ isPar i = false := by
  cases h with
  | b h => exact h.hf
  | n h => exact h.hf

theorem FzEff.np {ef : Eff} (h : FzEff m ef) : ∀ id ∈ ef.map (·.1), ∃ cs, m id = some (.ar cs) ∧ isPar id = false := by
  intro id hid
  obtain ⟨q, hq, rfl⟩ := List.mem_map.1 hid
  obtain ⟨cs, _, h2, h3⟩ := h q hq
  exact ⟨cs, h2, h3⟩

/-- a slice onto a box of its own, as it goes out -/
theorem gw_out {id n sz : Nat} {u : Value} {Bk : Nat → Prop} (hk : Grow B w Bk w) (h : RelL B w μ (.gw id n sz) u) {μk : Mu} {k : Nat} (hm : μk k = μ id) : RelL Bk w μk (.gw k n sz) u := by
  cases h with
  | gw0 h1 => exact .gw0 (by rw [hm]; exact h1)
  | gw h1 h2 h3 => exact .gw (by rw [hm]; exact h1) h2 h3

/-- a slice's box, as it goes out -/
theorem ar_out (hsb : SB X m μ B w) {id : Nat} {cs : List L} (hm : m id = some (.ar cs)) {Bk : Nat → Prop} (hk : Grow B w Bk w) (hB : ∀ b o n, μ id = some (some (b, o, n)) → Bk b) {μk : Mu} {k : Nat} (he : μk k = μ id) : BoxF Bk w μk k (.ar cs) := by
  rcases hsb.box id _ hm with ⟨k1, k2⟩ | ⟨b, o, k1, k2, k3, k4, k5⟩
  · exact .inl ⟨by rw [he, k1], k2⟩
  · exact .inr ⟨b, o, by rw [he, k1], k2.grow hk (noMu_le _) fun _ => rfl, k3, hB _ _ _ k1, k5⟩

theorem out_sound (hsb : SB X m μ B w) {r : R} {v : V} {u : Value} {K : List Nat → List Nat → Prop} (h : outK (lkm m) r v K) (hr : RelV B w μ v u) : ∃ fz fr, K fz fr ∧ OutR m μ B w r v u fz fr := by
  cases v with
  | t _ => exact h.elim
  | c c =>
    cases r with
    | fr cs n sz =>
      cases c with
      | a _ => exact h.elim
      | o l =>
        cases l <;> try exact h.elim
        case gw id n' sz' =>
          obtain ⟨bx, hb, h⟩ := h
          cases bx <;> try exact h.elim
          case ar cs' =>
            obtain ⟨h1, ⟨rfl, rfl, rfl⟩, h2⟩ := cond_false h
            exact ⟨_, _, h2, .b (bx := .ar cs) ⟨rfl, h1, rfl, ⟨_, hb, rfl⟩, by simp, fun rd Bk _ hk hB μk k he => ar_out hsb hb hk.grow hB he, fun rd Bk _ hk μk j he => gw_out hk.grow hr he⟩⟩
        case nl =>
          obtain ⟨⟨rfl, rfl⟩, h⟩ := h
          have hr : RelL B w μ .nl u := hr
          cases hr
          exact ⟨_, _, h, .n ⟨rfl, fun bx h => by cases h; rfl, by simp, fun rd Bk _ hk μk j he => RelL.gw0 he⟩⟩
    | pt cs =>
      cases c with
      | a _ => exact h.elim
      | o l =>
        cases l <;> try exact h.elim
        case p id off =>
          cases off with
          | succ _ => exact h.elim
          | zero =>
            obtain ⟨bx, hb, h⟩ := h
            cases bx <;> try exact h.elim
            case st cl =>
              obtain ⟨h1, h⟩ := cond_false h
              obtain ⟨b, o, k1, ⟨vs, k2, k2'⟩, k3, k4, k5⟩ := hsb.box id _ hb
              obtain ⟨_, ef, ⟨rfl, hk⟩, h2, h3, h4⟩ := close_shown hsb k2 (K := fun ls (ef : Eff) => sideK (ls = cs) (K (List.map (fun x : Nat × Option Bx => x.1) ef) [id])) h
              refine ⟨_, _, hk, .b (bx := .st _) ⟨rfl, h1, rfl, ⟨_, hb, rfl⟩, h2.np, fun rd Bk h5 h6 hB μk k he => ?_, fun rd Bk h5 h6 μk j he => ?_⟩⟩
              · exact ⟨b, o, by rw [he, k1, k2.1, h3], ⟨vs, h4 rd Bk h5 h6, k2'⟩, k3, hB _ _ _ k1, k5⟩
              · have hr : RelL B w μ (.p id 0) u := hr
                cases hr with
                | p q => exact RelL.p (by rw [he]; exact q)
    | sa pre cs n sz post =>
      cases c with
      | o _ => exact h.elim
      | a ls =>
        obtain ⟨a, l, b, rfl, hl, hP⟩ := cutAtK_elim pre ls h
        clear h
        obtain ⟨vs, rfl, hrs⟩ := hr
        obtain ⟨va, u1, vb, rfl, r1, r2, r3⟩ := hrs.split
        have hat : (a ++ l :: b)[pre.length]? = some l := by rw [← hl]; simp
        obtain ⟨_, ef, ⟨rfl, hQ⟩, e2, e3, e4⟩ := close_shown hsb r1 (K := fun a' (ef : Eff) => sideK (a' = pre) (closeK (lkm m) b fun b' ef' => sideK (b' = post) (saK (lkm m) cs n sz l (ef.map (fun x : Nat × Option Bx => x.1) ++ ef'.map (fun x : Nat × Option Bx => x.1)) K))) hP
        clear hP
        obtain ⟨_, ef', ⟨rfl, hS⟩, g2, g3, g4⟩ := close_shown hsb r3 (K := fun b' (ef' : Eff) => sideK (b' = post) (saK (lkm m) cs n sz l (ef.map (fun x : Nat × Option Bx => x.1) ++ ef'.map (fun x : Nat × Option Bx => x.1)) K)) hQ
        clear hQ
        have hnp : ∀ i ∈ ef.map (fun x : Nat × Option Bx => x.1) ++ ef'.map (fun x : Nat × Option Bx => x.1), ∃ cs, m i = some (.ar cs) ∧ isPar i = false := fun i hi => by
          rcases List.mem_append.1 hi with hi | hi
          · exact e2.np i hi
          · exact g2.np i hi
        cases l <;> try exact hS.elim
        case gw id n' sz' =>
          obtain ⟨bx, hb, hS⟩ := hS
          cases bx <;> try exact hS.elim
          case ar cs' =>
            obtain ⟨h1, ⟨rfl, rfl, rfl⟩, h2⟩ := cond_false hS
            refine ⟨_, _, h2, .b (bx := .ar cs) ⟨by simp only [resId, hat], h1, rfl, ⟨_, hb, rfl⟩, hnp, fun rd Bk _ hk hB μk k he => ar_out hsb hb hk.grow hB he, fun rd Bk h5 h6 μk j he => ?_⟩⟩
            exact ⟨va, u1, vb, rfl, e4 rd Bk (fun i hi => h5 i (List.mem_append_left _ hi)) h6, gw_out h6.grow r2 he, g4 rd Bk (fun i hi => h5 i (List.mem_append_right _ hi)) h6⟩
        case nl =>
          obtain ⟨⟨rfl, rfl⟩, hT⟩ := hS
          cases r2
          refine ⟨_, _, hT, .n ⟨by simp only [resId, hat], fun bx h => by cases h; rfl, hnp, fun rd Bk h5 h6 μk j he => ?_⟩⟩
          exact ⟨va, _, vb, rfl, e4 rd Bk (fun i hi => h5 i (List.mem_append_left _ hi)) h6, RelL.gw0 he, g4 rd Bk (fun i hi => h5 i (List.mem_append_right _ hi)) h6⟩
    | c x =>
      cases x with
      | o l' =>
        cases c with
        | a _ => exact h.elim
        | o l =>
          have hrs : Rels B w μ [l] [u] := ⟨rfl, fun j a b h1 h2 => by
            cases j with
            | zero => simp at h1 h2; subst h1; subst h2; exact hr
            | succ j => simp at h1⟩
          obtain ⟨ls', ef, ⟨rfl, hk⟩, h2, h3, h4⟩ := close_shown hsb hrs (K := fun ls (ef : Eff) => sideK (ls = [l']) (K (List.map (fun x : Nat × Option Bx => x.1) ef) [])) h
          exact ⟨_, _, hk, .n ⟨rfl, fun bx h => (by cases h), h2.np, fun rd Bk h5 h6 μk j he => (h4 rd Bk h5 h6).2 0 l' u rfl rfl⟩⟩
      | a ls' =>
        cases c with
        | o _ => exact h.elim
        | a ls =>
          obtain ⟨vs, rfl, hrs⟩ := hr
          obtain ⟨_, ef, ⟨rfl, hk⟩, h2, h3, h4⟩ := close_shown hsb hrs (K := fun ls (ef : Eff) => sideK (ls = ls') (K (List.map (fun x : Nat × Option Bx => x.1) ef) [])) h
          exact ⟨_, _, hk, .n ⟨rfl, fun bx h => (by cases h), h2.np, fun rd Bk h5 h6 μk j he => ⟨vs, rfl, h4 rd Bk h5 h6⟩⟩⟩

structure OutsR (m : Nat → Option Bx) (μ : Mu) (B : Nat → Prop) (w : World) (rs : List R) (vs : List V) (us : List Value) (fz fr : List Nat) : Prop where
  len : rs.length = us.length ∧ vs.length = us.length
  at_ : ∀ (j : Nat) r v u, rs[j]? = some r → vs[j]? = some v → us[j]? = some u → ∃ f g, OutR m μ B w r v u f g ∧ (∀ id ∈ f, id ∈ fz) ∧ (∀ id ∈ g, id ∈ fr)
  inj : fr.Nodup → ∀ (j j' : Nat) r r' v v' u u' f f' id, rs[j]? = some r → rs[j']? = some r' → vs[j]? = some v → vs[j']? = some v' → us[j]? = some u → us[j']? = some u' → OutR m μ B w r v u f [id] → OutR m μ B w r' v' u' f' [id] → j = j'
  fz : ∀ id ∈ fz, ∃ cs, m id = some (.ar cs) ∧ isPar id = false

theorem OutR.same {r : R} {v : V} {u : Value} {f g f' g' : List Nat} (h : OutR m μ B w r v u f g) (k : OutR m μ B w r v u f' g') : g = g' := h.ids.trans k.ids.symm

theorem outs_sound (hsb : SB X m μ B w) (rs : List R) : ∀ {vs : List V} {us : List Value} {K : List Nat → List Nat → Prop}, outsK (lkm m) rs vs K → vs.length = us.length → (∀ (j : Nat) v u, vs[j]? = some v → us[j]? = some u → RelV B w μ v u) →
    ∃ fz fr, K fz fr ∧ OutsR m μ B w rs vs us fz fr := by
  induction rs with
  | nil =>
    intro vs us K h hl hr
    cases vs with
    | cons _ _ => exact h.elim
    | nil =>
      cases us with
      | cons _ _ => simp at hl
      | nil => exact ⟨_, _, h, ⟨rfl, rfl⟩, by simp, by simp, by simp⟩
  | cons r q ih =>
    intro vs us K h hl hr
    cases vs with
    | nil => exact h.elim
    | cons v vs =>
      cases us with
      | nil => simp at hl
      | cons u us =>
        obtain ⟨f, g, h, ho⟩ := out_sound hsb (K := fun fz fr => outsK (lkm m) q vs fun fz' fr' => K (fz ++ fz') (fr ++ fr')) h (hr 0 v u rfl rfl)
        obtain ⟨fz, fr, hk, hq⟩ := ih h (by simpa using hl) (fun j a b h1 h2 => hr (j + 1) a b h1 h2)
        refine ⟨_, _, hk, ⟨by simp [hq.len.1], by simp [hq.len.2]⟩, ?_, ?_, ?_⟩
        · intro j r' v' u' h1 h2 h3
          cases j with
          | zero =>
            simp at h1 h2 h3; subst h1; subst h2; subst h3
            exact ⟨f, g, ho, fun id h => List.mem_append_left _ h, fun id h => List.mem_append_left _ h⟩
          | succ j =>
            obtain ⟨f', g', k1, k2, k3⟩ := hq.at_ j r' v' u' (by simpa using h1) (by simpa using h2) (by simpa using h3)
            exact ⟨f', g', k1, fun id h => List.mem_append_right _ (k2 id h), fun id h => List.mem_append_right _ (k3 id h)⟩
        · intro hnd j j' r1 r2 v1 v2 u1 u2 f1 f2 id h1 h2 h3 h4 h5 h6 o1 o2
          have hnd' := List.nodup_append.1 hnd
          cases j with
          | zero =>
            cases j' with
            | zero => rfl
            | succ j' =>
              exfalso
              simp only [List.getElem?_cons_zero, Option.some.injEq] at h1 h3 h5
              subst h1; subst h3; subst h5
              have hg := ho.same o1
              obtain ⟨f', g', k1, _, k3⟩ := hq.at_ j' r2 v2 u2 (by simpa using h2) (by simpa using h4) (by simpa using h6)
              have hg' := k1.same o2
              subst hg; subst hg'
              exact hnd'.2.2 id (by simp) id (k3 id (by simp)) rfl
          | succ j =>
            cases j' with
            | zero =>
              exfalso
              simp only [List.getElem?_cons_zero, Option.some.injEq] at h2 h4 h6
              subst h2; subst h4; subst h6
              have hg := ho.same o2
              obtain ⟨f', g', k1, _, k3⟩ := hq.at_ j r1 v1 u1 (by simpa using h1) (by simpa using h3) (by simpa using h5)
              have hg' := k1.same o1
              subst hg; subst hg'
              exact hnd'.2.2 id (by simp) id (k3 id (by simp)) rfl
            | succ j' =>
              have := hq.inj hnd'.2.1 j j' r1 r2 v1 v2 u1 u2 f1 f2 id (by simpa using h1) (by simpa using h2) (by simpa using h3) (by simpa using h4) (by simpa using h5) (by simpa using h6) o1 o2
              omega
        · intro id hid
          rcases List.mem_append.1 hid with h1 | h1
          · exact ho.fz id h1
          · exact hq.fz id h1

theorem boxes_sound (hsb : SB X m μ B w) (bs : Bxs) : ∀ {K : List Nat → Prop}, boxesK (lkm m) bs K →
    ∃ fz, K fz ∧ (∀ id ∈ fz, ∃ cs, m id = some (.ar cs) ∧ isPar id = false) ∧ ∀ k bx, (k, bx) ∈ bs → ∀ rd Bk, (∀ id ∈ fz, id ∈ rd) → BkOk rd μ B Bk → BoxC Bk w μ k bx := by
  induction bs with
  | nil => exact fun h => ⟨_, h, by simp, by simp⟩
  | cons q r ih =>
    intro K h
    obtain ⟨k, b'⟩ := q
    obtain ⟨bx, hb, h⟩ := (show lkm m k _ from h)
    cases bx with
    | fz _ => exact h.elim
    | st cl =>
      cases b' with
      | ar _ => exact h.elim
      | fz _ => exact h.elim
      | st cl' =>
        obtain ⟨b, o, k1, ⟨vs, k2, k2'⟩, k3, k4, k5⟩ := hsb.box k _ hb
        obtain ⟨_, ef, ⟨rfl, hn⟩, h2, h3, h4⟩ := close_shown hsb k2 (K := fun ls (ef : Eff) => sideK (ls = cl') (boxesK (lkm m) r fun fz => K (List.map (fun x : Nat × Option Bx => x.1) ef ++ fz))) h
        obtain ⟨fz, hk, h5, h6⟩ := ih hn
        refine ⟨_, hk, fun id hid => ?_, fun k' bx' hm rd Bk hrd hbk => ?_⟩
        · rcases List.mem_append.1 hid with h1 | h1
          · exact h2.np id h1
          · exact h5 id h1
        · cases hm with
          | head => exact ⟨b, o, by rw [k1, h3, k2.1], ⟨vs, h4 rd Bk (fun id h => hrd id (List.mem_append_left _ h)) hbk, k2'⟩, k3⟩
          | tail _ hm => exact h6 k' bx' hm rd Bk (fun id h => hrd id (List.mem_append_right _ h)) hbk
    | ar cs =>
      cases b' with
      | st _ => exact h.elim
      | fz _ => exact h.elim
      | ar cs' =>
        obtain ⟨he, hn⟩ := (show sideK (cs = cs') (boxesK (lkm m) r K) from h)
        subst he
        obtain ⟨fz, hk, h5, h6⟩ := ih hn
        refine ⟨fz, hk, h5, fun k' bx' hm rd Bk hrd hbk => ?_⟩
        cases hm with
        | head =>
          rcases hsb.box k _ hb with h1 | ⟨b, o, k1, k2, k3, k4, k5⟩
          · exact .inl h1
          · exact .inr ⟨b, o, k1, k2.grow hbk.grow (noMu_le _) fun _ => rfl, k3⟩
        | tail _ hm => exact h6 k' bx' hm rd Bk hrd hbk

end
end Go.Sx

/-
  A contract from the walk of a body.
-/
namespace Go.Sx

def envOf (cs : List C) (k : Nat) : Env :=
  match cs with
  | [] => []
  | c :: r => (k, .c c) :: envOf r (k + 1)

def entryOk (n : Nat) (cs : List C) (bs : Bxs) : Bool :=
  Nat.ble cs.length n && (nodupB (bs.map (·.1)) && ((bs.all fun q => live q.2 && isPar q.1) && ((cs.flatMap idsC).all (fun id => (boxOf bs id).isSome) && (idsX bs).all (fun id => (boxOf bs id).isSome))))

section
variable {P : Program} [Gl P] {B : Nat → Prop} {w : World} {μ : Mu} {X : Cx P} {m : Nat → Option Bx} {T : TypeId → TI}

theorem RelL.on {μ' : Mu} {l : L} {v : Value} (h : RelL B w μ l v) (hm : ∀ id ∈ idsL l, μ' id = μ id) : RelL B w μ' l v := by
  cases h with
  | i => exact .i
  | b => exact .b
  | tt => exact .tt
  | ff => exact .ff
  | s => exact .s
  | np => exact .np
  | f => exact .f
  | u => exact .u
  | nl => exact .nl
  | sl0 => exact .sl0
  | sl h1 h2 h3 h4 h5 => exact .sl h1 h2 h3 h4 h5
  | pf h1 h2 h3 h4 => exact .pf h1 h2 h3 h4
  | gw0 h1 => exact .gw0 (by rw [hm _ (by simp [idsL])]; exact h1)
  | gw h1 h2 h3 => exact .gw (by rw [hm _ (by simp [idsL])]; exact h1) h2 h3
  | gs0 h1 => exact .gs0 (by rw [hm _ (by simp [idsL])]; exact h1)
  | gs h1 h2 h3 h4 => exact .gs (by rw [hm _ (by simp [idsL])]; exact h1) h2 h3 h4
  | p h1 => exact .p (by rw [hm _ (by simp [idsL])]; exact h1)

theorem Rels.on {μ' : Mu} {ls : List L} {vs : List Value} (h : Rels B w μ ls vs) (hm : ∀ id ∈ idsLs ls, μ' id = μ id) : Rels B w μ' ls vs :=
  ⟨h.1, fun j l v h1 h2 => (h.2 j l v h1 h2).on fun id hid => hm id (idsL_mem (List.mem_of_getElem? h1) id hid)⟩

theorem RelC.on {μ' : Mu} {c : C} {v : Value} (h : RelC B w μ c v) (hm : ∀ id ∈ idsC c, μ' id = μ id) : RelC B w μ' c v := by
  cases c with
  | o l => exact RelL.on h hm
  | a ls => obtain ⟨vs, rfl, h⟩ := h; exact ⟨vs, rfl, h.on hm⟩

/-- the marks of the boxes that came in -/
def muIn (bs : Bxs) (μ : Mu) : Mu := fun id => if (boxOf bs id).isSome then μ id else none

theorem loadSem_ptr {ti : TI} {a : V} {x : LK} {K : V → Prop} {va : Value} (h : loadSem ti a x K) (ha : RelV B w μ a va) : ∃ ad, va = .pointer (some ad) := by
  obtain ⟨_, h⟩ := cond_false h
  match a, h, ha with
  | .c (.o (.p id off)), _, ha => obtain ⟨b, o, n, _, rfl⟩ := ha.ptr; exact ⟨_, rfl⟩
  | .c (.o (.pf cs)), _, ha =>
    have ha' : RelL B w μ (.pf cs) va := ha
    cases ha' with
    | pf => exact ⟨_, rfl⟩

def resRun (tmps : Array Value) : ResultVar → Sem Value
  | .tmp t => pure (tmps.getD t undef)
  | .cell a t => do loadVar t (← asAddr (tmps.getD a undef))

theorem results_eq (fn : Func) (tmps : Array Value) : results fn tmps = (do
    let vs ← fn.results.mapM (resRun tmps)
    pure (if h : vs.size = 1 then vs[0] else .tuple vs)) := by
  unfold results
  congr 1

theorem resV_sound {st : St} {a : Act} {N : Nat} (hT : TOk P T) (hs : SR X N st a w μ B) (rv : List ResultVar) : ∀ {K : List V → Prop}, resVK T st rv K →
    ∃ vs us, K vs ∧ (rv.mapM (resRun a.tmps)).run P w = .ok us w ∧ us.length = rv.length ∧ vs.length = us.length ∧ ∀ (j : Nat) v u, vs[j]? = some v → us[j]? = some u → RelV B w μ v u := by
  induction rv with
  | nil => exact fun h => ⟨[], [], h, rfl, rfl, rfl, by simp⟩
  | cons r q ih =>
    intro K h
    have fin : ∀ (v : V) (u : Value), (resRun a.tmps r).run P w = .ok u w → RelV B w μ v u → (resVK T st q fun vs => K (v :: vs)) →
        ∃ vs us, K vs ∧ ((r :: q).mapM (resRun a.tmps)).run P w = .ok us w ∧ us.length = (r :: q).length ∧ vs.length = us.length ∧ ∀ (j : Nat) v u, vs[j]? = some v → us[j]? = some u → RelV B w μ v u := by
      intro v u h1 h2 h3
      obtain ⟨vs, us, k1, k2, k3, k4, k5⟩ := ih h3
      refine ⟨v :: vs, u :: us, k1, ?_, by simp [k3], by simp [k4], fun j v' u' g1 g2 => ?_⟩
      · simp only [List.mapM_cons, Sem.run_bind, h1, Result.andThen_ok, Sem.run_pure, k2]
      · cases j with
        | zero => simp at g1 g2; subst g1; subst g2; exact h2
        | succ j => exact k5 j v' u' (by simpa using g1) (by simpa using g2)
    cases r with
    | tmp t =>
      have h : getK st.e t fun v => resVK T st q fun vs => K (v :: vs) := h
      rw [getK_eq] at h
      exact fin _ _ rfl (hs.env t) h
    | cell ad t =>
      have h : getK st.e ad fun p => loadSem (T t) p (lookK st.x) fun v => resVK T st q fun vs => K (v :: vs) := h
      rw [getK_eq, lookK_eq] at h
      obtain ⟨adr, he⟩ := loadSem_ptr h (hs.env ad)
      obtain ⟨v, v', k1, k2, k3⟩ := load_sound hT hs.sb h (hs.env ad)
      refine fin v v' ?_ k3 k1
      rw [he] at k2
      simp only [Instr.loadAt, Instr.sureAddr, Sem.run_bind, Sem.run_pure, Result.andThen_ok] at k2
      simp only [resRun, he, asAddr, Sem.run_bind, Sem.run_pure, Result.andThen_ok, k2]

theorem lookE_envOf (cs : List C) : ∀ (k t : Nat), lookE (envOf cs k) t = if k ≤ t then (match cs[t - k]? with | some c => .c c | none => .c (.o .u)) else .c (.o .u) := by
  induction cs with
  | nil => intro k t; simp [envOf, lookE]
  | cons c r ih =>
    intro k t
    simp only [envOf, lookE_cons, ih]
    by_cases h1 : k = t
    · subst h1; simp
    · rw [if_neg h1]
      by_cases h2 : k + 1 ≤ t
      · rw [if_pos h2, if_pos (by omega)]
        rw [show t - k = (t - (k + 1)) + 1 by omega]
        rfl
      · rw [if_neg h2, if_neg (by omega)]

/-- a function's contract, from the walk of its body -/
theorem Fn_intro {G : Par} (hg : Good P G) {f : FuncId} {fn : Func} {c : Code} (hf : P.funcs[f]? = some fn) (hb : fn.body = some c) (hnm : (fn.name == "runtime.NumGoroutine") = false) (hN : fn.ntmps = G.N)
    {cs : List C} {bs : Bxs} {res : Res} {bs' : Bxs} (he : entryOk G.N cs bs = true)
    (h : awp G c ⟨envOf cs 0, bs⟩ fun ex st => match ex with
      | .exit _ => False
      | _ => finK G.T fn.results.toList bs res bs' st) : Fn P f cs bs res bs' := by
  intro w Bx hlt μ vs hsb hdom hr
  simp only [entryOk, Bool.and_eq_true] at he
  obtain ⟨e1, e2, e3, e4, e5⟩ := he
  have hnd : (bs.map (·.1)).Nodup := (nodupB_iff _).1 e2
  have hcall : (callFunc f ⟨vs⟩).run P w = .ok (.enter f ⟨vs⟩) w := by
    have hne : fn.name ≠ "runtime.NumGoroutine" := by simpa using hnm
    simp [callFunc, hf, hne, hb]
  unfold CallsV
  rw [hcall]
  -- the marks
  have hin : ∀ id, (boxOf bs id).isSome = true → muIn bs μ id = μ id := fun id h => by simp [muIn, h]
  have hcell : ∀ id cl, boxOf bs id = some (.st cl) → ∀ i ∈ idsLs cl, muIn bs μ i = μ i := fun id cl hid i hi => hin i (List.all_eq_true.1 e5 i (idsX_mem (mem_of_boxOf hid) i hi))
  have hsb0 : SB (P := P) ⟨w.heap.size, Bx, hlt⟩ (boxOf bs) (muIn bs μ) Bx w := by
    refine ⟨fun id bx hid => ?_, fun id id' b1 b2 b o n o' n' h1 h2 h3 h4 h5 h6 => ?_, fun id b1 b o n h1 h2 h3 h4 => ?_, hsb.bx, hsb.sz, hsb.blt, hsb.gp⟩
    · have hm := hin id (by rw [hid]; rfl)
      have hbox := hsb.box id bx hid
      cases bx with
      | st cl =>
        obtain ⟨b, o, k1, ⟨us, k2, k2'⟩, k3⟩ := hbox
        exact ⟨b, o, by rw [hm]; exact k1, ⟨us, k2.on (hcell id cl hid), k2'⟩, k3⟩
      | ar cl => simpa only [BoxR, hm] using hbox
      | fz cl => simpa only [BoxR, hm] using hbox
    · rw [hin id (by rw [h1]; rfl)] at h5
      rw [hin id' (by rw [h2]; rfl)] at h6
      exact hsb.sep id id' b1 b2 b o n o' n' h1 h2 h3 h4 h5 h6
    · rw [hin id (by rw [h1]; rfl)] at h4
      exact hsb.loc id b1 b o n h1 h2 h3 h4
  have hlen : vs.length = cs.length := hr.1.symm
  have hle : vs.length ≤ G.N := by rw [hlen]; exact Nat.le_of_ble_eq_true e1
  have hinv : Inv (P := P) ⟨w.heap.size, Bx, hlt⟩ G.N w (muIn bs μ) ⟨envOf cs 0, bs⟩ { tmps := (⟨vs⟩ : Array Value) ++ Array.replicate (fn.ntmps - (⟨vs⟩ : Array Value).size) undef, defers := [] } w := by
    refine ⟨muIn bs μ, Bx, ⟨hsb0, fun t => ?_, by simp [hN]; omega, rfl⟩, ⟨rfl, fun _ _ _ => rfl, rfl, rfl, rfl, fun _ _ => rfl, fun _ h => h⟩, fun id hid => ?_⟩
    · rw [lookE_envOf]
      simp only [Nat.zero_le, if_true, Nat.sub_zero]
      cases hc : cs[t]? with
      | none => exact RelL.u
      | some c =>
        have ht : t < vs.length := by rw [hlen]; exact (List.getElem?_eq_some_iff.1 hc).1
        have hv : vs[t]? = some vs[t] := List.getElem?_eq_getElem ht
        have hval : ((⟨vs⟩ : Array Value) ++ Array.replicate (fn.ntmps - (⟨vs⟩ : Array Value).size) undef).getD t undef = vs[t] := by
          rw [Array.getD_eq_getD_getElem?, Array.getElem?_append_left (by simpa using ht)]
          simp [hv]
        rw [hval]
        refine RelC.on (hr.2 t c vs[t] hc hv) fun id hid => hin id ?_
        exact List.all_eq_true.1 e4 id (List.mem_flatMap.2 ⟨c, List.mem_of_getElem? hc, hid⟩)
    · unfold muIn at hid
      split at hid
      · exact .inl (hdom id hid)
      · exact absurd rfl hid
  refine calls_of_wp hf hb (wp_mono (awp_sound hg c _ _ _ _ hinv h) ?_)
  have fin : ∀ (a : Act) (w' : World) (st : St), finK G.T fn.results.toList bs res bs' st → Inv (P := P) ⟨w.heap.size, Bx, hlt⟩ G.N w (muIn bs μ) st a w' →
      a.defers = [] ∧ ∃ v, (results fn a.tmps).run P w' = .ok v w' ∧ ∃ v', Ending.returned v = .returned v' ∧ FnPost w Bx μ bs bs' res v' w' := by
    intro a w' st hk hi
    obtain ⟨μ1, B, hs, hh, _⟩ := hi
    refine ⟨hs.dfr, ?_⟩
    obtain ⟨ovs, us, hk, hrun, hul, hvl, hrel⟩ := resV_sound hg.T hs _ hk
    rw [lookK_eq] at hk
    obtain ⟨fz, fr, hk, ho⟩ := outs_sound hs.sb _ hk hvl hrel
    obtain ⟨fz', hk, hz', hbx⟩ := boxes_sound hs.sb _ hk
    obtain ⟨hc, hkeys⟩ := cond_true hk
    simp only [Bool.and_eq_true] at hc
    obtain ⟨c1, c2, c3⟩ := hc
    have hfrn : fr.Nodup := (nodupB_iff _).1 c1
    have hdis : ∀ id ∈ fr, id ∉ fz ++ fz' := fun id hid hm => by
      have := List.all_eq_true.1 c2 id hid
      rw [List.elem_eq_true_of_mem hm] at this
      cases this
    have hFZ : ∀ id ∈ fz ++ fz', ∃ cs, boxOf st.x id = some (.ar cs) ∧ isPar id = false := fun id hid => by
      rcases List.mem_append.1 hid with h1 | h1
      · exact ho.fz id h1
      · exact hz' id h1
    have hru : (results fn a.tmps).run P w' = .ok (if h : us.length = 1 then us[0] else .tuple ⟨us⟩) w' := by
      have hm : (fn.results.mapM (resRun a.tmps)).run P w' = .ok ⟨us⟩ w' := by
        rw [Array.mapM_eq_mapM_toList]
        change Sem.run P ((List.mapM (resRun a.tmps) fn.results.toList) >>= fun l => pure l.toArray) w' = _
        simp only [Sem.run_bind, hrun, Result.andThen_ok, Sem.run_pure]
      rw [results_eq]
      simp only [Sem.run_bind, hm, Result.andThen_ok, Sem.run_pure]
      rfl
    let B' : Nat → Prop := fun b => B b ∧ (b < w.heap.size → Bx b) ∧ ∀ id ∈ fz ++ fz', ∀ o n, μ1 id ≠ some (some (b, o, n))
    have hbk : BkOk (fz ++ fz') μ1 B B' := ⟨fun b h => h.1, fun id hid b o n hm hb => hb.2.2 id hid o n hm⟩
    let μ' : Mu := fun i => match (resList res)[i - 2000]?, ovs[i - 2000]? with
      | some r, some v => match resId r v with
        | some id => μ1 id
        | none => some none
      | _, _ => some none
    have hmu : ∀ (j : Nat) r v, (resList res)[j]? = some r → ovs[j]? = some v → μ' (2000 + j) = match resId r v with
        | some id => μ1 id
        | none => some none := fun j r v h1 h2 => by simp only [μ', Nat.add_sub_cancel_left, h1, h2]
    have hparmu : ∀ k, k ∈ bs.map (·.1) → μ1 k = μ k := by
      intro k hk
      obtain ⟨q, hq, rfl⟩ := List.mem_map.1 hk
      have := List.all_eq_true.1 e3 q hq
      simp only [Bool.and_eq_true] at this
      rw [hh.par q.1 this.2]
      exact hin q.1 (by rw [boxOf_of_mem hnd hq]; rfl)
    have hwr : ∀ b, b < w.heap.size → ¬ Wr (boxOf bs) μ b → w'.heap[b]? = w.heap[b]? := by
      intro b hb hn
      refine hh.blk b hb fun id o n hp hm => hn ?_
      unfold muIn at hm
      split at hm
      · rename_i hs
        obtain ⟨bx, hbx⟩ := Option.isSome_iff_exists.1 hs
        have := List.all_eq_true.1 e3 _ (mem_of_boxOf hbx)
        simp only [Bool.and_eq_true] at this
        exact ⟨id, bx, o, n, hbx, this.1, hm⟩
      · cases hm
    have frAt : ∀ (j : Nat) bx, HasB (resList res) j bx →
        (∃ r id v u f, (resList res)[j]? = some r ∧ μ' (2000 + j) = μ1 id ∧ id ∈ fr ∧ ovs[j]? = some v ∧ us[j]? = some u ∧ (∀ i ∈ f, i ∈ fz) ∧ OutB (boxOf st.x) μ1 B w' r v u f id bx) ∨ (μ' (2000 + j) = some none ∧ bx = .ar []) := by
      rintro j bx ⟨r, h1, hrb⟩
      have hj : j < us.length := by rw [← ho.len.1]; exact (List.getElem?_eq_some_iff.1 h1).1
      have h2 : us[j]? = some us[j] := List.getElem?_eq_getElem hj
      have hj' : j < ovs.length := by rw [hvl]; exact hj
      have h3 : ovs[j]? = some ovs[j] := List.getElem?_eq_getElem hj'
      obtain ⟨f', g', k1, k2, k3⟩ := ho.at_ j _ _ _ h1 h3 h2
      have hm := hmu j _ _ h1 h3
      generalize ovs[j] = v at *
      generalize us[j] = u at *
      cases k1 with
      | b g =>
        rename_i id bx'
        have : bx' = bx := by have := g.hb; rw [hrb] at this; cases this; rfl
        subst this
        rw [g.hi] at hm
        exact .inl ⟨r, id, v, u, f', h1, hm, k3 _ (by simp), h3, h2, k2, g⟩
      | n g =>
        rw [g.hi] at hm
        exact .inr ⟨hm, g.hb _ hrb⟩
    refine ⟨_, hru, _, rfl, us, μ', B', ?_, ⟨ho.len.1, ?_, ?_, ?_, ?_, hkeys, ?_, ?_, ⟨hwr, hh.os, hh.tape, hh.output⟩, fun b hb => hs.sb.blt b hb.1⟩⟩
    · cases res with
      | one r =>
        have h1 : us.length = 1 := by rw [hul]; exact Nat.eq_of_beq_eq_true c3
        simp only [ResV, h1, dite_true]
        refine List.ext_getElem (by simp [h1]) fun i a b => ?_
        simp only [List.length_singleton] at b
        have : i = 0 := by omega
        subst this; rfl
      | tup rs =>
        have h1 : us.length ≠ 1 := by
          rw [hul]
          intro he
          simp [shapeOk, he] at c3
        simp only [ResV, h1, dite_false]
    · intro j r u h1 h2
      have h3 : ∃ v, ovs[j]? = some v := ⟨ovs[j]'(by rw [hvl]; exact (List.getElem?_eq_some_iff.1 h2).1), List.getElem?_eq_getElem _⟩
      obtain ⟨v, h3⟩ := h3
      obtain ⟨f', g', k1, k2, k3⟩ := ho.at_ j r v u h1 h3 h2
      have hm := hmu j r v h1 h3
      cases k1 with
      | b g => rw [g.hi] at hm; exact g.rel _ _ (fun id hid => List.mem_append_left _ (k2 id hid)) hbk _ _ hm
      | n g => rw [g.hi] at hm; exact g.rel _ _ (fun id hid => List.mem_append_left _ (k2 id hid)) hbk _ _ hm
    · intro j bx h1
      rcases frAt j bx h1 with ⟨r, id, v, u, f, hr1, hm, hfr, _, _, hf, g⟩ | ⟨hm, rfl⟩
      · obtain ⟨bx0, hm0, hl0⟩ := g.hm
        refine ⟨g.box _ _ (fun i hi => List.mem_append_left _ (hf i hi)) hbk (fun b o n k1 => ⟨(hs.sb.inB hm0 hl0 k1).1, fun hb => ?_, fun id' hid' o' n' hm' => ?_⟩) _ _ hm, fun b o k h2 => ?_⟩
        · have := hs.sb.loc id _ b o _ hm0 hl0 g.hp k1
          simp only at this
          omega
        · obtain ⟨cl', f1, f2⟩ := hFZ id' hid'
          have := hs.sb.sep id id' _ _ b _ _ _ _ hm0 f1 hl0 rfl k1 hm'
          subst this
          exact hdis id hfr hid'
        · rw [hm] at h2
          exact hs.sb.loc id _ b o k hm0 hl0 g.hp h2
      · refine ⟨.inl ⟨hm, rfl⟩, fun b o k h2 => ?_⟩
        rw [hm] at h2; cases h2
    · intro j j' bx bx' b o k o' k' h1 h2 h3 h4
      rcases frAt j bx h1 with ⟨r, id, v, u, f, hr1, hm, hfr, g1, g2, hf, g⟩ | ⟨hm, rfl⟩
      · rcases frAt j' bx' h2 with ⟨r', id', v', u', f', hr1', hm', hfr', g1', g2', hf', g'⟩ | ⟨hm', rfl⟩
        · rw [hm] at h3
          rw [hm'] at h4
          obtain ⟨b0, p1, p2⟩ := g.hm
          obtain ⟨b0', p1', p2'⟩ := g'.hm
          have := hs.sb.sep id id' _ _ b _ _ _ _ p1 p1' p2 p2' h3 h4
          subst this
          exact ho.inj hfrn j j' _ _ _ _ _ _ _ _ id hr1 hr1' g1 g1' g2 g2' (.b g) (.b g')
        · rw [hm'] at h4; cases h4
      · rw [hm] at h3; cases h3
    · intro k bx hkb
      have := hbx k bx hkb (fz ++ fz') B' (fun id h => List.mem_append_right _ h) hbk
      have hk' : μ1 k = μ k := hparmu k (by rw [← hkeys]; exact List.mem_map.2 ⟨_, hkb, rfl⟩)
      cases bx <;> simpa only [BoxC, hk'] using this
    · refine ⟨hs.sb.sz, fun b hb hn => hwr b hb fun hw => hn (hsb.wrB hw).1, hh.ex, fun b hb hb' => hb'.2.1 hb⟩
    · intro b hb
      refine ⟨hs.sb.bx b hb, fun _ => hb, fun id hid o n hm => ?_⟩
      obtain ⟨cl, h1, h2⟩ := hFZ id hid
      have := hs.sb.loc id _ b o n h1 rfl h2 hm
      have := hlt b hb
      simp only at *
      omega
  rintro e a w' ⟨ex, st, rfl, hk, hi⟩
  cases ex with
  | normal => exact fin a w' st hk hi
  | ret => exact fin a w' st hk hi
  | exit id => exact hk.elim

end
end Go.Sx

/-
  Cuts and loops.
-/
namespace Go.Sx

theorem awp_lin (G : Par) (c : Code) : ∀ st, Lin2 (awp G c st) := by
  induction c with
  | skip => exact fun st => Lin.pure (Ex.normal, st)
  | region id ops draw =>
    intro st
    cases draw with
    | true =>
      show Lin2 fun K : Ex → St → Prop => bif !okStart ops.toList st.x || !(ops.toList.all fun o => dstOk G.N o.dst) then False else opsK G ops.toList ops.toList st [] fun st' inf => drawK (statB ops.toList (G.mask id)) (dynB inf (G.mask id)) (canonK (G.live id) G.mv st' fun st'' => K Ex.normal st'')
      exact Lin.bif (fun _ => Lin.ff) fun _ => Lin.bind2 (opsK_lin G _ _ st []) fun st' inf => Lin.draw (Lin.bind (canonK_lin _ _ _) fun _ => Lin.pure (_, _))
    | false =>
      show Lin2 fun K : Ex → St → Prop => bif !okStart ops.toList st.x || !(ops.toList.all fun o => dstOk G.N o.dst) then False else opsK G ops.toList ops.toList st [] fun st' inf => canonK (G.live id) G.mv st' fun st'' => K Ex.normal st''
      exact Lin.bif (fun _ => Lin.ff) fun _ => Lin.bind2 (opsK_lin G _ _ st []) fun st' inf => Lin.bind (canonK_lin _ _ _) fun _ => Lin.pure (_, _)
  | seq a b iha ihb =>
    intro st
    show Lin2 fun K : Ex → St → Prop => awp G a st fun ex st' => match ex with
      | .normal => awp G b st' K
      | .exit id => K (.exit id) st'
      | .ret => K .ret st'
    refine Lin.bind2 (iha st) fun ex st' => ?_
    cases ex with
    | normal => exact ihb st'
    | exit id => exact Lin.pure (_, _)
    | ret => exact Lin.pure (_, _)
  | cond c a b iha ihb =>
    intro st
    show Lin2 fun K : Ex → St → Prop => operandK st.e c fun v => match v with
      | .c (.o l) => match l with
        | .tt => awp G a st K
        | .ff => awp G b st K
        | .b x => boolK x (awp G a st K) (awp G b st K)
        | _ => False
      | _ => False
    refine Lin.bind (operandK_lin _ _) fun v => ?_
    match v with
    | .t _ => exact Lin.ff
    | .c (.a _) => exact Lin.ff
    | .c (.o l) =>
      cases l <;> first | exact Lin.ff | exact iha st | exact ihb st | exact Lin.bool (iha st) (ihb st)
  | block id body ih =>
    intro st
    show Lin2 fun K : Ex → St → Prop => awp G body st fun ex st' => match ex with
      | .exit j => bif Nat.beq j id then K .normal st' else K (.exit j) st'
      | .normal => K .normal st'
      | .ret => K .ret st'
    refine Lin.bind2 (ih st) fun ex st' => ?_
    cases ex with
    | normal => exact Lin.pure (_, _)
    | exit j => exact Lin.bif (fun _ => Lin.pure (_, _)) fun _ => Lin.pure (_, _)
    | ret => exact Lin.pure (_, _)
  | loop body ih =>
    intro st
    have key : ∀ n : Nat, ∀ st : St, Lin fun K : Ex × St → Prop => Nat.rec (motive := fun _ => St → Prop) (fun _ => False) (fun _ ihn st => awp G body st fun ex st' => match ex with
      | .normal => ihn st'
      | .exit id => K (.exit id, st')
      | .ret => K (.ret, st')) n st := by
      intro n
      induction n with
      | zero => exact fun st => Lin.ff
      | succ n ihn =>
        intro st
        refine Lin.of (Lin.bind2 (ih st) (Y := fun ex st' K => match ex with
          | .normal => Nat.rec (motive := fun _ => St → Prop) (fun _ => False) (fun _ ihn st => awp G body st fun ex st' => match ex with
              | .normal => ihn st'
              | .exit id => K (.exit id, st')
              | .ret => K (.ret, st')) n st'
          | .exit id => K (.exit id, st')
          | .ret => K (.ret, st')) fun ex st' => ?_) fun _ => rfl
        cases ex with
        | normal => exact ihn st'
        | exit id => exact Lin.pure (_, _)
        | ret => exact Lin.pure (_, _)
    intro K
    constructor
    · rintro ⟨n, h⟩
      obtain ⟨p, h1, h2⟩ := (key n st K).1 h
      exact ⟨p, ⟨n, h1⟩, h2⟩
    · rintro ⟨p, ⟨n, h1⟩, h2⟩
      exact ⟨n, (key n st K).2 ⟨p, h1, h2⟩⟩
  | exit id => exact fun st => Lin.pure (Ex.exit id, st)
  | ret => exact fun st => Lin.pure (Ex.ret, st)
  | rangeFunc f ps as b _ _ => exact fun st => Lin.ff
  | scope b _ => exact fun st => Lin.ff
  | label l => exact fun st => Lin.ff
  | goto l => exact fun st => Lin.ff
  | refuse y => exact fun st => Lin.ff

theorem awp_mono {G : Par} {c : Code} {st : St} {K K' : Ex → St → Prop} (h : awp G c st K) (hk : ∀ ex st', K ex st' → K' ex st') : awp G c st K' :=
  Lin.mono (K := fun p : Ex × St => K p.1 p.2) (K' := fun p => K' p.1 p.2) (awp_lin G c st) (fun p hp => hk p.1 p.2 hp) h

/-- a loop, by what holds at the head of each round; n falls -/
theorem loop_inv {G : Par} {body : Code} {K : Ex → St → Prop} (I : Nat → St → Prop) {n : Nat} {st : St} (h0 : I n st)
    (h : ∀ n st, I n st → awp G body st fun ex st' => match ex with
      | .normal => ∃ m, m < n ∧ I m st'
      | .exit id => K (.exit id) st'
      | .ret => K .ret st') : awp G (.loop body) st K := by
  refine ⟨n + 1, ?_⟩
  have : ∀ k n st, n < k → I n st → Nat.rec (motive := fun _ => St → Prop) (fun _ => False) (fun _ ihn st => awp G body st fun ex st' => match ex with
      | .normal => ihn st'
      | .exit id => K (.exit id) st'
      | .ret => K .ret st') k st := by
    intro k
    induction k with
    | zero => intro n st hn; omega
    | succ k ih =>
      intro n st hn hi
      refine awp_mono (h n st hi) fun ex st' hk => ?_
      cases ex with
      | normal => obtain ⟨m, hm, hi'⟩ := hk; exact ih m st' (by omega) hi'
      | exit id => exact hk
      | ret => exact hk
  exact this (n + 1) n st (by omega) h0

/-- one round more -/
theorem loop_step {G : Par} {body : Code} {K : Ex → St → Prop} {st : St} (h : awp G body st fun ex st' => match ex with
      | .normal => awp G (.loop body) st' K
      | .exit id => K (.exit id) st'
      | .ret => K .ret st') : awp G (.loop body) st K := by
  obtain ⟨⟨ex, st'⟩, h1, h2⟩ := (awp_lin G body st (fun p => match p.1 with
      | .normal => awp G (.loop body) p.2 K
      | .exit id => K (.exit id) p.2
      | .ret => K .ret p.2)).1 h
  cases ex with
  | normal =>
    obtain ⟨n, h2⟩ := h2
    refine ⟨n + 1, Lin.mono (K := fun p : Ex × St => p = (.normal, st')) (K' := fun p => match p.1 with
      | .normal => Nat.rec (motive := fun _ => St → Prop) (fun _ => False) (fun _ ihn st => awp G body st fun ex st' => match ex with
            | .normal => ihn st'
            | .exit id => K (.exit id) st'
            | .ret => K .ret st') n p.2
      | .exit id => K (.exit id) p.2
      | .ret => K .ret p.2) (awp_lin G body st) (fun p hp => by subst hp; exact h2) h1⟩
  | exit id =>
    refine ⟨1, Lin.mono (K := fun p : Ex × St => p = (.exit id, st')) (K' := fun p => match p.1 with
      | .normal => False
      | .exit id => K (.exit id) p.2
      | .ret => K .ret p.2) (awp_lin G body st) (fun p hp => by subst hp; exact h2) h1⟩
  | ret =>
    refine ⟨1, Lin.mono (K := fun p : Ex × St => p = (.ret, st')) (K' := fun p => match p.1 with
      | .normal => False
      | .exit id => K (.exit id) p.2
      | .ret => K .ret p.2) (awp_lin G body st) (fun p hp => by subst hp; exact h2) h1⟩

end Go.Sx

/-
  Tables of types, checked by evaluation; '==' on structs.
-/
namespace Go.Sx

def tabF : List (Nat × TI) → TypeId → TI
  | [], _ => ⟨0, 0, false, [], .other, false⟩
  | (k, v) :: r, t => bif Nat.beq k t then v else tabF r t

def zeroLB : Value → L → Bool
  | .int k n, .i k' m => kindEq k k' && decide (n = m)
  | .bool false, .ff => true
  | .string s, .s l => s.data.toList.isEmpty && l.isEmpty
  | .slice none 0 0, .nl => true
  | .pointer none, .np => true
  | _, _ => false

def zeroB : List Value → List L → Bool
  | [], [] => true
  | v :: vs, l :: ls => zeroLB v l && zeroB vs ls
  | _, _ => false

theorem zeroLB_spec {v : Value} {l : L} (h : zeroLB v l = true) : v = zval l ∧ isZero l = true := by
  unfold zeroLB at h
  split at h
  · simp only [Bool.and_eq_true, decide_eq_true_eq] at h
    obtain ⟨h1, rfl⟩ := h
    rw [kindEq_iff] at h1
    subst h1
    exact ⟨rfl, rfl⟩
  · exact ⟨rfl, rfl⟩
  · rename_i s l
    simp only [Bool.and_eq_true, List.isEmpty_iff] at h
    obtain ⟨h1, rfl⟩ := h
    refine ⟨?_, rfl⟩
    obtain ⟨⟨x⟩⟩ := s
    simp only at h1
    subst h1
    rfl
  · exact ⟨rfl, rfl⟩
  · exact ⟨rfl, rfl⟩
  · cases h

theorem zeroB_spec : ∀ {vs : List Value} {ls : List L}, zeroB vs ls = true → vs = ls.map zval ∧ ∀ l ∈ ls, isZero l = true
  | [], [], _ => ⟨rfl, by simp⟩
  | v :: vs, l :: ls, h => by
    simp only [zeroB, Bool.and_eq_true] at h
    obtain ⟨h1, h2⟩ := zeroLB_spec h.1
    obtain ⟨h3, h4⟩ := zeroB_spec h.2
    refine ⟨by simp [h1, ← h3], fun q hq => ?_⟩
    rcases List.mem_cons.1 hq with rfl | hq
    · exact h2
    · exact h4 q hq
  | [], _ :: _, h => by cases h
  | _ :: _, [], h => by cases h

def sameFs : List Field → List (Nat × TypeId) → Bool
  | [], [] => true
  | f :: fs, q :: qs => Nat.beq f.offset q.1 && (Nat.beq f.type q.2 && sameFs fs qs)
  | _, _ => false

theorem sameFs_spec : ∀ {fs : List Field} {qs : List (Nat × TypeId)}, sameFs fs qs = true → fs.map (fun f => (f.offset, f.type)) = qs
  | [], [], _ => rfl
  | f :: fs, (a, b) :: qs, h => by
    simp only [sameFs, Bool.and_eq_true] at h
    simp only [List.map_cons, sameFs_spec h.2.2, Nat.eq_of_beq_eq_true h.1, Nat.eq_of_beq_eq_true h.2.1]
  | [], _ :: _, h => by cases h
  | _ :: _, [], h => by cases h

def undB (P : Program) (T : TypeId → TI) (t : TypeId) (d : D) : Bool :=
  match d with
  | .int k => match P.underlying t with
    | some (.int k') => kindEq k k'
    | _ => false
  | .bool => match P.underlying t with
    | some .bool => true
    | _ => false
  | .str => match P.underlying t with
    | some .string => true
    | _ => false
  | .slice e => match P.underlying t with
    | some (.slice e') => Nat.beq e e' && !isOther (T e).d
    | _ => false
  | .ptr e => match P.underlying t with
    | some (.pointer e') => Nat.beq e e'
    | _ => false
  | .struct qs => match P.underlying t with
    | some (.struct fs) => sameFs fs.toList qs && qs.all fun q => !isOther (T q.2).d && Nat.blt 0 (T q.2).size
    | _ => false
  | .array n e => match P.underlying t with
    | some (.array n' e') => Nat.beq n n' && (Nat.beq e e' && !isOther (T e).d)
    | _ => false
  | .other => true

def tyB (P : Program) (T : TypeId → TI) (t : TypeId) : Bool :=
  match P.info? t with
  | none => false
  | some i => (Nat.beq i.size (T t).size && Nat.beq i.bytes (T t).bytes) && ((match i.zero with
      | some z => zeroB z.cells.toList (T t).zero
      | none => false) && (Nat.beq (T t).zero.length (T t).size && (((T t).agg == isAgg (T t).d) && (Nat.blt 0 (T t).bytes && undB P T t (T t).d))))

section
variable {P : Program} [Gl P] {T : TypeId → TI}

theorem undB_spec {t : TypeId} {d : D} (h : undB P T t d = true) : UndOk P T t d := by
  unfold undB at h
  cases d <;> simp only at h
  case int k =>
    split at h
    · rename_i k' hk; rw [kindEq_iff] at h; subst h; exact hk
    · cases h
  case bool =>
    split at h
    · assumption
    · cases h
  case str =>
    split at h
    · assumption
    · cases h
  case slice e =>
    split at h
    · rename_i e' he
      simp only [Bool.and_eq_true, Bool.not_eq_true'] at h
      have := Nat.eq_of_beq_eq_true h.1
      subst this
      exact ⟨he, h.2⟩
    · cases h
  case ptr e =>
    split at h
    · rename_i e' he
      have := Nat.eq_of_beq_eq_true h
      subst this
      exact he
    · cases h
  case struct qs =>
    split at h
    · rename_i fs hf
      simp only [Bool.and_eq_true] at h
      refine ⟨⟨fs, hf, sameFs_spec h.1⟩, fun q hq => ?_⟩
      have := List.all_eq_true.1 h.2 q hq
      simp only [Bool.and_eq_true, Bool.not_eq_true'] at this
      exact ⟨this.1, by have : 0 + 1 ≤ (T q.2).size := Nat.le_of_ble_eq_true this.2; omega⟩
    · cases h
  case array n e =>
    split at h
    · rename_i n' e' he
      simp only [Bool.and_eq_true, Bool.not_eq_true'] at h
      have h1 := Nat.eq_of_beq_eq_true h.1
      have h2 := Nat.eq_of_beq_eq_true h.2.1
      subst h1; subst h2
      exact ⟨he, h.2.2⟩
    · cases h
  case other => trivial

theorem tyB_spec {t : TypeId} (h : tyB P T t = true) : TyOk P T t := by
  unfold tyB at h
  split at h
  · cases h
  · rename_i i hi
    simp only [Bool.and_eq_true, beq_iff_eq] at h
    obtain ⟨⟨h1, h2⟩, h3, h4, h5, h6, h7⟩ := h
    cases hz : i.zero with
    | none => rw [hz] at h3; cases h3
    | some z =>
      rw [hz] at h3
      obtain ⟨k1, k2⟩ := zeroB_spec h3
      exact ⟨⟨i, hi, Nat.eq_of_beq_eq_true h1, Nat.eq_of_beq_eq_true h2, z, hz, k1⟩, Nat.eq_of_beq_eq_true h4, k2, h5, by have : 0 + 1 ≤ (T t).bytes := Nat.le_of_ble_eq_true h6; omega, undB_spec h7⟩

theorem tabF_mem (tab : List (Nat × TI)) (t : TypeId) : isOther (tabF tab t).d = true ∨ ∃ q ∈ tab, q.1 = t := by
  induction tab with
  | nil => exact .inl rfl
  | cons q r ih =>
    obtain ⟨k, v⟩ := q
    by_cases hk : k = t
    · exact .inr ⟨(k, v), List.mem_cons_self .., hk⟩
    · have : tabF ((k, v) :: r) t = tabF r t := by simp [tabF, beq_ne hk]
      rw [this]
      rcases ih with h | ⟨q, hq, h⟩
      · exact .inl h
      · exact .inr ⟨q, List.mem_cons_of_mem _ hq, h⟩

theorem tok_of {tab : List (Nat × TI)} (h : (tab.all fun q => tyB P (tabF tab) q.1) = true) : TOk P (tabF tab) := by
  intro t ht
  rcases tabF_mem tab t with h1 | ⟨q, hq, rfl⟩
  · rw [h1] at ht; cases ht
  · exact tyB_spec (List.all_eq_true.1 h q hq)

/-- which kinds of cells can be compared -/
def sameK : L → L → Bool
  | .i k _, .i k' _ => kindEq k k'
  | .ff, .ff => true
  | .s _, .s _ => true
  | _, _ => false

def layB (T : TypeId → TI) : List (Nat × TypeId) → Nat → List L → Bool
  | [], _, zs => zs.isEmpty
  | q :: r, off, zs => Nat.beq q.1 off && (headB (T q.2).zero zs && layB T r (off + (T q.2).zero.length) (zs.drop (T q.2).zero.length))
where
  headB : List L → List L → Bool
    | [], _ => true
    | a :: r, b :: s => sameK a b && headB r s
    | _ :: _, [] => false

def eqB (P : Program) (T : TypeId → TI) : Nat → TypeId → Bool
  | 0, _ => false
  | d + 1, t => match (T t).d with
    | .int k => match (T t).zero with
      | [.i k' _] => kindEq k k'
      | _ => false
    | .bool => match (T t).zero with
      | [.ff] => true
      | _ => false
    | .str => match (T t).zero with
      | [.s _] => true
      | _ => false
    | .struct fs => ((P.fieldsOf t).toList.all fun f => f.name != "_") && (!P.stoodInHeld t && (layB T fs 0 (T t).zero && fs.all fun q => eqB P T d q.2))
    | _ => false

theorem headB_spec {r : Bool} : ∀ {a zs : List L} {vs us : List Value}, layB.headB a zs = true → EqVals zs vs us r →
    ∃ r1 r2, EqVals a (vs.take a.length) (us.take a.length) r1 ∧ EqVals (zs.drop a.length) (vs.drop a.length) (us.drop a.length) r2 ∧ r = (r1 && r2)
  | [], zs, vs, us, _, h => ⟨true, r, ⟨rfl, rfl, rfl⟩, by simpa using h, by simp⟩
  | x :: a, [], vs, us, h, _ => by cases h
  | x :: a, z :: zs, vs, us, h, he => by
    simp only [layB.headB, Bool.and_eq_true] at h
    obtain ⟨v, u, vs', us', r', rfl, rfl, h1, h2⟩ := he
    obtain ⟨r1, r2, k1, k2, k3⟩ := headB_spec h.2 h1
    unfold sameK at h
    split at h
    · obtain ⟨h, _⟩ := h
      rw [kindEq_iff] at h; subst h
      obtain ⟨p, q, e1, e2, e3⟩ := h2
      exact ⟨(p == q && r1), r2, ⟨v, u, _, _, r1, rfl, rfl, k1, p, q, e1, e2, rfl⟩, k2, by rw [e3, k3, Bool.and_assoc]⟩
    · obtain ⟨p, q, e1, e2, e3⟩ := h2
      exact ⟨(p == q && r1), r2, ⟨v, u, _, _, r1, rfl, rfl, k1, p, q, e1, e2, rfl⟩, k2, by rw [e3, k3, Bool.and_assoc]⟩
    · obtain ⟨p, q, e1, e2, e3⟩ := h2
      exact ⟨(p == q && r1), r2, ⟨v, u, _, _, r1, rfl, rfl, k1, p, q, e1, e2, rfl⟩, k2, by rw [e3, k3, Bool.and_assoc]⟩
    · cases h.1

/-- the value that some cells are, at a type -/
def mkVal (agg : Bool) (vs : List Value) : Value := if agg then .agg ⟨vs⟩ else vs.headD undef

theorem EqVals.len : ∀ {zs : List L} {vs us : List Value} {r : Bool}, EqVals zs vs us r → vs.length = zs.length ∧ us.length = zs.length
  | [], _, _, _, ⟨h1, h2, _⟩ => by subst h1; subst h2; exact ⟨rfl, rfl⟩
  | z :: zs, _, _, _, ⟨v, u, vs', us', r', h1, h2, h3, _⟩ => by
    subst h1; subst h2
    have := EqVals.len h3
    simp [this.1, this.2]

theorem run_part' {w : World} {t : TypeId} (hT : TOk P T) (ho : isOther (T t).d = false) {vs : List Value} {off : Nat} (h : off + (T t).zero.length ≤ vs.length) (hpos : 0 < (T t).size) : (part t ⟨vs⟩ off).run P w = .ok (mkVal (T t).agg ((vs.drop off).take (T t).zero.length)) w := by
  have ht := hT t ho
  simp only [part, Sem.run_bind, run_isAgg' ht ho, Result.andThen_ok]
  cases ha : (T t).agg with
  | true =>
    simp only [if_true, Sem.run_bind, run_sizeOf' ht, Result.andThen_ok, Sem.run_pure, mkVal]
    congr 2
    rw [ht.len]
    apply Array.ext'
    simp [List.extract_eq_drop_take]
  | false =>
    simp only [Bool.false_eq_true, if_false, mkVal]
    have hp : 0 < (T t).zero.length := by rw [ht.len]; exact hpos
    have hlt : off < vs.length := by omega
    have : (⟨vs⟩ : Array Value)[off]? = some vs[off] := by
      rw [List.getElem?_toArray]; exact List.getElem?_eq_getElem hlt
    rw [this]
    simp only [Sem.run_pure]
    congr 1
    rw [List.drop_eq_getElem_cons hlt]
    cases hz : (T t).zero.length with
    | zero => omega
    | succ n => rfl

theorem eqB_spec (hT : TOk P T) : ∀ (d : Nat) (t : TypeId), eqB P T d t = true → ∀ (k : Nat) vs us r (w : World), EqVals (T t).zero vs us r → (Op.equalIn (d + k) t (mkVal (T t).agg vs) (mkVal (T t).agg us)).run P w = .ok r w := by
  intro d
  induction d with
  | zero => intro t h; cases h
  | succ d ih =>
    intro t h k vs us r w he
    rw [show d + 1 + k = (d + k) + 1 by omega]
    unfold eqB at h
    have hne : isOther (T t).d = false := by
      cases hd : (T t).d <;> first | rfl | (rw [hd] at h; cases h)
    have ht := hT t hne
    have hu := ht.und
    have hag := ht.agg
    cases hd : (T t).d <;> rw [hd] at h hu hag <;> simp only [Bool.false_eq_true] at h
    case int kk =>
      split at h
      · rename_i k' n hz
        rw [kindEq_iff] at h; subst h
        rw [hz] at he
        obtain ⟨v, u, vs', us', r', rfl, rfl, ⟨rfl, rfl, rfl⟩, a, b, rfl, rfl, rfl⟩ := he
        simp only [mkVal, hag, isAgg, Bool.false_eq_true, if_false, List.headD_cons, Bool.and_true]
        exact run_equalIn_int w _ t kk kk a b hu
      · cases h
    case bool =>
      split at h
      · rename_i hz
        rw [hz] at he
        obtain ⟨v, u, vs', us', r', rfl, rfl, ⟨rfl, rfl, rfl⟩, a, b, rfl, rfl, rfl⟩ := he
        simp only [mkVal, hag, isAgg, Bool.false_eq_true, if_false, List.headD_cons, Bool.and_true]
        exact run_equalIn_bool' w _ t a b hu
      · cases h
    case str =>
      split at h
      · rename_i hz
        rw [hz] at he
        obtain ⟨v, u, vs', us', r', rfl, rfl, ⟨rfl, rfl, rfl⟩, a, b, rfl, rfl, rfl⟩ := he
        simp only [mkVal, hag, isAgg, Bool.false_eq_true, if_false, List.headD_cons, Bool.and_true]
        rw [run_equalIn_string w _ t _ _ hu, ByteArray.toList_eq, ByteArray.toList_eq]
      · cases h
    case struct fs =>
      simp only [Bool.and_eq_true, Bool.not_eq_true'] at h
      obtain ⟨h1, h2, h3, h4⟩ := h
      obtain ⟨⟨fields, hf1, hf2⟩, hok⟩ := hu
      have hfo : P.fieldsOf t = fields := by simp [Program.fieldsOf, hf1]
      simp only [mkVal, hag, isAgg, if_true]
      rw [run_equalIn_struct w _ t _ _ (by rw [hfo]; exact hf1) h2, hfo]
      rw [hfo] at h1
      have hl := he.len
      -- the fields one by one
      have go : ∀ (fl : List Field) (off : Nat) (zs : List L) (r : Bool), (∀ f ∈ fl, (f.name != "_") = true) → layB T (fl.map fun f => (f.offset, f.type)) off zs = true → (∀ q ∈ fl.map (fun f => (f.offset, f.type)), eqB P T d q.2 = true ∧ isOther (T q.2).d = false ∧ 0 < (T q.2).size) →
          EqVals zs (vs.drop off) (us.drop off) r → (Op.eqFields (d + k) ⟨vs⟩ ⟨us⟩ fl).run P w = .ok r w := by
        intro fl
        induction fl with
        | nil =>
          intro off zs r _ hlay _ hev
          simp only [List.map_nil, layB, List.isEmpty_iff] at hlay
          subst hlay
          obtain ⟨_, _, rfl⟩ := hev
          simp [Op.eqFields]
        | cons f fl ihf =>
          intro off zs r hnm hlay hq hev
          simp only [List.map_cons, layB, Bool.and_eq_true] at hlay
          obtain ⟨l1, l2, l3⟩ := hlay
          have l1 := Nat.eq_of_beq_eq_true l1
          obtain ⟨r1, r2, e1, e2, rfl⟩ := headB_spec l2 hev
          obtain ⟨q1, q2, q3⟩ : eqB P T d f.type = true ∧ isOther (T f.type).d = false ∧ 0 < (T f.type).size := hq (f.offset, f.type) (by simp)
          have hlen := e1.len
          have hn : f.name ≠ "_" := by simpa using hnm f (by simp)
          have hlen : min (T f.type).zero.length (vs.length - off) = (T f.type).zero.length ∧ min (T f.type).zero.length (us.length - off) = (T f.type).zero.length := by simpa only [List.length_take, List.length_drop] using hlen
          have hpos : 0 < (T f.type).zero.length := by rw [(hT f.type q2).len]; exact q3
          have ev := ih f.type q1 k _ _ r1 w e1
          have p1 := run_part' (w := w) hT q2 (vs := vs) (off := f.offset) (by have : f.offset = off := l1; omega) q3
          have p2 := run_part' (w := w) hT q2 (vs := us) (off := f.offset) (by have : f.offset = off := l1; omega) q3
          simp only [l1] at p1 p2 l2
          simp only [Op.eqFields, hn, ne_eq, not_false_eq_true, if_true, Sem.run_bind, l1, p1, p2, ev, Result.andThen_ok, Sem.run_ite]
          cases r1 with
          | false => simp
          | true =>
            simp only [Bool.not_true, Bool.false_eq_true, if_false, Bool.true_and]
            refine ihf (off + (T f.type).zero.length) _ r2 (fun f' hf' => hnm f' (List.mem_cons_of_mem _ hf')) l3 (fun q hq' => hq q (by simp only [List.map_cons]; exact List.mem_cons_of_mem _ hq')) ?_
            rw [List.drop_drop, List.drop_drop] at e2
            exact e2
      exact go fields.toList 0 (T t).zero r (List.all_eq_true.1 h1) (by rw [hf2]; exact h3) (fun q hq => by rw [hf2] at hq; exact ⟨List.all_eq_true.1 h4 q hq, hok q hq⟩) (by simpa using he)

def eqsB (P : Program) (tab : List (Nat × TI)) : Bool := tab.all fun q => !(tabF tab q.1).eq || ((tabF tab q.1).agg && (!P.eqGuardType P.depth q.1 && eqB P (tabF tab) 6 q.1))

theorem eq_of {tab : List (Nat × TI)} (hT : TOk P (tabF tab)) (h : eqsB P tab = true) : ∀ t, (tabF tab t).eq = true → EqTy P t (tabF tab t).zero := by
  intro t ht
  have hq : ∃ q ∈ tab, q.1 = t := by
    clear hT h
    induction tab with
    | nil => cases ht
    | cons q r ih =>
      obtain ⟨k, v⟩ := q
      by_cases hk : k = t
      · exact ⟨(k, v), List.mem_cons_self .., hk⟩
      · have : tabF ((k, v) :: r) t = tabF r t := by simp [tabF, beq_ne hk]
        rw [this] at ht
        obtain ⟨q, hq, e⟩ := ih ht
        exact ⟨q, List.mem_cons_of_mem _ hq, e⟩
  obtain ⟨q, hq, rfl⟩ := hq
  have := List.all_eq_true.1 h q hq
  simp only [ht, Bool.not_true, Bool.false_or, Bool.and_eq_true, Bool.not_eq_true'] at this
  refine ⟨this.2.1, fun vs us r w he => ?_⟩
  have e := eqB_spec hT 6 q.1 this.2.2 9994 vs us r w he
  simp only [mkVal, this.1, if_true] at e
  exact e

def zsB (tab : List (Nat × TI)) : Bool := tab.all fun q => (idsLs q.2.zero).isEmpty

theorem zs_all {tab : List (Nat × TI)} (h : zsB tab = true) (e : TypeId) : idsLs (tabF tab e).zero = [] := by
  induction tab with
  | nil => rfl
  | cons q r ih =>
    obtain ⟨k, v⟩ := q
    simp only [zsB, List.all_cons, Bool.and_eq_true, List.isEmpty_iff] at h
    by_cases hk : k = e
    · have : tabF ((k, v) :: r) e = v := by simp [tabF, hk]
      rw [this]; exact h.1
    · have : tabF ((k, v) :: r) e = tabF r e := by simp [tabF, beq_ne hk]
      rw [this]; exact ih h.2

theorem zs_of {tab : List (Nat × TI)} (h : zsB tab = true) : ∀ t e, (tabF tab t).d = .slice e → idsLs (tabF tab e).zero = [] := fun _ e _ => zs_all h e

end
end Go.Sx

/-
  The steps of a walk.
-/
namespace Go.Sx

theorem loopK_inv {G : Par} {body : Code} {K : Ex → St → Prop} (I : Nat → St → Prop) {n : Nat} {st : St} (h0 : I n st)
    (h : ∀ n st, I n st → awp G body st fun ex st' => match ex with
      | .normal => ∃ m, m < n ∧ I m st'
      | .exit id => K (.exit id) st'
      | .ret => K .ret st') : loopK body (awp G body) st K := loop_inv I h0 h

theorem loopK_step {G : Par} {body : Code} {K : Ex → St → Prop} {st : St} (h : awp G body st fun ex st' => match ex with
      | .normal => loopK body (awp G body) st' K
      | .exit id => K (.exit id) st'
      | .ret => K .ret st') : loopK body (awp G body) st K := loop_step h

theorem boolK_intro {x : Bool} {A B : Prop} (h1 : x = true → A) (h2 : x = false → B) : boolK x A B := ⟨h1, h2⟩
theorem boolK_dec {p : Prop} [Decidable p] {A B : Prop} (h1 : p → A) (h2 : ¬ p → B) : boolK (decide p) A B := ⟨fun h => h1 (of_decide_eq_true h), fun h => h2 (of_decide_eq_false h)⟩
theorem boolK_beq {α : Type} [BEq α] [LawfulBEq α] {a b : α} {A B : Prop} (h1 : a = b → A) (h2 : ¬ a = b → B) : boolK (a == b) A B := ⟨fun h => h1 (eq_of_beq h), fun h => h2 (ne_of_beq_false h)⟩
theorem boolK_bne {α : Type} [BEq α] [LawfulBEq α] {a b : α} {A B : Prop} (h1 : ¬ a = b → A) (h2 : a = b → B) : boolK (a != b) A B := by
  refine ⟨fun h => h1 ?_, fun h => h2 ?_⟩
  · intro e; subst e; simp at h
  · simpa using h
theorem boolK_not {x : Bool} {A B : Prop} (h : boolK x B A) : boolK (!x) A B := by
  cases x
  · exact ⟨fun _ => h.no rfl, fun h => Bool.noConfusion h⟩
  · exact ⟨fun h => Bool.noConfusion h, fun _ => h.yes rfl⟩
theorem boolK_and {x y : Bool} {A B : Prop} (h : boolK x (boolK y A B) B) : boolK (x && y) A B := by
  cases x
  · exact ⟨fun h => Bool.noConfusion h, fun _ => h.no rfl⟩
  · simpa using h.yes rfl
theorem boolK_or {x y : Bool} {A B : Prop} (h : boolK x A (boolK y A B)) : boolK (x || y) A B := by
  cases x
  · simpa using h.no rfl
  · exact ⟨fun _ => h.yes rfl, fun h => Bool.noConfusion h⟩
theorem boolK_true {A B : Prop} (h : A) : boolK true A B := ⟨fun _ => h, fun h => Bool.noConfusion h⟩
theorem boolK_false {A B : Prop} (h : B) : boolK false A B := ⟨fun h => Bool.noConfusion h, fun _ => h⟩

theorem sideK_intro {p k : Prop} (h : p) (hk : k) : sideK p k := ⟨h, hk⟩
theorem drawK_intro {a b : Bool} {K : Prop} (h1 : a = true) (h2 : b = true) (h : K) : drawK a b K := ⟨⟨h1, h2⟩, h⟩
theorem callK_intro {F : FnT} {f : FuncId} {cs : List C} {bs : Bxs} {K : Res → Bxs → Prop} {res : Res} {bs' : Bxs} (h : F f cs bs res bs') (hk : K res bs') : callK F f cs bs K := ⟨res, bs', h, hk⟩

theorem wrap_i64 {n : Int} (h : -9223372036854775808 ≤ n ∧ n ≤ 9223372036854775807) : IntKind.i64.wrap n = n := by
  have : IntKind.i64.wrap n = if n % 18446744073709551616 ≥ 9223372036854775808 then n % 18446744073709551616 - 18446744073709551616 else n % 18446744073709551616 := by
    simp [IntKind.wrap, IntKind.bits, IntKind.signed]
  rw [this]
  split <;> omega
theorem wrap_u64 {n : Int} (h : 0 ≤ n ∧ n ≤ 18446744073709551615) : IntKind.u64.wrap n = n := by
  have : IntKind.u64.wrap n = n % 18446744073709551616 := by simp [IntKind.wrap, IntKind.bits, IntKind.signed]
  omega
theorem wrap_u32 {n : Int} (h : 0 ≤ n ∧ n ≤ 4294967295) : IntKind.u32.wrap n = n := by
  have : IntKind.u32.wrap n = n % 4294967296 := by simp [IntKind.wrap, IntKind.bits, IntKind.signed]
  omega
theorem wrap_u16 {n : Int} (h : 0 ≤ n ∧ n ≤ 65535) : IntKind.u16.wrap n = n := by
  have : IntKind.u16.wrap n = n % 65536 := by simp [IntKind.wrap, IntKind.bits, IntKind.signed]
  omega
theorem wrap_u8 {n : Int} (h : 0 ≤ n ∧ n ≤ 255) : IntKind.u8.wrap n = n := by
  have : IntKind.u8.wrap n = n % 256 := by simp [IntKind.wrap, IntKind.bits, IntKind.signed]
  omega

theorem wrapK_i64 {n : Int} {K : Int → Prop} (h : -9223372036854775808 ≤ n ∧ n ≤ 9223372036854775807) (hk : K n) : wrapK .i64 n K := ⟨by rw [wrap_i64 h]; exact hk⟩
theorem wrapK_u64 {n : Int} {K : Int → Prop} (h : 0 ≤ n ∧ n ≤ 18446744073709551615) (hk : K n) : wrapK .u64 n K := ⟨by rw [wrap_u64 h]; exact hk⟩
theorem wrapK_u32 {n : Int} {K : Int → Prop} (h : 0 ≤ n ∧ n ≤ 4294967295) (hk : K n) : wrapK .u32 n K := ⟨by rw [wrap_u32 h]; exact hk⟩
theorem wrapK_u16 {n : Int} {K : Int → Prop} (h : 0 ≤ n ∧ n ≤ 65535) (hk : K n) : wrapK .u16 n K := ⟨by rw [wrap_u16 h]; exact hk⟩
theorem wrapK_u8 {n : Int} {K : Int → Prop} (h : 0 ≤ n ∧ n ≤ 255) (hk : K n) : wrapK .u8 n K := ⟨by rw [wrap_u8 h]; exact hk⟩
/-- a byte that came out of a number -/
def byteOf (n : Int) : UInt8 := UInt8.ofNat (n % 256).toNat
theorem byteOf_toNat (n : Int) : ((byteOf n).toNat : Int) = IntKind.u8.wrap n := by
  have h1 : (byteOf n).toNat = (n % 256).toNat % 256 := by simp [byteOf]
  rw [h1]
  have h2 : IntKind.u8.wrap n = n % 256 := by simp [IntKind.wrap, IntKind.bits, IntKind.signed]
  have : (0 : Int) ≤ n % 256 := Int.emod_nonneg _ (by omega)
  have : n % 256 < 256 := Int.emod_lt_of_pos _ (by omega)
  omega
/-- a byte out of a number: it is a byte's number again -/
theorem convK_i64 {n : Int} {K : Int → Prop} (h : -9223372036854775808 ≤ n ∧ n ≤ 9223372036854775807) (hk : K n) : convK .i64 n K := ⟨by rw [wrap_i64 h]; exact hk⟩
theorem convK_u64 {n : Int} {K : Int → Prop} (h : 0 ≤ n ∧ n ≤ 18446744073709551615) (hk : K n) : convK .u64 n K := ⟨by rw [wrap_u64 h]; exact hk⟩
theorem convK_u32 {n : Int} {K : Int → Prop} (h : 0 ≤ n ∧ n ≤ 4294967295) (hk : K n) : convK .u32 n K := ⟨by rw [wrap_u32 h]; exact hk⟩
theorem convK_u16 {n : Int} {K : Int → Prop} (h : 0 ≤ n ∧ n ≤ 65535) (hk : K n) : convK .u16 n K := ⟨by rw [wrap_u16 h]; exact hk⟩
theorem convK_byte {n : Int} {K : Int → Prop} (hk : K ((byteOf n).toNat : Int)) : convK .u8 n K := ⟨by rw [← byteOf_toNat]; exact hk⟩
theorem shlK_intro {k : IntKind} {a b m : Int} {K : Int → Prop} (h : 0 ≤ b) (hm : a * 2 ^ (min b.toNat k.bits) = m) (hk : wrapK k m K) : shlK k a b K := ⟨h, by rw [hm]; exact hk.1⟩
theorem shrK_intro {k : IntKind} {a b m : Int} {K : Int → Prop} (h : 0 ≤ b) (hm : (2 : Int) ^ (min b.toNat k.bits) = m) (hk : K (a.fdiv m)) : shrK k a b K := ⟨h, by rw [hm]; exact hk⟩
theorem quoK_i64 {a b : Int} {K : Int → Prop} (h : 0 ≤ a ∧ 0 < b ∧ a ≤ 9223372036854775807) (hk : K (a / b)) : quoK .i64 a b K := by
  refine ⟨by omega, ?_⟩
  rw [Int.tdiv_eq_ediv_of_nonneg h.1, wrap_i64]
  · exact hk
  · have h1 : 0 ≤ a / b := Int.ediv_nonneg h.1 (by omega)
    have h2 : a / b ≤ a := Int.ediv_le_self b h.1
    omega
theorem quoK_u8 {a b : Int} {K : Int → Prop} (h : 0 ≤ a ∧ 0 < b ∧ a ≤ 255) (hk : K (a / b)) : quoK .u8 a b K := by
  refine ⟨by omega, ?_⟩
  rw [Int.tdiv_eq_ediv_of_nonneg h.1, wrap_u8]
  · exact hk
  · have h1 : 0 ≤ a / b := Int.ediv_nonneg h.1 (by omega)
    have h2 : a / b ≤ a := Int.ediv_le_self b h.1
    omega
theorem quoK_u16 {a b : Int} {K : Int → Prop} (h : 0 ≤ a ∧ 0 < b ∧ a ≤ 65535) (hk : K (a / b)) : quoK .u16 a b K := by
  refine ⟨by omega, ?_⟩
  rw [Int.tdiv_eq_ediv_of_nonneg h.1, wrap_u16]
  · exact hk
  · have h1 : 0 ≤ a / b := Int.ediv_nonneg h.1 (by omega)
    have h2 : a / b ≤ a := Int.ediv_le_self b h.1
    omega
theorem remK_pos {a b : Int} {K : Int → Prop} (h : 0 ≤ a ∧ 0 < b) (hk : K (a % b)) : remK a b K := by
  refine ⟨by omega, ?_⟩
  rw [Int.tmod_eq_emod_of_nonneg h.1]; exact hk
theorem natK_of {i : Int} {j : Nat} {K : Nat → Prop} (h : i = (j : Int)) (hk : K j) : natK i K := ⟨by rw [h, Int.toNat_natCast]; exact hk⟩
theorem natK_any {i : Int} {K : Nat → Prop} (hk : K i.toNat) : natK i K := ⟨hk⟩
theorem natK_lit {k : Nat} {K : Nat → Prop} (hk : K (@OfNat.ofNat Nat k (instOfNatNat k))) : natK (@OfNat.ofNat Int k (@instOfNat k)) K := ⟨hk⟩
theorem wrapK_byte {n : Int} {K : Int → Prop} (hk : K ((byteOf n).toNat : Int)) : wrapK .u8 n K := ⟨by rw [← byteOf_toNat]; exact hk⟩

theorem bytesK_map {l : List UInt8} {K : List UInt8 → Prop} (h : K l) : bytesK (l.map u8) K := ⟨l, rfl, h⟩
theorem byte_lt (x : UInt8) : x.toNat < 256 := UInt8.toNat_lt x

/-- a byte of a slice of bytes -/
theorem headI_u8 {l : List UInt8} {j : Nat} {K : Int → List L → Prop} (h : j < l.length) (hk : (l.getD j 0).toNat < 256 → K ((l.getD j 0).toNat : Int) ((l.drop (j + 1)).map u8)) : headI .u8 ((l.map u8).drop (j * 1)) K := by
  refine ⟨_, _, ?_, hk (byte_lt _)⟩
  rw [Nat.mul_one, ← List.map_drop, List.drop_eq_getElem_cons h, List.map_cons]
  simp [u8, List.getD_eq_getElem?_getD, h]
theorem headI_cons {k : IntKind} {n : Int} {r : List L} {K : Int → List L → Prop} (hk : K n r) : headI k (.i k n :: r) K := ⟨n, r, rfl, hk⟩
theorem headB_cons {n : Bool} {r : List L} {K : Bool → List L → Prop} (hk : K n r) : headB (.b n :: r) K := ⟨n, r, rfl, hk⟩
theorem headS_cons {n : List UInt8} {r : List L} {K : List UInt8 → List L → Prop} (hk : K n r) : headS (.s n :: r) K := ⟨n, r, rfl, hk⟩
theorem headV_cons {x : List L} {n : Nat} {r : List L} {K : List L → Nat → List L → Prop} (hk : K x n r) : headV (.sl x n :: r) K := ⟨x, n, r, rfl, hk⟩
theorem headX_cons {x : L} {r : List L} {K : L → List L → Prop} (hk : K x r) : headX (x :: r) K := ⟨x, r, rfl, hk⟩

theorem u8_of {n : Int} (h : 0 ≤ n ∧ n ≤ 255) : L.i .u8 n = u8 (byteOf n) := by
  unfold u8
  rw [byteOf_toNat, wrap_u8 h]

theorem catK_nil {b : List L} {K : List L → Prop} (hk : K b) : catK [] b K := ⟨hk⟩
theorem catK_nil' {a : List L} {K : List L → Prop} (hk : K a) : catK a [] K := ⟨by rw [List.append_nil]; exact hk⟩
theorem catK_u8 {a b : List UInt8} {K : List L → Prop} (hk : K ((a ++ b).map u8)) : catK (a.map u8) (b.map u8) K := ⟨by rw [← List.map_append]; exact hk⟩
theorem catK_one {a : List UInt8} {x : UInt8} {K : List L → Prop} (hk : K ((a ++ [x]).map u8)) : catK (a.map u8) [.i .u8 (x.toNat : Int)] K := ⟨by rw [List.map_append] at hk; exact hk⟩
theorem catK_lit {a : List UInt8} {n : Int} {K : List L → Prop} (h : 0 ≤ n ∧ n ≤ 255) (hk : K ((a ++ [byteOf n]).map u8)) : catK (a.map u8) [.i .u8 n] K := ⟨by rw [List.map_append] at hk; rw [u8_of h]; exact hk⟩
theorem catK_of {a b c : List L} {K : List L → Prop} (h : a ++ b = c) (hk : K c) : catK a b K := ⟨by rw [h]; exact hk⟩
theorem catK_any {a b : List L} {K : List L → Prop} (hk : K (a ++ b)) : catK a b K := ⟨hk⟩
theorem takeC_u8 {a : List UInt8} {n : Nat} {K : List L → Prop} (hk : K ((a.take n).map u8)) : takeC (a.map u8) (n * 1) K := ⟨by rw [Nat.mul_one, ← List.map_take]; exact hk⟩
theorem dropC_u8 {a : List UInt8} {n : Nat} {K : List L → Prop} (hk : K ((a.drop n).map u8)) : dropC (a.map u8) (n * 1) K := ⟨by rw [Nat.mul_one, ← List.map_drop]; exact hk⟩
theorem dropC_zero {a : List L} {K : List L → Prop} (hk : K a) : dropC a 0 K := ⟨hk⟩
theorem takeC_of {a c : List L} {n : Nat} {K : List L → Prop} (h : a.take n = c) (hk : K c) : takeC a n K := ⟨by rw [h]; exact hk⟩
theorem dropC_of {a c : List L} {n : Nat} {K : List L → Prop} (h : a.drop n = c) (hk : K c) : dropC a n K := ⟨by rw [h]; exact hk⟩
theorem takeC_any {a : List L} {n : Nat} {K : List L → Prop} (hk : K (a.take n)) : takeC a n K := ⟨hk⟩
theorem dropC_any {a : List L} {n : Nat} {K : List L → Prop} (hk : K (a.drop n)) : dropC a n K := ⟨hk⟩
/-- a number of a slice of numbers -/
theorem headI_ints {k : IntKind} {l : List Int} {j : Nat} {K : Int → List L → Prop} (h : j < l.length) (hk : K (l.getD j 0) ((l.drop (j + 1)).map (.i k))) : headI k ((l.map (L.i k)).drop (j * 1)) K := by
  refine ⟨_, _, ?_, hk⟩
  rw [Nat.mul_one, ← List.map_drop, List.drop_eq_getElem_cons h, List.map_cons]
  simp [List.getD_eq_getElem?_getD, h]

theorem getD_mem {α : Type} {l : List α} {j : Nat} {d : α} (h : j < l.length) : l.getD j d ∈ l := by
  rw [List.getD_eq_getElem?_getD, List.getElem?_eq_getElem h]; exact List.getElem_mem h
theorem mem_getD {α : Type} {l : List α} {x : α} (d : α) (h : x ∈ l) : ∃ j, j < l.length ∧ l.getD j d = x := by
  obtain ⟨j, hj, rfl⟩ := List.getElem_of_mem h
  exact ⟨j, hj, by rw [List.getD_eq_getElem?_getD, List.getElem?_eq_getElem hj]; rfl⟩

theorem packK_any {cs : List L} {K : List L → Prop} (hk : K cs) : packK cs K := ⟨hk⟩
theorem packK_u8 {b : List UInt8} {K : List L → Prop} (hk : K (b.map u8)) : packK (b.map u8) K := ⟨hk⟩
theorem packK_0 {K : List L → Prop} (hk : K (([] : List UInt8).map u8)) : packK [] K := ⟨hk⟩
theorem packK_1 {n1 : Int} {K : List L → Prop} (h1 : 0 ≤ n1 ∧ n1 ≤ 255) (hk : K ([byteOf n1].map u8)) : packK [.i .u8 n1] K := ⟨by rw [u8_of h1]; exact hk⟩
theorem packK_2 {n1 n2 : Int} {K : List L → Prop} (h1 : 0 ≤ n1 ∧ n1 ≤ 255) (h2 : 0 ≤ n2 ∧ n2 ≤ 255) (hk : K ([byteOf n1, byteOf n2].map u8)) : packK [.i .u8 n1, .i .u8 n2] K := ⟨by rw [u8_of h1, u8_of h2]; exact hk⟩
theorem packK_3 {n1 n2 n3 : Int} {K : List L → Prop} (h1 : 0 ≤ n1 ∧ n1 ≤ 255) (h2 : 0 ≤ n2 ∧ n2 ≤ 255) (h3 : 0 ≤ n3 ∧ n3 ≤ 255) (hk : K ([byteOf n1, byteOf n2, byteOf n3].map u8)) : packK [.i .u8 n1, .i .u8 n2, .i .u8 n3] K := ⟨by rw [u8_of h1, u8_of h2, u8_of h3]; exact hk⟩
theorem packK_4 {n1 n2 n3 n4 : Int} {K : List L → Prop} (h1 : 0 ≤ n1 ∧ n1 ≤ 255) (h2 : 0 ≤ n2 ∧ n2 ≤ 255) (h3 : 0 ≤ n3 ∧ n3 ≤ 255) (h4 : 0 ≤ n4 ∧ n4 ≤ 255) (hk : K ([byteOf n1, byteOf n2, byteOf n3, byteOf n4].map u8)) : packK [.i .u8 n1, .i .u8 n2, .i .u8 n3, .i .u8 n4] K := ⟨by rw [u8_of h1, u8_of h2, u8_of h3, u8_of h4]; exact hk⟩
theorem catK_ints {k : IntKind} {a b : List Int} {K : List L → Prop} (hk : K ((a ++ b).map (.i k))) : catK (a.map (.i k)) (b.map (.i k)) K := ⟨by rw [← List.map_append]; exact hk⟩
theorem catK_int1 {k : IntKind} {a : List Int} {n : Int} {K : List L → Prop} (hk : K ((a ++ [n]).map (.i k))) : catK (a.map (.i k)) [.i k n] K := ⟨by rw [List.map_append] at hk; exact hk⟩
@[simp] theorem leafOf_int (k : IntKind) (n : Int) : leafOf (.int k n) = .i k n := rfl
@[simp] theorem leafOf_tt : leafOf (.bool true) = .tt := rfl
@[simp] theorem leafOf_ff : leafOf (.bool false) = .ff := rfl
@[simp] theorem leafOf_str (s : ByteArray) : leafOf (.string s) = .s s.data.toList := by obtain ⟨⟨l⟩⟩ := s; rfl
@[simp] theorem leafOf_nl : leafOf (.slice none 0 0) = .nl := rfl

theorem nilK_no {n : Nat} {K : Bool → Prop} (h : n ≠ 0) (hk : K false) : nilK n K := ⟨h, hk⟩

theorem eitherK_l {A B : Prop} (h : A) : eitherK A B := .l h
theorem eitherK_r {A B : Prop} (h : B) : eitherK A B := .r h
theorem nlK_nl {K : L → Prop} (h : K .nl) : nlK K := .nl h
theorem nlK_sl {K : L → Prop} (h : K (.sl [] 0)) : nlK K := .sl h

theorem shrK_8 {k : IntKind} {a b : Int} {K : Int → Prop} (j : Nat) (h : b = 8 * (j : Int)) (hk : k.bits = 64) (hj : j < 8) (hc : K (a.fdiv (256 ^ j))) : shrK k a b K := by
  refine shrK_intro (by omega) ?_ hc
  rw [hk, show min b.toNat 64 = 8 * j by omega, Int.pow_mul]
  rfl
theorem shlK_8 {a b : Int} {K : Int → Prop} (h : b = 8) (hr : 0 ≤ a ∧ a ≤ 36028797018963967) (hc : K (a * 256)) : shlK .i64 a b K := by
  subst h
  exact shlK_intro (m := a * 256) (by omega) rfl (wrapK_i64 (by omega) hc)
theorem bitN_or {k : IntKind} (hk : k.bits = 64) {a x : Int} (ha : 0 ≤ a ∧ a ≤ 36028797018963967) (hx : 0 ≤ x ∧ x ≤ 255) : bitN .or k (a * 256) x = a * 256 + x := by
  obtain ⟨n, rfl⟩ := Int.eq_ofNat_of_zero_le ha.1
  obtain ⟨y, rfl⟩ := Int.eq_ofNat_of_zero_le hx.1
  unfold bitN
  have h1 : ((n : Int) * 256) = ((n * 256 : Nat) : Int) := by omega
  rw [h1, BitVec.ofInt_natCast, BitVec.ofInt_natCast, BitVec.toNat_or, BitVec.toNat_ofNat, BitVec.toNat_ofNat, Nat.mod_eq_of_lt (by rw [hk]; omega), Nat.mod_eq_of_lt (by rw [hk]; omega)]
  have h2 : n * 256 ||| y = n * 256 + y := by
    have := Nat.two_pow_add_eq_or_of_lt (i := 8) (b := y) (by omega) n
    rw [Nat.mul_comm] at this
    exact this.symm
  rw [h2]
  show ((n * 256 + y : Nat) : Int) = _
  omega
theorem bitK_or8 {a x : Int} {K : Int → Prop} (ha : 0 ≤ a ∧ a ≤ 36028797018963967) (hx : 0 ≤ x ∧ x ≤ 255) (hc : K (a * 256 + x)) : bitK .or .i64 (a * 256) x K := ⟨by rw [bitN_or rfl ha hx, wrap_i64 (by omega)]; exact hc⟩
/-- the byte of a number at a place -/
def digit (n : Int) (i : Nat) : UInt8 := byteOf (n.fdiv (256 ^ i))
/-- some bytes of a number -/
def numS (little : Bool) (size : Nat) (n : Int) : List UInt8 := if little then (List.range size).map (digit n) else ((List.range size).map (digit n)).reverse
@[simp] theorem numS_len (little : Bool) (size : Nat) (n : Int) : (numS little size n).length = size := by unfold numS; split <;> simp

end Go.Sx

/-
  From what a row tells of the arguments to a contract's values.
-/
namespace Go.Sx
open Go.RowKit

/-- leaves of a type -/
inductive Typ (T : TypeId → TI) : TypeId → List L → Prop where
  | int {t k n} (h : (T t).d = .int k) (hr : (Lit.int k n).wf = true) : Typ T t [.i k n]
  | bool {t x} (h : (T t).d = .bool) : Typ T t [.b x]
  | str {t x} (h : (T t).d = .str) (hb : x.length ≤ 9223372036854775807) : Typ T t [.s x]
  | slice {t e} {rows : List (List L)} (h : (T t).d = .slice e) (hr : ∀ r ∈ rows, Typ T e r) (hb : rows.length ≤ 9223372036854775807) : Typ T t [.sl rows.flatten rows.length]
  | struct {t fs} {parts : List (List L)} (h : (T t).d = .struct fs) (hl : parts.length = fs.length) (hp : ∀ (j : Nat) q r, fs[j]? = some q → parts[j]? = some r → Typ T q.2 r) : Typ T t parts.flatten

def layN (T : TypeId → TI) : List (Nat × TypeId) → Nat → Nat → Bool
  | [], off, n => Nat.beq off n
  | q :: r, off, n => Nat.beq q.1 off && layN T r (off + (T q.2).size) n

def typB (T : TypeId → TI) : Nat → TypeId → Bool
  | 0, _ => false
  | d + 1, t => match (T t).d with
    | .int _ => true
    | .bool => true
    | .str => true
    | .slice e => typB T d e && Nat.blt 0 (T e).size
    | .struct fs => layN T fs 0 (T t).size && fs.all fun q => typB T d q.2
    | _ => false

section
variable {P : Program} [Gl P] {T : TypeId → TI} {w : World} {H : Type} {enc : TypeId × Value → H}

theorem cellsOf_eq (hT : TOk P T) {t : TypeId} (h : isOther (T t).d = false) : P.cellsOf t = (T t).size := by
  obtain ⟨i, h1, h2, _⟩ := (hT t h).info
  simp [Program.cellsOf, h1, h2]

theorem typB_ok {d : Nat} {t : TypeId} (h : typB T d t = true) : isOther (T t).d = false := by
  cases d with
  | zero => cases h
  | succ d =>
    unfold typB at h
    cases hd : (T t).d <;> first | rfl | (rw [hd] at h; cases h)

theorem mapM_some {α β : Type} {f : α → Option β} : ∀ {l : List α} {r : List β}, l.mapM f = some r → l.length = r.length ∧ ∀ (j : Nat) a b, l[j]? = some a → r[j]? = some b → f a = some b
  | [], r, h => by simp at h; subst h; simp
  | a :: l, r, h => by
    rw [List.mapM_cons] at h
    simp only [bind, Option.bind_eq_some_iff, pure, Option.some.injEq] at h
    obtain ⟨b, h1, r', h2, rfl⟩ := h
    obtain ⟨k1, k2⟩ := mapM_some h2
    refine ⟨by simp [k1], fun j x y hx hy => ?_⟩
    cases j with
    | zero => simp at hx hy; subst hx; subst hy; exact h1
    | succ j => exact k2 j x y (by simpa using hx) (by simpa using hy)

theorem rels_append {B : Nat → Prop} {μ : Mu} {a b : List L} {u v : List Value} (h : Rels B w μ a u) (k : Rels B w μ b v) : Rels B w μ (a ++ b) (u ++ v) := by
  refine ⟨by simp [h.1, k.1], fun j l x h1 h2 => ?_⟩
  by_cases hj : j < a.length
  · rw [List.getElem?_append_left hj] at h1
    rw [List.getElem?_append_left (by rw [← h.1]; exact hj)] at h2
    exact h.2 j l x h1 h2
  · rw [List.getElem?_append_right (by omega)] at h1
    rw [List.getElem?_append_right (by rw [← h.1]; omega)] at h2
    rw [← h.1] at h2
    exact k.2 _ l x h1 h2

theorem Typ.leaf {t : TypeId} {ls : List L} (h : Typ T t ls) : ∀ {B : Nat → Prop} {μ : Mu} {l : L} {v : Value}, l ∈ ls → RelL B w μ l v → v.oneCell' = true := by
  induction h with
  | int h hr => intro B μ l v hl hr; simp at hl; subst hl; cases hr; rfl
  | bool h => intro B μ l v hl hr; simp at hl; subst hl; cases hr; rfl
  | str h _ => intro B μ l v hl hr; simp at hl; subst hl; cases hr; rfl
  | @slice t e rows h hr hb ih =>
    intro B μ l v hl hr
    simp only [List.mem_singleton] at hl
    subst hl
    generalize rows.flatten = cs at hr
    generalize rows.length = n at hr
    cases hr <;> rfl
  | @struct t fs parts h hl hp ih =>
    intro B μ l v hm hr
    obtain ⟨r, hr1, hr2⟩ := List.mem_flatten.1 hm
    obtain ⟨j, hj⟩ := List.getElem?_of_mem hr1
    have hjl : j < fs.length := by rw [← hl]; exact (List.getElem?_eq_some_iff.1 hj).1
    exact ih j _ r (List.getElem?_eq_getElem hjl) hj hr2 hr

theorem add_at {w : World} {a : Addr} {j : Nat} {v : Value} (h : w.cell? (a.add j) = some v) : w.cell? ⟨a.block, a.off + j, none⟩ = some v := by
  unfold Addr.add at h
  split at h
  · rename_i hj
    subst hj
    have : a.spot = none := by
      unfold World.cell? at h
      split at h
      · split at h
        · cases h
        · rename_i h2; simpa using h2
      · cases h
    obtain ⟨b, o, sp⟩ := a
    simp only at this
    subst this
    exact h
  · exact h

theorem add_add (a : Addr) (i j : Nat) (w : World) (v : Value) (h : w.cell? ((a.add i).add j) = some v) : w.cell? ⟨a.block, a.off + (i + j), none⟩ = some v := by
  have := add_at h
  unfold Addr.add at this
  split at this
  · rename_i hi; subst hi; simpa using this
  · simpa [Nat.add_assoc] using this

theorem cells_rows {w : World} {a : Addr} {k : Nat} (rows : List (List Value)) : ∀ (i0 : Nat), (∀ (i : Nat) r, rows[i]? = some r → w.cells? 0 (a.add ((i0 + i) * k)) k = some r) →
    ∀ (j : Nat) v, rows.flatten[j]? = some v → w.cell? ⟨a.block, a.off + (i0 * k + j), none⟩ = some v := by
  induction rows with
  | nil => intro i0 _ j v h; simp at h
  | cons r rows ih =>
    intro i0 hr j v h
    have h0 := hr 0 r rfl
    simp only [World.cells?, Nat.zero_le, if_true, Nat.add_zero] at h0
    obtain ⟨k1, k2⟩ := mapM_some h0
    simp only [List.length_range] at k1
    rw [List.flatten_cons] at h
    by_cases hj : j < r.length
    · rw [List.getElem?_append_left hj] at h
      have := k2 j j v (by rw [List.getElem?_range (by omega)]) h
      exact add_add a (i0 * k) j w v this
    · rw [List.getElem?_append_right (by omega)] at h
      have := ih (i0 + 1) (fun i r' hi => by
        have := hr (i + 1) r' (by simpa using hi)
        rwa [show i0 + (i + 1) = i0 + 1 + i by omega] at this) (j - r.length) v h
      rw [show i0 * k + j = (i0 + 1) * k + (j - r.length) by rw [Nat.succ_mul]; omega]
      exact this

theorem typ_of_trod (hT : TOk P T) : ∀ (d fuel : Nat) (t : TypeId) (cs : List Value) (x : DataW H × List MemPlace), typB T d t = true → DataW.trod enc P w 0 (fun _ => true) true fuel t cs = some x →
    ∃ ls, Rels (fun _ => False) w noMu ls cs ∧ Typ T t ls := by
  intro d
  induction d with
  | zero => intro fuel t cs x h; cases h
  | succ d ih =>
    intro fuel t cs x htb h
    cases fuel with
    | zero => simp [DataW.trod] at h
    | succ fuel =>
      have ho := typB_ok htb
      have hty := hT t ho
      have hu := hty.und
      have one : ∀ (l : L) (v : Value), RelL (fun _ => False) w noMu l v → Rels (fun _ => False) w noMu [l] [v] := fun l v hl => ⟨rfl, fun j a b h1 h2 => by
        cases j with
        | zero => simp at h1 h2; subst h1; subst h2; exact hl
        | succ j => simp at h1⟩
      unfold typB at htb
      cases hd : (T t).d <;> rw [hd] at htb hu <;> simp only [Bool.false_eq_true] at htb
      case int k =>
        have hu : P.underlying t = some (.int k) := hu
        unfold DataW.trod at h
        rw [hu] at h
        match cs, h with
        | [.int k' n], h =>
          simp only at h
          split at h
          · rename_i hk
            obtain ⟨rfl, hw⟩ := hk
            exact ⟨[.i k' n], one _ _ .i, .int hd hw⟩
          · cases h
      case bool =>
        have hu : P.underlying t = some .bool := hu
        unfold DataW.trod at h
        rw [hu] at h
        match cs, h with
        | [.bool b], h => exact ⟨[.b b], one _ _ .b, .bool hd⟩
      case str =>
        have hu : P.underlying t = some .string := hu
        unfold DataW.trod at h
        rw [hu] at h
        match cs, h with
        | [.string s], h =>
          simp only at h
          split at h
          · rename_i hb
            obtain ⟨⟨l⟩⟩ := s
            exact ⟨[.s l], one _ _ .s, .str hd (Nat.le_trans (show l.length ≤ maxLen from hb) (by decide))⟩
          · cases h
      case slice e =>
        simp only [Bool.and_eq_true] at htb
        obtain ⟨hte, hpos⟩ := htb
        have hpos : 0 < (T e).size := by have : 0 + 1 ≤ (T e).size := Nat.le_of_ble_eq_true hpos; omega
        have hce := cellsOf_eq hT (typB_ok hte)
        unfold DataW.trod at h
        rw [hu.1] at h
        match cs, h with
        | [.slice none 0 0], h => exact ⟨[.sl [] 0], one _ _ .sl0, .slice (rows := []) hd (by simp) (by simp)⟩
        | [.slice (some a) len cap], h =>
          simp only at h
          split at h
          · rename_i hc
            simp only [Option.bind_eq_some_iff] at h
            obtain ⟨elems, h1, h2⟩ := h
            obtain ⟨k1, k2⟩ := mapM_some h1
            simp only [List.length_range] at k1
            -- the rows
            have hrow : ∀ i, i < len → ∃ vs ls, w.cells? 0 (a.add (i * (T e).size)) (T e).size = some vs ∧ Rels (fun _ => False) w noMu ls vs ∧ Typ T e ls := by
              intro i hi
              have h3 := k2 i i (elems[i]'(by omega)) (by simp [List.getElem?_range, hi]) (List.getElem?_eq_getElem _)
              simp only [Option.bind_eq_some_iff] at h3
              obtain ⟨vs, h4, h5⟩ := h3
              obtain ⟨ls, h6, h7⟩ := ih fuel e vs _ hte h5
              rw [hce] at h4
              exact ⟨vs, ls, h4, h6, h7⟩
            have hrows : ∀ n, n ≤ len → ∃ (vss : List (List Value)) (lss : List (List L)), vss.length = n ∧ lss.length = n ∧ (∀ (i : Nat) r, vss[i]? = some r → w.cells? 0 (a.add ((0 + i) * (T e).size)) (T e).size = some r) ∧ Rels (fun _ => False) w noMu lss.flatten vss.flatten ∧ ∀ r ∈ lss, Typ T e r := by
              intro n
              induction n with
              | zero => intro _; exact ⟨[], [], rfl, rfl, by simp, ⟨rfl, by simp⟩, by simp⟩
              | succ n ihn =>
                intro hn
                obtain ⟨vss, lss, g1, g2, g3, g4, g5⟩ := ihn (by omega)
                obtain ⟨vs, ls, f1, f2, f3⟩ := hrow n (by omega)
                refine ⟨vss ++ [vs], lss ++ [ls], by simp [g1], by simp [g2], fun i r hi => ?_, ?_, fun r hr => ?_⟩
                · by_cases hin : i < vss.length
                  · rw [List.getElem?_append_left hin] at hi; exact g3 i r hi
                  · rw [List.getElem?_append_right (by omega)] at hi
                    have : i - vss.length = 0 := by
                      rcases Nat.eq_zero_or_pos (i - vss.length) with h | h
                      · exact h
                      · rw [List.getElem?_eq_none (by simp; omega)] at hi; cases hi
                    rw [this] at hi
                    simp at hi
                    subst hi
                    have : i = n := by omega
                    rw [this, Nat.zero_add]; exact f1
                · simp only [List.flatten_append, List.flatten_cons, List.flatten_nil, List.append_nil]
                  exact rels_append g4 f2
                · rcases List.mem_append.1 hr with hr | hr
                  · exact g5 r hr
                  · simp at hr; subst hr; exact f3
            obtain ⟨vss, lss, g1, g2, g3, g4, g5⟩ := hrows len (Nat.le_refl _)
            have hcells : Cells w a.block a.off vss.flatten := by
              intro j v hj
              refine ⟨?_, ?_⟩
              · have := cells_rows vss 0 g3 j v hj
                simpa using this
              · have hmem : ∀ (lss : List (List L)) (vss : List (List Value)), True := fun _ _ => trivial
                -- each cell is one of a typed row
                obtain ⟨l, hl⟩ : ∃ l, lss.flatten[j]? = some l := ⟨lss.flatten[j]'(by rw [g4.1]; exact (List.getElem?_eq_some_iff.1 hj).1), List.getElem?_eq_getElem _⟩
                have hrel := g4.2 j l v hl hj
                have hlm : l ∈ lss.flatten := List.mem_of_getElem? hl
                obtain ⟨r, hr, hlr⟩ := List.mem_flatten.1 hlm
                exact (g5 r hr).leaf hlr hrel
            refine ⟨[.sl lss.flatten len], one _ _ ?_, ?_⟩
            · by_cases hz : a.spot = none
              · obtain ⟨b, o, sp⟩ := a
                simp only at hz
                subst hz
                exact .sl (fun _ h => h) g4.1 hcells (fun j l v h1 h2 => g4.2 j l v h1 h2) hc.2.1
              · have hl0 : len = 0 := by
                  rcases Nat.eq_zero_or_pos len with h | h
                  · exact h
                  · exfalso
                    obtain ⟨vs, ls, f1, f2, f3⟩ := hrow 0 h
                    simp only [World.cells?, Nat.zero_le, if_true, Nat.zero_mul] at f1
                    obtain ⟨m1, m2⟩ := mapM_some f1
                    simp only [List.length_range] at m1
                    have := m2 0 0 (vs[0]'(by omega)) (by simp [List.getElem?_range, hpos]) (List.getElem?_eq_getElem _)
                    simp only [Addr.add, if_true] at this
                    unfold World.cell? at this
                    split at this
                    · split at this
                      · cases this
                      · rename_i h2; exact hz (by simpa using h2)
                    · cases this
                subst hl0
                have : lss = [] := List.eq_nil_of_length_eq_zero g2
                subst this
                exact .sl0
            · have hmx : len ≤ 9223372036854775807 := Nat.le_trans hc.2.1 (Nat.le_trans hc.2.2 (by decide))
              have := Typ.slice (rows := lss) hd g5 (by rw [g2]; exact hmx)
              rwa [g2] at this
          · cases h
      case struct fs =>
        simp only [Bool.and_eq_true] at htb
        obtain ⟨hlay, hall⟩ := htb
        obtain ⟨⟨fields, hf1, hf2⟩, hok⟩ := hu
        have hct := cellsOf_eq hT ho
        unfold DataW.trod at h
        rw [hf1] at h
        simp only at h
        split at h
        · rename_i hlen
          simp only [Option.map_eq_some_iff] at h
          obtain ⟨xs, h1, _⟩ := h
          obtain ⟨k1, k2⟩ := mapM_some h1
          -- part by part
          have go : ∀ (fl : List Field) (off : Nat), (∀ f ∈ fl, typB T d f.type = true) → layN T (fl.map fun f => (f.offset, f.type)) off (T t).size = true →
              (∀ f ∈ fl, ∃ x, DataW.trod enc P w 0 (fun _ => true) true fuel f.type ((cs.drop f.offset).take (P.cellsOf f.type)) = some x) → off ≤ (T t).size →
              ∃ parts : List (List L), parts.length = fl.length ∧ Rels (fun _ => False) w noMu parts.flatten (cs.drop off) ∧ ∀ (j : Nat) f r, fl[j]? = some f → parts[j]? = some r → Typ T f.type r := by
            intro fl
            induction fl with
            | nil =>
              intro off _ hl _ hoff
              have : off = (T t).size := Nat.eq_of_beq_eq_true hl
              refine ⟨[], rfl, ⟨?_, by simp⟩, by simp⟩
              simp only [List.flatten_nil, List.length_nil, List.length_drop, hlen, hct]
              omega
            | cons f fl ihf =>
              intro off htf hl hx hoff
              simp only [List.map_cons, layN, Bool.and_eq_true] at hl
              obtain ⟨l1, l2⟩ := hl
              have l1 : f.offset = off := Nat.eq_of_beq_eq_true l1
              obtain ⟨x, hx0⟩ := hx f (by simp)
              have hcf := cellsOf_eq hT (typB_ok (htf f (by simp)))
              rw [l1, hcf] at hx0
              obtain ⟨ls, e1, e2⟩ := ih fuel f.type _ _ (htf f (by simp)) hx0
              have hle : ∀ (fs : List (Nat × TypeId)) (o : Nat), layN T fs o (T t).size = true → o ≤ (T t).size := by
                intro fs
                induction fs with
                | nil => intro o h; have : o = (T t).size := Nat.eq_of_beq_eq_true h; omega
                | cons q r ihq => intro o h; simp only [layN, Bool.and_eq_true] at h; have := ihq _ h.2; omega
              have hle2 := hle _ _ l2
              obtain ⟨parts, p1, p2, p3⟩ := ihf (off + (T f.type).size) (fun f' hf' => htf f' (List.mem_cons_of_mem _ hf')) l2 (fun f' hf' => hx f' (List.mem_cons_of_mem _ hf')) hle2
              refine ⟨ls :: parts, by simp [p1], ?_, fun j f' r h2 h3 => ?_⟩
              · rw [List.flatten_cons]
                have : cs.drop off = (cs.drop off).take (T f.type).size ++ cs.drop (off + (T f.type).size) := by
                  rw [← List.drop_drop, List.take_append_drop]
                rw [this]
                exact rels_append e1 p2
              · cases j with
                | zero => simp at h2 h3; subst h2; subst h3; exact e2
                | succ j => exact p3 j f' r (by simpa using h2) (by simpa using h3)
          have hx : ∀ f ∈ fields.toList, ∃ x, DataW.trod enc P w 0 (fun _ => true) true fuel f.type ((cs.drop f.offset).take (P.cellsOf f.type)) = some x := by
            intro f hf
            obtain ⟨j, hj⟩ := List.getElem?_of_mem hf
            have hjl : j < xs.length := by rw [← k1]; exact (List.getElem?_eq_some_iff.1 hj).1
            exact ⟨_, k2 j f _ hj (List.getElem?_eq_getElem hjl)⟩
          obtain ⟨parts, p1, p2, p3⟩ := go fields.toList 0 (fun f hf => by
            have := List.all_eq_true.1 hall (f.offset, f.type) (by rw [← hf2]; exact List.mem_map.2 ⟨f, hf, rfl⟩)
            exact this) (by rw [hf2]; exact hlay) hx (Nat.zero_le _)
          refine ⟨parts.flatten, by simpa using p2, .struct hd (by rw [p1, ← hf2]; simp) fun j q r h2 h3 => ?_⟩
          rw [← hf2] at h2
          simp only [List.getElem?_map, Option.map_eq_some_iff] at h2
          obtain ⟨f, hf, rfl⟩ := h2
          exact p3 j f r hf h3
        · cases h

end
end Go.Sx

namespace Go.Sx
open Go.RowKit

def argC (agg : Bool) (ls : List L) : C :=
  match agg with
  | true => .a ls
  | false => .o (ls.headD .u)

theorem calls_of_fn {P : Program} [Gl P] {f : FuncId} {fn : Func} {c : Code} (hf : P.funcs[f]? = some fn) (hb : fn.body = some c) (hnm : (fn.name == "runtime.NumGoroutine") = false)
    {cs : List C} (h : Fn P f cs [] (.one (.c (.o (.b true)))) []) {w : World} {vs : List Value} (hr : RelCs (fun _ => False) w noMu cs vs) (hg : ∀ b, Gl.S P b → ∃ o, w.heap[b]? = some o ∧ Gl.ok P b o := by exact fun _ h => h.elim) :
    Calls P f ⟨vs⟩ w fun e w' => e = .returned (.bool true) ∧ Below w.heap.size w w' := by
  have hsb : SB (P := P) ⟨w.heap.size, fun _ => False, fun _ h => h.elim⟩ (boxOf []) noMu (fun _ => False) w :=
    ⟨fun id bx h => by simp [boxOf] at h, fun id id' bx bx' b o n o' n' h => by simp [boxOf] at h, fun id bx b o n h => by simp [boxOf] at h, fun b h => h, Nat.le_refl _, fun b h => h.elim, fun b hb => ⟨id, hg b hb⟩⟩
  have hc := h w (fun _ => False) (fun _ h => h.elim) noMu vs hsb (fun id h => absurd rfl h) hr
  have hne : fn.name ≠ "runtime.NumGoroutine" := by simpa using hnm
  have hcall : (callFunc f ⟨vs⟩).run P w = .ok (.enter f ⟨vs⟩) w := by simp [callFunc, hf, hne, hb]
  unfold CallsV at hc
  rw [hcall] at hc
  refine Calls.mono hc ?_
  rintro e w' ⟨v, rfl, us, μ', B', hv, hp⟩
  have hus : us = [v] := hv
  subst hus
  have hrel := hp.rel 0 _ v rfl rfl
  have hrel : RelL B' w' noMu (.b true) v := hrel
  cases hrel
  exact ⟨rfl, hp.fm.os, hp.fm.tape, hp.fm.output, hp.gr.size, fun k hk => hp.fm.wr k hk (by rintro ⟨id, bx, o, n, h1, _⟩; simp [boxOf] at h1)⟩

theorem rel_arg {P : Program} [Gl P] {T : TypeId → TI} {w : World} {H : Type} {enc : TypeId × Value → H} (hT : TOk P T) {n base : Nat} {t : TypeId} {v : Value} {d : DataW H} {p : List MemPlace} (htb : typB T n t = true)
    (h : DataW.Trod enc P w 0 (fun _ => true) true t v d p) (hok : Value.okWide P w .any base t v) : ∃ ls, Typ T t ls ∧ RelC (fun _ => False) w noMu (argC (T t).agg ls) v := by
  obtain ⟨fuel, h⟩ := h
  obtain ⟨ls, hr, ht⟩ := typ_of_trod hT n fuel t _ _ htb h
  have ho := typB_ok htb
  have hag := (hT t ho).agg
  have hu := (hT t ho).und
  refine ⟨ls, ht, ?_⟩
  -- a value of one cell
  have cell : ∀ (l : L), ls = [l] → (T t).agg = false → (∀ cs, v ≠ .agg cs) → RelC (fun _ => False) w noMu (argC (T t).agg ls) v := by
    intro l hl ha hv
    subst hl
    rw [ha]
    have hc : v.cells.toList = [v] := by
      cases v <;> first | rfl | exact absurd rfl (hv _)
    rw [hc] at hr
    exact hr.2 0 l v rfl rfl
  cases ht with
  | int hd _ =>
    rw [hd] at hag hu
    have hu : P.underlying t = some (.int _) := hu
    exact cell _ rfl hag fun cs hv => by subst hv; simp [Value.okWide, hu, Cell.okWide, Cell.ok] at hok
  | bool hd =>
    rw [hd] at hag hu
    have hu : P.underlying t = some .bool := hu
    exact cell _ rfl hag fun cs hv => by subst hv; simp [Value.okWide, hu, Cell.okWide, Cell.ok] at hok
  | str hd _ =>
    rw [hd] at hag hu
    have hu : P.underlying t = some .string := hu
    exact cell _ rfl hag fun cs hv => by subst hv; simp [Value.okWide, hu, Cell.okWide, Cell.ok] at hok
  | slice hd _ _ =>
    rw [hd] at hag hu
    have hu := hu.1
    exact cell _ rfl hag fun cs hv => by subst hv; simp [Value.okWide, hu, Cell.okWide, Cell.ok] at hok
  | struct hd _ _ =>
    rw [hd] at hag hu
    obtain ⟨⟨fields, hf1, _⟩, _⟩ := hu
    rw [hag]
    simp only [Value.okWide, hf1] at hok
    obtain ⟨cs, rfl, _⟩ := hok
    exact ⟨cs.toList, rfl, hr⟩

theorem relCs_nil {B : Nat → Prop} {w : World} {μ : Mu} : RelCs B w μ [] [] := ⟨rfl, fun j c v h => by simp at h⟩

section
variable {T : TypeId → TI} {t e : TypeId} {ls : List L}

theorem typ_int {k : IntKind} (h : Typ T t ls) (hd : (T t).d = .int k) : ∃ n, ls = [.i k n] ∧ (Lit.int k n).wf = true := by
  cases h with
  | int h hr => rw [hd] at h; cases h; exact ⟨_, rfl, hr⟩
  | bool h => rw [hd] at h; cases h
  | str h _ => rw [hd] at h; cases h
  | slice h _ _ => rw [hd] at h; cases h
  | struct h _ _ => rw [hd] at h; cases h
theorem typ_slice (h : Typ T t ls) (hd : (T t).d = .slice e) : ∃ rows : List (List L), ls = [.sl rows.flatten rows.length] ∧ ∀ r ∈ rows, Typ T e r := by
  cases h with
  | int h hr => rw [hd] at h; cases h
  | bool h => rw [hd] at h; cases h
  | str h _ => rw [hd] at h; cases h
  | slice h hr _ => rw [hd] at h; cases h; exact ⟨_, rfl, hr⟩
  | struct h _ _ => rw [hd] at h; cases h
theorem typ_struct {fs : List (Nat × TypeId)} (h : Typ T t ls) (hd : (T t).d = .struct fs) : ∃ parts : List (List L), ls = parts.flatten ∧ parts.length = fs.length ∧ ∀ (j : Nat) q r, fs[j]? = some q → parts[j]? = some r → Typ T q.2 r := by
  cases h with
  | int h hr => rw [hd] at h; cases h
  | bool h => rw [hd] at h; cases h
  | str h _ => rw [hd] at h; cases h
  | slice h _ _ => rw [hd] at h; cases h
  | struct h h1 h2 => rw [hd] at h; cases h; exact ⟨_, rfl, h1, h2⟩

theorem typ_strB (h : Typ T t ls) (hd : (T t).d = .str) : ∃ x, ls = [.s x] ∧ x.length ≤ 9223372036854775807 := by
  cases h with
  | int h hr => rw [hd] at h; cases h
  | bool h => rw [hd] at h; cases h
  | str h hb => exact ⟨_, rfl, hb⟩
  | slice h _ _ => rw [hd] at h; cases h
  | struct h _ _ => rw [hd] at h; cases h
theorem typ_sliceB (h : Typ T t ls) (hd : (T t).d = .slice e) : ∃ rows : List (List L), ls = [.sl rows.flatten rows.length] ∧ (∀ r ∈ rows, Typ T e r) ∧ rows.length ≤ 9223372036854775807 := by
  cases h with
  | int h hr => rw [hd] at h; cases h
  | bool h => rw [hd] at h; cases h
  | str h _ => rw [hd] at h; cases h
  | slice h hr hb => rw [hd] at h; cases h; exact ⟨_, rfl, hr, hb⟩
  | struct h _ _ => rw [hd] at h; cases h
theorem rows_of {α : Type} {f : α → List L} {Q : α → Prop} : ∀ {rows : List (List L)}, (∀ r ∈ rows, ∃ x, r = f x ∧ Q x) → ∃ l : List α, rows = l.map f ∧ ∀ x ∈ l, Q x
  | [], _ => ⟨[], rfl, by simp⟩
  | r :: rows, h => by
    obtain ⟨x, rfl, hx⟩ := h r (by simp)
    obtain ⟨l, rfl, hl⟩ := rows_of fun r hr => h r (List.mem_cons_of_mem _ hr)
    exact ⟨x :: l, rfl, fun y hy => by rcases List.mem_cons.1 hy with rfl | hy; exact hx; exact hl y hy⟩

theorem wf_u8 {n : Int} (h : (Lit.int .u8 n).wf = true) : 0 ≤ n ∧ n ≤ 255 := by
  simp [Lit.wf, IntKind.min, IntKind.max, IntKind.signed, IntKind.bits] at h
  omega
theorem wf_u16 {n : Int} (h : (Lit.int .u16 n).wf = true) : 0 ≤ n ∧ n ≤ 65535 := by
  simp [Lit.wf, IntKind.min, IntKind.max, IntKind.signed, IntKind.bits] at h
  omega
theorem wf_u64 {n : Int} (h : (Lit.int .u64 n).wf = true) : 0 ≤ n ∧ n ≤ 18446744073709551615 := by
  simp [Lit.wf, IntKind.min, IntKind.max, IntKind.signed, IntKind.bits] at h
  omega

theorem typ_bytes (h : Typ T t ls) (hd : (T t).d = .slice e) (he : (T e).d = .int .u8) : ∃ b : List UInt8, ls = [.sl (b.map u8) b.length] := by
  obtain ⟨rows, rfl, hr⟩ := typ_slice h hd
  obtain ⟨l, rfl, _⟩ := rows_of (f := fun x : UInt8 => [u8 x]) (Q := fun _ => True) (rows := rows) fun r hr' => by
    obtain ⟨n, rfl, hw⟩ := typ_int (hr r hr') he
    exact ⟨byteOf n, by rw [u8_of (wf_u8 hw)], trivial⟩
  refine ⟨l, ?_⟩
  have : (l.map fun x : UInt8 => [u8 x]).flatten = l.map u8 := by
    clear hr h
    induction l with
    | nil => rfl
    | cons x r ih => simp [ih]
  rw [this]; simp

theorem typ_bytesB (h : Typ T t ls) (hd : (T t).d = .slice e) (he : (T e).d = .int .u8) : ∃ b : List UInt8, ls = [.sl (b.map u8) b.length] ∧ b.length ≤ 9223372036854775807 := by
  obtain ⟨rows, e1, _, hb⟩ := typ_sliceB h hd
  obtain ⟨b, e2⟩ := typ_bytes h hd he
  refine ⟨b, e2, ?_⟩
  rw [e2] at e1
  injection e1 with e1 _
  injection e1 with _ e1
  omega
end

end Go.Sx

/-! short names for the walk's steps -/
namespace Go.Sx
section
variable {n a b x n1 n2 n3 n4 : Int} {K : Int → Prop} {C : List L → Prop}
theorem jA (hk : K n) (h : -9223372036854775808 ≤ n ∧ n ≤ 9223372036854775807 := by omega) : wrapK .i64 n K := wrapK_i64 h hk
theorem jB (hk : K n) (h : 0 ≤ n ∧ n ≤ 255 := by omega) : wrapK .u8 n K := wrapK_u8 h hk
theorem jC (hk : K n) (h : -9223372036854775808 ≤ n ∧ n ≤ 9223372036854775807 := by omega) : convK .i64 n K := convK_i64 h hk
theorem jD (hk : K ((byteOf n).toNat : Int)) : convK .u8 n K := convK_byte hk
theorem jE (hk : K n) (h : 0 ≤ n ∧ n ≤ 18446744073709551615 := by omega) : convK .u64 n K := convK_u64 h hk
theorem jF (hk : K n) (h : 0 ≤ n ∧ n ≤ 65535 := by omega) : convK .u16 n K := convK_u16 h hk
theorem jG (hk : K n) (h : 0 ≤ n ∧ n ≤ 4294967295 := by omega) : convK .u32 n K := convK_u32 h hk
theorem jH (hk : K ((byteOf n).toNat : Int)) : wrapK .u8 n K := wrapK_byte hk
theorem jI (hk : K n) (h : 0 ≤ n ∧ n ≤ 18446744073709551615 := by omega) : wrapK .u64 n K := wrapK_u64 h hk
theorem jJ (hk : K n) (h : 0 ≤ n ∧ n ≤ 4294967295 := by omega) : wrapK .u32 n K := wrapK_u32 h hk
theorem jK (hk : K n) (h : 0 ≤ n ∧ n ≤ 65535 := by omega) : wrapK .u16 n K := wrapK_u16 h hk
theorem jL (hk : K (a / b)) (h : 0 ≤ a ∧ 0 < b ∧ a ≤ 9223372036854775807 := by omega) : quoK .i64 a b K := quoK_i64 h hk
theorem jM (hk : K (a / b)) (h : 0 ≤ a ∧ 0 < b ∧ a ≤ 255 := by omega) : quoK .u8 a b K := quoK_u8 h hk
theorem jN (hk : K (a / b)) (h : 0 ≤ a ∧ 0 < b ∧ a ≤ 65535 := by omega) : quoK .u16 a b K := quoK_u16 h hk
theorem jO (hk : K (a % b)) (h : 0 ≤ a ∧ 0 < b := by omega) : remK a b K := remK_pos h hk
theorem jP {k : IntKind} {r : List L} {K : Int → List L → Prop} (hk : K n r) : headI k (.i k n :: r) K := headI_cons hk
theorem jQ {n : List UInt8} {r : List L} {K : List UInt8 → List L → Prop} (hk : K n r) : headS (.s n :: r) K := headS_cons hk
theorem jR {n : Bool} {r : List L} {K : Bool → List L → Prop} (hk : K n r) : headB (.b n :: r) K := headB_cons hk
theorem jS {x : List L} {n : Nat} {r : List L} {K : List L → Nat → List L → Prop} (hk : K x n r) : headV (.sl x n :: r) K := headV_cons hk
theorem jT {x : L} {r : List L} {K : L → List L → Prop} (hk : K x r) : headX (x :: r) K := headX_cons hk
theorem jU {l : List UInt8} {j : Nat} {K : Int → List L → Prop} (hk : (l.getD j 0).toNat < 256 → K ((l.getD j 0).toNat : Int) ((l.drop (j + 1)).map u8)) (h : j < l.length := by first | omega | (simp; omega)) : headI .u8 ((l.map u8).drop (j * 1)) K := headI_u8 h hk
theorem jV {k : IntKind} {l : List Int} {j : Nat} {K : Int → List L → Prop} (hk : K (l.getD j 0) ((l.drop (j + 1)).map (.i k))) (h : j < l.length := by first | omega | (simp; omega)) : headI k ((l.map (L.i k)).drop (j * 1)) K := headI_ints h hk
theorem jW {l : List UInt8} {K : List UInt8 → Prop} (h : K l) : bytesK (l.map u8) K := bytesK_map h
theorem jX {b : List L} (hk : C b) : catK [] b C := catK_nil hk
theorem jY {a : List L} (hk : C a) : catK a [] C := catK_nil' hk
theorem jZ {a b : List UInt8} (hk : C ((a ++ b).map u8)) : catK (a.map u8) (b.map u8) C := catK_u8 hk
theorem ja {a : List UInt8} {x : UInt8} (hk : C ((a ++ [x]).map u8)) : catK (a.map u8) [.i .u8 (x.toNat : Int)] C := catK_one hk
theorem jb {a : List UInt8} (hk : C ((a ++ [byteOf n]).map u8)) (h : 0 ≤ n ∧ n ≤ 255 := by omega) : catK (a.map u8) [.i .u8 n] C := catK_lit h hk
theorem jc {k : IntKind} {a b : List Int} (hk : C ((a ++ b).map (.i k))) : catK (a.map (.i k)) (b.map (.i k)) C := catK_ints hk
theorem jd {k : IntKind} {a : List Int} (hk : C ((a ++ [n]).map (.i k))) : catK (a.map (.i k)) [.i k n] C := catK_int1 hk
theorem je {b : List UInt8} (hk : C (b.map u8)) : packK (b.map u8) C := packK_u8 hk
theorem jf (hk : C (([] : List UInt8).map u8)) : packK [] C := packK_0 hk
theorem jg (hk : C ([byteOf n1].map u8)) (h1 : 0 ≤ n1 ∧ n1 ≤ 255 := by omega) : packK [.i .u8 n1] C := packK_1 h1 hk
theorem jh (hk : C ([byteOf n1, byteOf n2].map u8)) (h1 : 0 ≤ n1 ∧ n1 ≤ 255 := by omega) (h2 : 0 ≤ n2 ∧ n2 ≤ 255 := by omega) : packK [.i .u8 n1, .i .u8 n2] C := packK_2 h1 h2 hk
theorem ji (hk : C ([byteOf n1, byteOf n2, byteOf n3].map u8)) (h1 : 0 ≤ n1 ∧ n1 ≤ 255 := by omega) (h2 : 0 ≤ n2 ∧ n2 ≤ 255 := by omega) (h3 : 0 ≤ n3 ∧ n3 ≤ 255 := by omega) : packK [.i .u8 n1, .i .u8 n2, .i .u8 n3] C := packK_3 h1 h2 h3 hk
theorem jj (hk : C ([byteOf n1, byteOf n2, byteOf n3, byteOf n4].map u8)) (h1 : 0 ≤ n1 ∧ n1 ≤ 255 := by omega) (h2 : 0 ≤ n2 ∧ n2 ≤ 255 := by omega) (h3 : 0 ≤ n3 ∧ n3 ≤ 255 := by omega) (h4 : 0 ≤ n4 ∧ n4 ≤ 255 := by omega) : packK [.i .u8 n1, .i .u8 n2, .i .u8 n3, .i .u8 n4] C := packK_4 h1 h2 h3 h4 hk
theorem jk {cs : List L} (hk : C cs) : packK cs C := packK_any hk
theorem jl (hc : K (a * 256)) (h : b = 8 := by omega) (hr : 0 ≤ a ∧ a ≤ 36028797018963967 := by omega) : shlK .i64 a b K := shlK_8 h hr hc
theorem jm (hc : K (a * 256 + x)) (ha : 0 ≤ a ∧ a ≤ 36028797018963967 := by omega) (hx : 0 ≤ x ∧ x ≤ 255 := by omega) : bitK .or .i64 (a * 256) x K := bitK_or8 ha hx hc
theorem jn {n : Nat} {K : Bool → Prop} (hk : K false) (h : n ≠ 0 := by omega) : nilK n K := nilK_no h hk
theorem jo {a : List UInt8} {n : Nat} (hk : C ((a.take n).map u8)) : takeC (a.map u8) (n * 1) C := takeC_u8 hk
theorem jp {a : List UInt8} {n : Nat} (hk : C ((a.drop n).map u8)) : dropC (a.map u8) (n * 1) C := dropC_u8 hk
theorem jq {a : List L} (hk : C a) : dropC a 0 C := dropC_zero hk
theorem jr {a : List L} {n : Nat} (hk : C (a.take n)) : takeC a n C := takeC_any hk
theorem js {a : List L} {n : Nat} (hk : C (a.drop n)) : dropC a n C := dropC_any hk
theorem jt {a b : List L} (hk : C (a ++ b)) : catK a b C := catK_any hk
theorem ju {p k : Prop} (hk : k) (h : p := by first | omega | rfl | exact Nat.le_of_ble_eq_true rfl | (refine ⟨?_, ?_⟩ <;> first | omega | (simp; done) | (simp; omega)) | (simp; done) | (simp; omega)) : sideK p k := sideK_intro h hk
theorem jv {a b : Bool} {k : Prop} (hk : k) (h1 : a = true := by kernel_rfl) (h2 : b = true := by kernel_rfl) : drawK a b k := drawK_intro h1 h2 hk
theorem jw {k : IntKind} (j : Nat) (hc : K (a.fdiv (256 ^ j))) (h : b = 8 * (j : Int) := by omega) (hk : k.bits = 64 := by rfl) (hj : j < 8 := by omega) : shrK k a b K := shrK_8 j h hk hj hc
theorem jx {A B : Prop} (h : A) : eitherK A B := eitherK_l h
theorem jy {K : L → Prop} (h : K (.sl [] 0)) : nlK K := nlK_sl h
end
end Go.Sx

/-
  The same for regions, loops, functions; tables of types; from a row's arguments to a contract's: for every program; the conditions stand in each theorem.
-/
import Derived.Test.YtifacpjiieoalaaSxA
import Derived.Orders
import Derived.LoopN
import Derived.Laws.StructEq
import Derived.KernelRfl
import Derived.ChangeOld
import Derived.Below
import Derived.Carry
set_option linter.all false
/-
  Regions, in the text's order.
-/
namespace Go.Sx

structure SR (X : Cx) (N : Nat) (st : St) (a : Act) (w : World) (μ : Mu) (B : Nat → Prop) : Prop where
  sb : SB X (boxOf st.x) μ B w
  env : ∀ t, RelV B w μ (lookE st.e t) (a.tmps.getD t undef)
  sz : a.tmps.size = N
  dfr : a.defers = []

/-- what has become of the world since the function began -/
structure Hist (X : Cx) (w0 : World) (μ0 μ : Mu) (w : World) : Prop where
  base : X.base = w0.heap.size
  blk : ∀ b, b < w0.heap.size → (∀ id o n, isPar id = true → μ0 id ≠ some (some (b, o, n))) → w.heap[b]? = w0.heap[b]?
  os : w.os = w0.os
  tape : w.tape = w0.tape
  output : w.output = w0.output
  par : ∀ id, isPar id = true → μ id = μ0 id
  ex : ∀ a, (w0.cell? a).isSome = true → (w.cell? a).isSome = true

section
variable {P : Program} {B : Nat → Prop} {w : World} {μ : Mu} {X : Cx} {m : Nat → Option Bx}

theorem Hist.step {w0 w' : World} {μ0 μ' : Mu} {B' : Nat → Prop} {ef : Eff} (h : Hist X w0 μ0 μ w) (hsb : SB X m μ B w) (hs : Step X m μ B w ef μ' B' w') : Hist X w0 μ0 μ' w' where
  base := h.base
  blk := fun b hb hn => by
    rw [hs.fr.wr b (Nat.lt_of_lt_of_le (h.base ▸ hb) hsb.sz) ?_, h.blk b hb hn]
    rintro ⟨id, bx, o, n, h1, h2, h3⟩
    cases hp : isPar id with
    | true =>
      have := h.par id hp
      rw [h3] at this
      exact hn id o n hp this.symm
    | false =>
      have := hsb.loc id bx b o n h1 h2 hp h3
      have := h.base
      omega
  os := hs.fr.os.trans h.os
  tape := hs.fr.tape.trans h.tape
  output := hs.fr.output.trans h.output
  par := fun id hid => (hs.par id hid).trans (h.par id hid)
  ex := fun a ha => hs.gr.ex a (h.ex a ha)

theorem const_rel (v : Value) : RelV B w μ (constV v) v := by
  have leaf : ∀ v : Value, RelL B w μ (leafOf v) v := by
    intro v
    unfold leafOf
    split <;> first
      | exact .i
      | exact .tt
      | exact .ff
      | exact .nl
      | exact .np
      | exact .f
      | exact .u
      | skip
    rename_i s
    exact .s
  unfold constV
  split
  · rename_i cs
    refine ⟨cs.toList, rfl, by simp, fun j l v h1 h2 => ?_⟩
    simp only [List.getElem?_map, h2, Option.map_some, Option.some.injEq] at h1
    subst h1
    exact leaf v
  · exact leaf _

theorem operand_rel {st : St} {a : Act} {N : Nat} (h : SR X N st a w μ B) (x : Operand) : RelV B w μ (operandV st.e x) (a.eval x) := by
  cases x with
  | tmp t => exact h.env t
  | const v => exact const_rel v
  | func f => exact RelL.f
  | global g => exact RelL.u

theorem lookE_cons (k : Nat) (v : V) (e : Env) (t : Nat) : lookE ((k, v) :: e) t = if k = t then v else lookE e t := by
  show (bif Nat.beq k t then v else lookE e t) = _
  by_cases h : k = t
  · subst h; simp
  · simp [beq_ne h, h]

theorem env_put {e : Env} {a : Act} {N : Nat} (henv : ∀ t, RelV B w μ (lookE e t) (a.tmps.getD t undef)) (hsz : a.tmps.size = N) {d : Option Nat} (hd : dstOk N d = true) {v : V} {u : Value} (hv : RelV B w μ v u) :
    ∀ t, RelV B w μ (lookE (putE e d v) t) ((a.put d u).tmps.getD t undef) := by
  intro t
  cases d with
  | none => exact henv t
  | some d =>
    have hd : d < a.tmps.size := by rw [hsz]; simpa [dstOk] using hd
    simp only [putE, lookE_cons, Act.put]
    by_cases h : d = t
    · subst h
      have : (a.tmps.setIfInBounds d u).getD d undef = u := by simp [Array.getD, hd]
      rw [if_pos rfl, this]; exact hv
    · have : (a.tmps.setIfInBounds d u).getD t undef = a.tmps.getD t undef := by
        simp only [Array.getD_eq_getD_getElem?]
        rw [Array.getElem?_setIfInBounds_ne h]
      rw [if_neg h, this]; exact henv t

theorem put_size (a : Act) (d : Option Nat) (u : Value) : (a.put d u).tmps.size = a.tmps.size := by cases d <;> simp [Act.put]
theorem put_defers (a : Act) (d : Option Nat) (u : Value) : (a.put d u).defers = a.defers := by cases d <;> rfl

/-- the guard of an operation, as the evaluator splits on it -/
theorem guard_sound {all : List Oper} {arr : Array Oper} (harr : arr.toList = all) {st : St} {a : Act} {N : Nat} (hN : N ≤ 1000) (h : SR X N st a w μ B) {o : Oper} {K : Bool → Env → Prop} (hk : guardK all st.e o.guard K) :
    ∃ e', K (Region.wanted o (yielded arr a.tmps)) e' ∧ SR X N ⟨e', st.x⟩ a w μ B := by
  unfold guardK at hk
  cases hg : o.guard with
  | none =>
    rw [hg] at hk
    refine ⟨st.e, ?_, h⟩
    simp only [Region.wanted, hg]
    exact hk
  | some q =>
    obtain ⟨j, want⟩ := q
    rw [hg] at hk
    simp only [getK_eq] at hk
    -- the bit that the guard looks at
    have hget : ∀ t, a.tmps.getD (dstOf all j) undef = .bool t → yielded arr a.tmps j = some t := by
      intro t ht
      have hne : (undef : Value) ≠ .bool t := by intro h; cases h
      have hlt : dstOf all j < a.tmps.size := by
        rcases Nat.lt_or_ge (dstOf all j) a.tmps.size with h1 | h1
        · exact h1
        · have : a.tmps.getD (dstOf all j) undef = undef := by simp [Array.getD, Nat.not_lt.2 h1]
          rw [this] at ht; exact absurd ht hne
      have hsz := h.sz
      unfold dstOf at ht hlt
      rw [← harr, Array.getElem?_toList] at ht hlt
      unfold yielded
      cases hd : (arr[j]?).bind (·.dst) with
      | none => rw [hd] at hlt; simp at hlt; omega
      | some d =>
        rw [hd] at ht hlt
        simp only [Option.getD_some] at ht hlt
        have : a.tmps[d]? = some (.bool t) := by
          simp only [Array.getD, hlt, dif_pos] at ht
          rw [Array.getElem?_eq_getElem hlt]; exact congrArg some ht
        simp [this]
    have hw : ∀ t, a.tmps.getD (dstOf all j) undef = .bool t → Region.wanted o (yielded arr a.tmps) = (t == want) := by
      intro t ht
      simp only [Region.wanted, hg, hget t ht]
      rfl
    have hr := h.env (dstOf all j)
    have refine_env : ∀ (l : L) (t : Bool), RelL B w μ l (.bool t) → a.tmps.getD (dstOf all j) undef = .bool t → SR X N ⟨(dstOf all j, .c (.o l)) :: st.e, st.x⟩ a w μ B := by
      intro l t hl ht
      refine ⟨h.sb, fun s => ?_, h.sz, h.dfr⟩
      simp only [lookE_cons]
      split
      · rename_i he; subst he; rw [ht]; exact hl
      · exact h.env s
    generalize hv : lookE st.e (dstOf all j) = v at hk hr
    cases v with
    | t xs => exact hk.elim
    | c x =>
      cases x with
      | a ls => exact hk.elim
      | o l =>
        cases l <;> try exact hk.elim
        case tt =>
          generalize hu : a.tmps.getD (dstOf all j) undef = u at hr
          cases hr
          refine ⟨st.e, ?_, h⟩
          rw [hw true hu]
          cases want <;> exact hk
        case ff =>
          generalize hu : a.tmps.getD (dstOf all j) undef = u at hr
          cases hr
          refine ⟨st.e, ?_, h⟩
          rw [hw false hu]
          cases want <;> exact hk
        case b x =>
          generalize hu : a.tmps.getD (dstOf all j) undef = u at hr
          cases hr
          cases x with
          | true =>
            refine ⟨_, ?_, refine_env .tt true .tt hu⟩
            rw [hw true hu]
            cases want <;> exact hk.1 rfl
          | false =>
            refine ⟨_, ?_, refine_env .ff false .ff hu⟩
            rw [hw false hu]
            cases want <;> exact hk.2 rfl

theorem wp_of_opWp {o : Oper} {a : Act} {R : Value → World → Prop} (h : OpWp P o a.eval w R) {next : Act → World → Prop} {Q : Exit → Act → World → Prop} (hn : ∀ v w', R v w' → next (a.put o.dst v) w') : o.wp P a w next Q := by
  unfold OpWp at h
  unfold Oper.wp
  cases hr : (execOp a.eval o).run P w with
  | halt x w' => rw [hr] at h; exact h.elim
  | ok n w' =>
    rw [hr] at h
    cases n with
    | value v => exact hn v w' h
    | skip => exact hn undef w' h
    | enter f args =>
      refine Calls.mono h fun e w'' he => ?_
      obtain ⟨v, rfl, hv⟩ := he
      exact hn v w'' hv
    | _ => exact h.elim

/-- names that are still to be made -/
def Pend (μ : Mu) (ops : List Oper) : Prop := ∀ o ∈ ops, creates o.op = true → ∀ j, μ (o.dst.getD 99998 % 10000 + 10000 * j) = none

theorem dst_lt {N : Nat} (hN : N ≤ 1000) {d : Option Nat} (h : dstOk N d = true) : (d.getD 99998 < 1000 ∨ d = none) := by
  cases d with
  | none => exact .inr rfl
  | some d => left; simp [dstOk] at h; simp; omega

theorem putEK_eq (e : Env) (d : Option Nat) (v : V) (K : Env → Prop) : putEK e d v K = K (putE e d v) := by cases d <;> rfl

theorem opsK_cons (G : Par) (all : List Oper) (o : Oper) (r : List Oper) (st : St) (inf : Info) (K : St → Info → Prop) : opsK G all (o :: r) st inf K =
    bif dstOk G.N o.dst then guardK all st.e o.guard fun want e => match want with
      | true => operandsK e o.op.operands.toList fun vs => opSem G.T G.F o.op (o.dst.getD 99998) vs (lookK st.x) fun v ef =>
          bif !efOk (creates o.op) st.x (o.dst.getD 99998) ef then False else applyK ef st.x fun x => opsK G all r ⟨putE e o.dst v, x⟩ ((touch (boxOf st.x) vs ++ ef.map (·.1), ef.map (·.1)) :: inf) K
      | false => opsK G all r ⟨putE e o.dst (.c (.o .u)), st.x⟩ (([], []) :: inf) K
    else False := by
  obtain ⟨e0, x0⟩ := st
  show (bif dstOk G.N o.dst then guardK all e0 o.guard fun want e => match want with
      | true => operandsK e o.op.operands.toList fun vs => opSem G.T G.F o.op (o.dst.getD 99998) vs (lookK x0) fun v ef =>
          bif !efOk (creates o.op) x0 (o.dst.getD 99998) ef then False else applyK ef x0 fun x => putEK e o.dst v fun e' => opsK G all r ⟨e', x⟩ ((touch (boxOf x0) vs ++ ef.map (·.1), ef.map (·.1)) :: inf) K
      | false => putEK e o.dst (.c (.o .u)) fun e' => opsK G all r ⟨e', x0⟩ (([], []) :: inf) K
    else False) = _
  simp only [putEK_eq]

theorem dst_cases {N : Nat} (hN : N ≤ 1000) {d : Option Nat} (h : dstOk N d = true) (D : Nat) (hD : D = d.getD 99998) : D < 1000 ∨ D = 99998 := by
  rcases dst_lt hN h with h1 | h1
  · left; omega
  · right; subst h1; exact hD

theorem par_no {D : Nat} (h : D < 1000 ∨ D = 99998) (j : Nat) : isPar (D + 10000 * j) = false := by
  unfold isPar
  rw [Bool.and_eq_false_iff]
  by_cases h1 : D + 10000 * j < 1000
  · left
    cases h2 : Nat.ble 1000 (D + 10000 * j) with
    | false => rfl
    | true => have := Nat.le_of_ble_eq_true h2; omega
  · right
    cases h2 : Nat.blt (D + 10000 * j) 2000 with
    | false => rfl
    | true => have : D + 10000 * j + 1 ≤ 2000 := Nat.le_of_ble_eq_true h2; omega

theorem pend_of {D : Nat} (h : D < 1000 ∨ D = 99998) (hp : ∀ j, μ (D % 10000 + 10000 * j) = none) (j : Nat) : μ (D + 10000 * j) = none := by
  rcases h with h | h
  · have := hp j
    rwa [Nat.mod_eq_of_lt (by omega)] at this
  · subst h
    have := hp (j + 9)
    rwa [show 99998 % 10000 + 10000 * (j + 9) = 99998 + 10000 * j by omega] at this

/-- the operations of a region, in the text's order -/
theorem ops_sound {G : Par} (hF : G.F = Fn P) (hT : TOk P G.T) (hE : ∀ t, (G.T t).eq = true → EqTy P t (G.T t).zero) (hN : G.N ≤ 1000) {arr : Array Oper} {Q : Exit → Act → World → Prop} {w0 : World} {μ0 : Mu}
    (ops : List Oper) : ∀ (k : Nat) (st : St) (inf : Info) (K : St → Info → Prop) (a : Act) (w : World) (μ : Mu) (B : Nat → Prop), (∀ j, ops[j]? = arr[k + j]?) →
      SR X G.N st a w μ B → Hist X w0 μ0 μ w → nodupB (crDsts ops) = true → Pend μ ops → opsK G arr.toList ops st inf K →
      (∀ st' inf' a' w' μ' B', K st' inf' → SR X G.N st' a' w' μ' B' → Hist X w0 μ0 μ' w' → Q .normal a' w') →
      wpOps P arr Q (List.range' k ops.length) a w := by
  induction ops with
  | nil =>
    intro k st inf K a w μ B _ hs hh _ _ hk hq
    exact hq _ _ _ _ _ _ hk hs hh
  | cons o r ih =>
    intro k st inf K a w μ B hj hs hh hnd hp hk hq
    have h0 : arr[k]? = some o := by simpa using (hj 0).symm
    have hj' : ∀ j, r[j]? = arr[k + 1 + j]? := fun j => by
      have := hj (j + 1)
      rw [show k + 1 + j = k + (j + 1) by omega, ← this]; rfl
    have hnd' : nodupB (crDsts r) = true ∧ (creates o.op = true → ∀ o' ∈ r, creates o'.op = true → o'.dst.getD 99998 % 10000 ≠ o.dst.getD 99998 % 10000) := by
      unfold crDsts at hnd ⊢
      cases hc : creates o.op with
      | false => simp [hc] at hnd; exact ⟨hnd, by simp⟩
      | true =>
        rw [List.filterMap_cons_some (b := o.dst.getD 99998 % 10000) (by simp [hc])] at hnd
        simp only [nodupB, Bool.and_eq_true, Bool.not_eq_true'] at hnd
        refine ⟨hnd.2, fun _ o' ho' hc' he => ?_⟩
        have : (o.dst.getD 99998 % 10000) ∈ r.filterMap fun o => bif creates o.op then some (o.dst.getD 99998 % 10000) else none :=
          List.mem_filterMap.2 ⟨o', ho', by simp [hc', he]⟩
        simp [this] at hnd
    rw [opsK_cons] at hk
    cases hd : dstOk G.N o.dst with
    | false => rw [hd] at hk; exact hk.elim
    | true =>
      rw [hd] at hk
      rw [_root_.cond_true] at hk
      obtain ⟨e', hk, hs⟩ := guard_sound rfl hN hs (o := o) hk
      simp only [List.length_cons, List.range'_succ, wpOps, h0]
      cases hw : Region.wanted o (yielded arr a.tmps) with
      | false =>
        rw [hw] at hk
        refine ih (k + 1) ⟨putE e' o.dst (.c (.o .u)), st.x⟩ _ K _ w μ B hj' ⟨hs.sb, env_put (v := .c (.o .u)) (u := undef) hs.env hs.sz hd RelL.u, by rw [put_size]; exact hs.sz, by rw [put_defers]; exact hs.dfr⟩ hh hnd'.1 (fun o' ho' => hp o' (List.mem_cons_of_mem _ ho')) hk hq
      | true =>
        rw [hw] at hk
        refine .inl ?_
        simp only [operandsK_eq, lookK_eq, hF] at hk
        have hD := dst_cases hN hd _ rfl
        have hop := op_sound (P := P) (X := X) (o := o) (a := a) hT hE hs.sb
          (fun hc j => pend_of hD (hp o (List.mem_cons_self ..) hc) j) (fun j => par_no hD j)
          (vs := o.op.operands.toList.map (operandV e')) (fun j v x h1 h2 => by
            simp only [List.getElem?_map, h2, Option.map_some, Option.some.injEq] at h1
            subst h1
            exact operand_rel hs x) (by simp) hk
        refine wp_of_opWp hop fun v' w' hout => ?_
        obtain ⟨v, ef, μ', B', hk, hst, hv⟩ := hout
        cases hef : efOk (creates o.op) st.x (o.dst.getD 99998) ef with
        | false => simp only [hef] at hk; exact hk.elim
        | true =>
          simp only [hef, Bool.not_true, cond_false] at hk
          obtain ⟨y, hy, hk⟩ := applyK_elim _ _ _ hk
          have hy : boxOf y = applyF (boxOf st.x) ef := funext hy
          refine ih (k + 1) _ _ K _ w' μ' B' hj' ⟨by rw [hy]; exact hst.sb, env_put (fun t => (hs.env t).grow hst.gr hst.mu) hs.sz hd hv, by rw [put_size]; exact hs.sz, by rw [put_defers]; exact hs.dfr⟩ (hh.step hs.sb hst) hnd'.1 ?_ hk hq
          intro o' ho' hc' j
          rw [hst.new]
          · exact hp o' (List.mem_cons_of_mem _ ho') hc' j
          · intro hmem
            obtain ⟨q, hq1, hq2⟩ := List.mem_map.1 hmem
            have hef := List.all_eq_true.1 hef q hq1
            simp only [Bool.or_eq_true] at hef
            rcases hef with h1 | h1
            · obtain ⟨bx, hbx⟩ := Option.isSome_iff_exists.1 h1
              exact hs.sb.muOf hbx (hq2 ▸ hp o' (List.mem_cons_of_mem _ ho') hc' j)
            · simp only [Bool.and_eq_true] at h1
              have h2 := Nat.eq_of_beq_eq_true h1.2
              refine hnd'.2 h1.1 o' ho' hc' ?_
              rw [hq2] at h2
              rw [Nat.add_mul_mod_self_left, Nat.mod_mod] at h2
              exact h2

end
end Go.Sx

/-
  The evaluator's conditions are linear in what comes behind them: each holds by one outcome.
-/
namespace Go.Sx

def Lin {α : Type} (X : (α → Prop) → Prop) : Prop := ∀ K, X K ↔ ∃ a, X (fun a' => a' = a) ∧ K a
abbrev Lin2 {α β : Type} (X : (α → β → Prop) → Prop) : Prop := Lin fun K : α × β → Prop => X fun a b => K (a, b)
abbrev Lin4 {α β γ δ : Type} (X : (α → β → γ → δ → Prop) → Prop) : Prop := Lin fun K : α × β × γ × δ → Prop => X fun a b c d => K (a, b, c, d)

section
variable {α β γ δ ε : Type}

theorem Lin.ff : Lin (fun _ : α → Prop => False) := fun K => by simp
theorem Lin.pure (a : α) : Lin (fun K : α → Prop => K a) := fun K => by simp
theorem Lin.and {p : Prop} {X : (α → Prop) → Prop} (h : p → Lin X) : Lin (fun K => p ∧ X K) := fun K => by
  constructor
  · rintro ⟨hp, hx⟩
    obtain ⟨a, h1, h2⟩ := (h hp K).1 hx
    exact ⟨a, ⟨hp, h1⟩, h2⟩
  · rintro ⟨a, ⟨hp, h1⟩, h2⟩
    exact ⟨hp, (h hp K).2 ⟨a, h1, h2⟩⟩
theorem Lin.ex {ι : Sort _} {X : ι → (α → Prop) → Prop} (h : ∀ i, Lin (X i)) : Lin (fun K => ∃ i, X i K) := fun K => by
  constructor
  · rintro ⟨i, hi⟩
    obtain ⟨a, h1, h2⟩ := (h i K).1 hi
    exact ⟨a, ⟨i, h1⟩, h2⟩
  · rintro ⟨a, ⟨i, h1⟩, h2⟩
    exact ⟨i, (h i K).2 ⟨a, h1, h2⟩⟩
theorem Lin.of {X Z : (α → Prop) → Prop} (h : Lin X) (e : ∀ K, Z K = X K) : Lin Z := by
  have : Z = X := funext e
  rw [this]; exact h
theorem Lin.mono {X : (α → Prop) → Prop} (h : Lin X) {K K' : α → Prop} (hk : ∀ a, K a → K' a) (hx : X K) : X K' := by
  obtain ⟨a, h1, h2⟩ := (h K).1 hx
  exact (h K').2 ⟨a, h1, hk a h2⟩
theorem Lin.bind {X : (α → Prop) → Prop} {Y : α → (β → Prop) → Prop} (hX : Lin X) (hY : ∀ a, Lin (Y a)) : Lin (fun K => X (fun a => Y a K)) := fun K => by
  constructor
  · intro h
    obtain ⟨a, h1, h2⟩ := (hX _).1 h
    obtain ⟨b, h3, h4⟩ := (hY a K).1 h2
    exact ⟨b, (hX _).2 ⟨a, h1, h3⟩, h4⟩
  · rintro ⟨b, h1, h2⟩
    obtain ⟨a, h3, h4⟩ := (hX _).1 h1
    exact (hX _).2 ⟨a, h3, (hY a K).2 ⟨b, h4, h2⟩⟩
theorem Lin.bind2 {X : (α → β → Prop) → Prop} {Y : α → β → (γ → Prop) → Prop} (hX : Lin2 X) (hY : ∀ a b, Lin (Y a b)) : Lin (fun K => X (fun a b => Y a b K)) :=
  Lin.bind (X := fun K : α × β → Prop => X fun a b => K (a, b)) (Y := fun p => Y p.1 p.2) hX fun p => hY p.1 p.2
theorem Lin.bind4 {X : (α → β → γ → δ → Prop) → Prop} {Y : α → β → γ → δ → (ε → Prop) → Prop} (hX : Lin4 X) (hY : ∀ a b c d, Lin (Y a b c d)) : Lin (fun K => X (fun a b c d => Y a b c d K)) :=
  Lin.bind (X := fun K : α × β × γ × δ → Prop => X fun a b c d => K (a, b, c, d)) (Y := fun p => Y p.1 p.2.1 p.2.2.1 p.2.2.2) hX fun p => hY p.1 p.2.1 p.2.2.1 p.2.2.2
theorem Lin.bif {c : Bool} {X Y : (α → Prop) → Prop} (hX : c = true → Lin X) (hY : c = false → Lin Y) : Lin (fun K => bif c then X K else Y K) := by
  cases c
  · exact hY rfl
  · exact hX rfl
theorem Lin.bool {c : Bool} {X Y : (α → Prop) → Prop} (hX : Lin X) (hY : Lin Y) : Lin (fun K => boolK c (X K) (Y K)) := by
  cases c
  · have : (fun K => boolK false (X K) (Y K)) = Y := by funext K; exact propext ⟨fun h => h.no rfl, fun h => ⟨fun e => Bool.noConfusion e, fun _ => h⟩⟩
    rw [this]; exact hY
  · have : (fun K => boolK true (X K) (Y K)) = X := by funext K; exact propext ⟨fun h => h.yes rfl, fun h => ⟨fun _ => h, fun e => Bool.noConfusion e⟩⟩
    rw [this]; exact hX
end

section
variable {α : Type}
theorem Lin.side {p : Prop} {X : (α → Prop) → Prop} (h : Lin X) : Lin (fun K => sideK p (X K)) := fun K => by
  constructor
  · rintro ⟨hp, hx⟩
    obtain ⟨a, h1, h2⟩ := (h K).1 hx
    exact ⟨a, ⟨hp, h1⟩, h2⟩
  · rintro ⟨a, ⟨hp, h1⟩, h2⟩
    exact ⟨hp, (h K).2 ⟨a, h1, h2⟩⟩
theorem Lin.wrap {k : IntKind} {n : Int} {X : Int → (α → Prop) → Prop} (h : ∀ n, Lin (X n)) : Lin (fun K => wrapK k n fun n => X n K) := fun K => by
  constructor
  · rintro ⟨hx⟩
    obtain ⟨a, h1, h2⟩ := (h _ K).1 hx
    exact ⟨a, ⟨h1⟩, h2⟩
  · rintro ⟨a, ⟨h1⟩, h2⟩
    exact ⟨(h _ K).2 ⟨a, h1, h2⟩⟩
theorem Lin.conv {k : IntKind} {n : Int} {X : Int → (α → Prop) → Prop} (h : ∀ n, Lin (X n)) : Lin (fun K => convK k n fun n => X n K) := fun K => by
  constructor
  · rintro ⟨hx⟩
    obtain ⟨a, h1, h2⟩ := (h _ K).1 hx
    exact ⟨a, ⟨h1⟩, h2⟩
  · rintro ⟨a, ⟨h1⟩, h2⟩
    exact ⟨(h _ K).2 ⟨a, h1, h2⟩⟩
theorem Lin.bit {op : BinOp} {k : IntKind} {n m : Int} {X : Int → (α → Prop) → Prop} (h : ∀ n, Lin (X n)) : Lin (fun K => bitK op k n m fun n => X n K) := fun K => by
  constructor
  · rintro ⟨hx⟩
    obtain ⟨a, h1, h2⟩ := (h _ K).1 hx
    exact ⟨a, ⟨h1⟩, h2⟩
  · rintro ⟨a, ⟨h1⟩, h2⟩
    exact ⟨(h _ K).2 ⟨a, h1, h2⟩⟩
theorem Lin.shl {k : IntKind} {n m : Int} {X : Int → (α → Prop) → Prop} (h : ∀ n, Lin (X n)) : Lin (fun K => shlK k n m fun n => X n K) := fun K => by
  constructor
  · rintro ⟨hp, hx⟩
    obtain ⟨a, h1, h2⟩ := (h _ K).1 hx
    exact ⟨a, ⟨hp, h1⟩, h2⟩
  · rintro ⟨a, ⟨hp, h1⟩, h2⟩
    exact ⟨hp, (h _ K).2 ⟨a, h1, h2⟩⟩
theorem Lin.shr {k : IntKind} {n m : Int} {X : Int → (α → Prop) → Prop} (h : ∀ n, Lin (X n)) : Lin (fun K => shrK k n m fun n => X n K) := fun K => by
  constructor
  · rintro ⟨hp, hx⟩
    obtain ⟨a, h1, h2⟩ := (h _ K).1 hx
    exact ⟨a, ⟨hp, h1⟩, h2⟩
  · rintro ⟨a, ⟨hp, h1⟩, h2⟩
    exact ⟨hp, (h _ K).2 ⟨a, h1, h2⟩⟩
theorem Lin.quo {k : IntKind} {n m : Int} {X : Int → (α → Prop) → Prop} (h : ∀ n, Lin (X n)) : Lin (fun K => quoK k n m fun n => X n K) := fun K => by
  constructor
  · rintro ⟨hp, hx⟩
    obtain ⟨a, h1, h2⟩ := (h _ K).1 hx
    exact ⟨a, ⟨hp, h1⟩, h2⟩
  · rintro ⟨a, ⟨hp, h1⟩, h2⟩
    exact ⟨hp, (h _ K).2 ⟨a, h1, h2⟩⟩
theorem Lin.rem {n m : Int} {X : Int → (α → Prop) → Prop} (h : ∀ n, Lin (X n)) : Lin (fun K => remK n m fun n => X n K) := fun K => by
  constructor
  · rintro ⟨hp, hx⟩
    obtain ⟨a, h1, h2⟩ := (h _ K).1 hx
    exact ⟨a, ⟨hp, h1⟩, h2⟩
  · rintro ⟨a, ⟨hp, h1⟩, h2⟩
    exact ⟨hp, (h _ K).2 ⟨a, h1, h2⟩⟩
theorem Lin.nat {n : Int} {X : Nat → (α → Prop) → Prop} (h : ∀ n, Lin (X n)) : Lin (fun K => natK n fun n => X n K) := fun K => by
  constructor
  · rintro ⟨hx⟩
    obtain ⟨a, h1, h2⟩ := (h _ K).1 hx
    exact ⟨a, ⟨h1⟩, h2⟩
  · rintro ⟨a, ⟨h1⟩, h2⟩
    exact ⟨(h _ K).2 ⟨a, h1, h2⟩⟩
theorem Lin.cat {u v : List L} {X : List L → (α → Prop) → Prop} (h : ∀ n, Lin (X n)) : Lin (fun K => catK u v fun n => X n K) := fun K => by
  constructor
  · rintro ⟨hx⟩
    obtain ⟨a, h1, h2⟩ := (h _ K).1 hx
    exact ⟨a, ⟨h1⟩, h2⟩
  · rintro ⟨a, ⟨h1⟩, h2⟩
    exact ⟨(h _ K).2 ⟨a, h1, h2⟩⟩
theorem Lin.tak {u : List L} {n : Nat} {X : List L → (α → Prop) → Prop} (h : ∀ n, Lin (X n)) : Lin (fun K => takeC u n fun n => X n K) := fun K => by
  constructor
  · rintro ⟨hx⟩
    obtain ⟨a, h1, h2⟩ := (h _ K).1 hx
    exact ⟨a, ⟨h1⟩, h2⟩
  · rintro ⟨a, ⟨h1⟩, h2⟩
    exact ⟨(h _ K).2 ⟨a, h1, h2⟩⟩
theorem Lin.drp {u : List L} {n : Nat} {X : List L → (α → Prop) → Prop} (h : ∀ n, Lin (X n)) : Lin (fun K => dropC u n fun n => X n K) := fun K => by
  constructor
  · rintro ⟨hx⟩
    obtain ⟨a, h1, h2⟩ := (h _ K).1 hx
    exact ⟨a, ⟨h1⟩, h2⟩
  · rintro ⟨a, ⟨h1⟩, h2⟩
    exact ⟨(h _ K).2 ⟨a, h1, h2⟩⟩
theorem Lin.hI {k : IntKind} {cs : List L} {X : Int → List L → (α → Prop) → Prop} (h : ∀ n r, Lin (X n r)) : Lin (fun K => headI k cs fun n r => X n r K) := fun K => by
  constructor
  · rintro ⟨n, r, e, hx⟩
    obtain ⟨a, h1, h2⟩ := (h _ _ K).1 hx
    exact ⟨a, ⟨n, r, e, h1⟩, h2⟩
  · rintro ⟨a, ⟨n, r, e, h1⟩, h2⟩
    exact ⟨n, r, e, (h _ _ K).2 ⟨a, h1, h2⟩⟩
theorem Lin.hB {cs : List L} {X : Bool → List L → (α → Prop) → Prop} (h : ∀ n r, Lin (X n r)) : Lin (fun K => headB cs fun n r => X n r K) := fun K => by
  constructor
  · rintro ⟨n, r, e, hx⟩
    obtain ⟨a, h1, h2⟩ := (h _ _ K).1 hx
    exact ⟨a, ⟨n, r, e, h1⟩, h2⟩
  · rintro ⟨a, ⟨n, r, e, h1⟩, h2⟩
    exact ⟨n, r, e, (h _ _ K).2 ⟨a, h1, h2⟩⟩
theorem Lin.hS {cs : List L} {X : List UInt8 → List L → (α → Prop) → Prop} (h : ∀ n r, Lin (X n r)) : Lin (fun K => headS cs fun n r => X n r K) := fun K => by
  constructor
  · rintro ⟨n, r, e, hx⟩
    obtain ⟨a, h1, h2⟩ := (h _ _ K).1 hx
    exact ⟨a, ⟨n, r, e, h1⟩, h2⟩
  · rintro ⟨a, ⟨n, r, e, h1⟩, h2⟩
    exact ⟨n, r, e, (h _ _ K).2 ⟨a, h1, h2⟩⟩
theorem Lin.hV {cs : List L} {X : List L → Nat → List L → (α → Prop) → Prop} (h : ∀ x n r, Lin (X x n r)) : Lin (fun K => headV cs fun x n r => X x n r K) := fun K => by
  constructor
  · rintro ⟨x, n, r, e, hx⟩
    obtain ⟨a, h1, h2⟩ := (h _ _ _ K).1 hx
    exact ⟨a, ⟨x, n, r, e, h1⟩, h2⟩
  · rintro ⟨a, ⟨x, n, r, e, h1⟩, h2⟩
    exact ⟨x, n, r, e, (h _ _ _ K).2 ⟨a, h1, h2⟩⟩
theorem Lin.hX {cs : List L} {X : L → List L → (α → Prop) → Prop} (h : ∀ n r, Lin (X n r)) : Lin (fun K => headX cs fun n r => X n r K) := fun K => by
  constructor
  · rintro ⟨n, r, e, hx⟩
    obtain ⟨a, h1, h2⟩ := (h _ _ K).1 hx
    exact ⟨a, ⟨n, r, e, h1⟩, h2⟩
  · rintro ⟨a, ⟨n, r, e, h1⟩, h2⟩
    exact ⟨n, r, e, (h _ _ K).2 ⟨a, h1, h2⟩⟩
theorem Lin.bytes {cs : List L} {X : List UInt8 → (α → Prop) → Prop} (h : ∀ n, Lin (X n)) : Lin (fun K => bytesK cs fun n => X n K) := fun K => by
  constructor
  · rintro ⟨n, e, hx⟩
    obtain ⟨a, h1, h2⟩ := (h _ K).1 hx
    exact ⟨a, ⟨n, e, h1⟩, h2⟩
  · rintro ⟨a, ⟨n, e, h1⟩, h2⟩
    exact ⟨n, e, (h _ K).2 ⟨a, h1, h2⟩⟩
theorem Lin.call {F : FnT} {f : FuncId} {cs : List C} {bs : Bxs} {X : Res → Bxs → (α → Prop) → Prop} (h : ∀ n r, Lin (X n r)) : Lin (fun K => callK F f cs bs fun n r => X n r K) := fun K => by
  constructor
  · rintro ⟨n, r, e, hx⟩
    obtain ⟨a, h1, h2⟩ := (h _ _ K).1 hx
    exact ⟨a, ⟨n, r, e, h1⟩, h2⟩
  · rintro ⟨a, ⟨n, r, e, h1⟩, h2⟩
    exact ⟨n, r, e, (h _ _ K).2 ⟨a, h1, h2⟩⟩
theorem Lin.draw {p q : Bool} {X : (α → Prop) → Prop} (h : Lin X) : Lin (fun K => drawK p q (X K)) := fun K => by
  constructor
  · rintro ⟨hp, hx⟩
    obtain ⟨a, h1, h2⟩ := (h K).1 hx
    exact ⟨a, ⟨hp, h1⟩, h2⟩
  · rintro ⟨a, ⟨hp, h1⟩, h2⟩
    exact ⟨hp, (h K).2 ⟨a, h1, h2⟩⟩
end

theorem getK_lin (e : Env) (t : Nat) : Lin (getK e t) := by
  induction e with
  | nil => exact Lin.pure _
  | cons q r ih => exact Lin.of (Lin.bif (fun _ => Lin.pure q.2) fun _ => ih) fun _ => rfl

theorem lookK_lin (x : Bxs) (id : Nat) : Lin (lookK x id) := by
  induction x with
  | nil => exact Lin.ff
  | cons q r ih => exact Lin.of (Lin.bif (fun _ => Lin.pure q.2) fun _ => ih) fun _ => rfl

theorem leavesOfK_lin (vs : List Value) : Lin (leavesOfK vs) := by
  induction vs with
  | nil => exact Lin.pure _
  | cons v r ih => exact Lin.of (Lin.bind ih fun _ => Lin.pure _) fun _ => rfl

theorem constK_lin (v : Value) : Lin (constK v) := by
  cases v <;> first | exact Lin.pure _ | exact Lin.of (Lin.bind (leavesOfK_lin _) fun _ => Lin.pure _) fun _ => rfl

theorem operandK_lin (e : Env) (x : Operand) : Lin (operandK e x) := by
  cases x with
  | tmp t => exact getK_lin e t
  | const v => exact constK_lin v
  | func f => exact Lin.pure _
  | global g => exact Lin.pure _

theorem operandsK_lin (e : Env) (xs : List Operand) : Lin (operandsK e xs) := by
  induction xs with
  | nil => exact Lin.pure _
  | cons x r ih => exact Lin.of (Lin.bind (operandK_lin e x) fun _ => Lin.bind ih fun _ => Lin.pure _) fun _ => rfl

theorem cutK_lin (cs : List L) : ∀ off n, Lin (cutK cs off n) := by
  induction cs with
  | nil => intro off n; cases off <;> cases n <;> first | exact Lin.ff | exact Lin.pure _
  | cons c r ih =>
    intro off n
    cases off with
    | zero => cases n with
      | zero => exact Lin.pure _
      | succ n => exact Lin.of (Lin.bind (ih 0 n) fun _ => Lin.pure _) fun _ => rfl
    | succ o => exact ih o n

theorem putK_lin (cs : List L) : ∀ off ls, Lin (putK cs off ls) := by
  induction cs with
  | nil => intro off n; cases off <;> cases n <;> first | exact Lin.ff | exact Lin.pure _
  | cons c r ih =>
    intro off ls
    cases off with
    | zero => cases ls with
      | nil => exact Lin.pure _
      | cons l ls => exact Lin.of (Lin.bind (ih 0 ls) fun _ => Lin.pure _) fun _ => rfl
    | succ o => exact Lin.of (Lin.bind (ih o ls) fun _ => Lin.pure _) fun _ => rfl

theorem loadK_lin (zs : List L) : ∀ cs, Lin (loadK zs cs) := by
  induction zs with
  | nil => exact fun _ => Lin.pure _
  | cons z zs ih =>
    intro cs
    cases z <;> first
      | exact Lin.of (Lin.hI fun _ r => Lin.bind (ih r) fun _ => Lin.pure _) fun _ => rfl
      | exact Lin.of (Lin.hB fun _ r => Lin.bind (ih r) fun _ => Lin.pure _) fun _ => rfl
      | exact Lin.of (Lin.hS fun _ r => Lin.bind (ih r) fun _ => Lin.pure _) fun _ => rfl
      | exact Lin.of (Lin.hV fun _ _ r => Lin.bind (ih r) fun _ => Lin.pure _) fun _ => rfl
      | exact Lin.of (Lin.hX fun _ r => Lin.bind (ih r) fun _ => Lin.pure _) fun _ => rfl

theorem czK_lin (zs : List L) : Lin (czK zs) := by
  induction zs with
  | nil => exact Lin.pure _
  | cons z zs ih => exact Lin.of (Lin.bind ih fun _ => Lin.pure _) fun _ => rfl

theorem mkV_lin (agg : Bool) (ls : List L) : Lin (mkV agg ls) := by
  cases agg with
  | true => exact Lin.pure _
  | false =>
    match ls with
    | [l] => exact Lin.pure _
    | [] => exact Lin.ff
    | _ :: _ :: _ => exact Lin.ff

theorem leavesK_lin (v : V) : Lin (leavesK v) := by
  match v with
  | .c (.o l) => exact Lin.of (Lin.bif (fun _ => Lin.ff) fun _ => Lin.pure _) fun _ => rfl
  | .c (.a ls) => exact Lin.of (Lin.bif (fun _ => Lin.ff) fun _ => Lin.pure _) fun _ => rfl
  | .t _ => exact Lin.ff

section
variable {x : LK}

theorem closeK_lin (hx : ∀ id, Lin (x id)) (ls : List L) : Lin2 (closeK x ls) := by
  induction ls with
  | nil => exact Lin.pure ([], [])
  | cons l r ih =>
    cases l <;> first
      | exact Lin.ff
      | exact Lin.of (Lin.bind2 ih fun a b => Lin.pure (_, _)) fun _ => rfl
      | skip
    all_goals
      refine Lin.of (Lin.bind (hx _) fun bx => ?_) fun _ => rfl
      cases bx
      · exact Lin.ff
      · exact Lin.of (Lin.bif (fun _ => Lin.ff) fun _ => Lin.bind2 ih fun a b => Lin.pure (_, _)) fun _ => rfl
      · exact Lin.of (Lin.bind2 ih fun a b => Lin.pure (_, _)) fun _ => rfl

theorem intOp_lin (op : BinOp) (k : IntKind) (a b : Int) : Lin (intOp op k a b) := by
  cases op <;> first | exact Lin.ff | exact Lin.pure _ | exact Lin.of (Lin.wrap fun _ => Lin.pure _) fun _ => rfl | exact Lin.of (Lin.side (Lin.pure _)) fun _ => rfl | exact Lin.of (Lin.side (Lin.wrap fun _ => Lin.pure _)) fun _ => rfl | exact Lin.of (Lin.bit fun _ => Lin.pure _) fun _ => rfl | exact Lin.of (Lin.quo fun _ => Lin.pure _) fun _ => rfl | exact Lin.of (Lin.rem fun _ => Lin.pure _) fun _ => rfl

theorem shiftOp_lin (op : BinOp) (k : IntKind) (a b : Int) : Lin (shiftOp op k a b) := by
  cases op <;> first | exact Lin.ff | exact Lin.of (Lin.shl fun _ => Lin.pure _) fun _ => rfl | exact Lin.of (Lin.shr fun _ => Lin.pure _) fun _ => rfl

theorem strOp_lin (op : BinOp) (a b : List UInt8) : Lin (strOp op a b) := by
  cases op <;> first | exact Lin.ff | exact Lin.pure _ | exact Lin.of (Lin.wrap fun _ => Lin.pure _) fun _ => rfl | exact Lin.of (Lin.side (Lin.pure _)) fun _ => rfl | exact Lin.of (Lin.side (Lin.wrap fun _ => Lin.pure _)) fun _ => rfl | exact Lin.of (Lin.bit fun _ => Lin.pure _) fun _ => rfl | exact Lin.of (Lin.quo fun _ => Lin.pure _) fun _ => rfl | exact Lin.of (Lin.rem fun _ => Lin.pure _) fun _ => rfl

theorem boolOf_lin (l : L) : Lin (boolOf l) := by
  cases l <;> first | exact Lin.ff | exact Lin.pure _

theorem eqK_lin (zs : List L) : ∀ xs ys, Lin (eqK zs xs ys) := by
  induction zs with
  | nil =>
    intro xs ys
    cases xs <;> cases ys <;> first | exact Lin.ff | exact Lin.pure _
  | cons z zs ih =>
    intro xs ys
    match xs, ys with
    | [], _ => exact Lin.ff
    | _ :: _, [] => exact Lin.ff
    | l :: p, m :: q =>
      cases z <;> first | exact Lin.ff | skip
      · cases l <;> first | exact Lin.ff | skip
        cases m <;> first | exact Lin.ff | skip
        exact Lin.of (Lin.bif (fun _ => Lin.bind (ih p q) fun _ => Lin.pure _) fun _ => Lin.ff) fun _ => rfl
      · exact Lin.of (Lin.bind (boolOf_lin l) fun _ => Lin.bind (boolOf_lin m) fun _ => Lin.bind (ih p q) fun _ => Lin.pure _) fun _ => rfl
      · cases l <;> first | exact Lin.ff | skip
        cases m <;> first | exact Lin.ff | skip
        exact Lin.of (Lin.bind (ih p q) fun _ => Lin.pure _) fun _ => rfl

theorem boolSem_lin (ti : TI) (op : BinOp) (l m : L) : Lin (boolSem ti op l m) := by
  unfold boolSem
  cases ti.d <;> first | exact Lin.ff | skip
  cases op <;> first | exact Lin.ff | skip
  · exact Lin.of (Lin.bind (boolOf_lin l) fun _ => Lin.bind (boolOf_lin m) fun _ => Lin.pure _) fun _ => rfl
  · exact Lin.of (Lin.bind (boolOf_lin l) fun _ => Lin.bind (boolOf_lin m) fun _ => Lin.pure _) fun _ => rfl

theorem binSem_lin (ti : TI) (op : BinOp) (a b : V) : Lin (binSem ti op a b) := by
  match a, b with
  | .c (.o l), .c (.o m) =>
    cases l <;> try exact boolSem_lin ti op _ m
    · cases m <;> try exact Lin.ff
      rename_i k a k' b
      cases op <;> first
        | exact Lin.of (Lin.bif (c := kindEq k k') (fun _ => intOp_lin _ k a b) fun _ => Lin.ff) fun _ => rfl
        | exact Lin.of (shiftOp_lin .shl k a b) fun _ => rfl
        | exact Lin.of (shiftOp_lin .shr k a b) fun _ => rfl
    · cases m <;> try exact Lin.ff
      exact strOp_lin _ _ _
  | .c (.a xs), .c (.a ys) =>
    refine Lin.of (Lin.bif (fun _ => ?_) fun _ => Lin.ff) fun _ => rfl
    cases op <;> first | exact Lin.ff | exact Lin.of (Lin.bind (eqK_lin _ _ _) fun _ => Lin.pure _) fun _ => rfl
  | .c (.o _), .c (.a _) => exact Lin.ff
  | .c (.a _), .c (.o _) => exact Lin.ff
  | .c (.o _), .t _ => exact Lin.ff
  | .c (.a _), .t _ => exact Lin.ff
  | .t _, _ => exact Lin.ff

theorem bytesK_lin (cs : List L) : Lin (bytesK cs) := Lin.bytes fun l => Lin.pure l

theorem contentK_lin (hx : ∀ id, Lin (x id)) (l : L) : Lin2 (contentK x l) := by
  cases l <;> first | exact Lin.ff | exact Lin.pure (_, _) | skip
  all_goals
    refine Lin.of (Lin.bind (hx _) fun bx => ?_) fun _ => rfl
    cases bx <;> first | exact Lin.ff | exact Lin.pure (_, _) | exact Lin.of (Lin.drp fun _ => Lin.tak fun _ => Lin.pure (_, _)) fun _ => rfl

theorem offK_lin (n : Nat) (i : Int) : Lin (offK n i) := Lin.of (Lin.side (Lin.nat fun j => Lin.pure j)) fun _ => rfl

theorem fillK_lin (ps : List ((Nat × Nat) × V)) : ∀ zs, Lin (fillK ps zs) := by
  induction ps with
  | nil => exact fun zs => Lin.pure zs
  | cons q r ih =>
    intro zs
    show Lin fun K => leavesK q.2 fun ls => bif Nat.beq ls.length q.1.2 then putK zs q.1.1 ls fun zs' => fillK r zs' K else False
    exact Lin.bind (leavesK_lin q.2) fun ls => Lin.bif (fun _ => Lin.bind (putK_lin zs q.1.1 ls) fun _ => ih _) fun _ => Lin.ff

theorem zipK_lin (f : Nat → Nat × Nat) (ps : List (Nat × Operand)) : ∀ vs, Lin (zipK f ps vs) := by
  induction ps with
  | nil => intro vs; cases vs <;> first | exact Lin.ff | exact Lin.pure _
  | cons a r ih => intro vs; cases vs <;> first | exact Lin.ff | exact Lin.of (Lin.bind (ih _) fun _ => Lin.pure _) fun _ => rfl

theorem repK_lin (zs : List L) (n : Nat) : Lin (repK zs n) := by
  induction n with
  | zero => exact Lin.pure _
  | succ n ih => exact Lin.of (Lin.bind ih fun _ => Lin.pure _) fun _ => rfl

theorem nthK_lin (cs : List C) : ∀ n, Lin (nthK cs n) := by
  induction cs with
  | nil => exact fun _ => Lin.ff
  | cons c r ih => intro n; cases n <;> first | exact Lin.pure _ | exact ih _

theorem boundsK_lin (n : Nat) (lo hi : Option V) : Lin2 (boundsK n lo hi) := by
  unfold boundsK
  split <;> first | exact Lin.ff | exact Lin.pure (_, _) | exact Lin.of (Lin.side (Lin.nat fun _ => Lin.pure (_, _))) fun _ => rfl | exact Lin.of (Lin.side (Lin.nat fun _ => Lin.nat fun _ => Lin.pure (_, _))) fun _ => rfl

theorem argsK_lin (hx : ∀ id, Lin (x id)) (vs : List V) : ∀ j, Lin4 (argsK x vs j) := by
  induction vs with
  | nil => exact fun j => Lin.pure ([], [], [], [])
  | cons v r ih =>
    intro j
    match v with
    | .t _ => exact Lin.ff
    | .c (.a ls) => exact Lin.of (Lin.bind2 (closeK_lin hx ls) fun a b => Lin.bind4 (ih (j + 1)) fun c d e f => Lin.pure (_, _, _, _)) fun _ => rfl
    | .c (.o l) =>
      cases l <;> first
        | exact Lin.ff
        | exact Lin.of (Lin.bind4 (ih (j + 1)) fun c d e f => Lin.pure (_, _, _, _)) fun _ => rfl
        | skip
      · rename_i id n sz
        show Lin4 fun K => contentK x (.gw id n sz) fun c m' => argsK x r (j + 1) fun cs bs m rd => K (.o (.sl c m') :: cs) bs m (id :: rd)
        exact Lin.bind2 (contentK_lin hx (.gw id n sz)) fun a b => Lin.bind4 (ih (j + 1)) fun c d e f => Lin.pure (_, _, _, _)
      · rename_i id off n sz
        show Lin4 fun K => contentK x (.gs id off n sz) fun c m' => argsK x r (j + 1) fun cs bs m rd => K (.o (.sl c m') :: cs) bs m (id :: rd)
        exact Lin.bind2 (contentK_lin hx (.gs id off n sz)) fun a b => Lin.bind4 (ih (j + 1)) fun c d e f => Lin.pure (_, _, _, _)
      rename_i id off
      cases off with
      | succ n => exact Lin.ff
      | zero =>
        refine Lin.of (Lin.bind (hx id) fun bx => ?_) fun _ => rfl
        cases bx
        · exact Lin.of (Lin.bind2 (closeK_lin hx _) fun a b => Lin.bif (fun _ => Lin.ff) fun _ => Lin.bind4 (ih (j + 1)) fun c d e f => Lin.pure (_, _, _, _)) fun _ => rfl
        · exact Lin.of (Lin.bind4 (ih (j + 1)) fun c d e f => Lin.pure (_, _, _, _)) fun _ => rfl
        · exact Lin.ff

theorem resK_lin (dst : Nat) (rs : List R) : ∀ j, Lin2 (resK dst rs j) := by
  induction rs with
  | nil => exact fun j => Lin.pure ([], [])
  | cons r q ih => intro j; cases r <;> exact Lin.of (Lin.bind2 (ih (j + 1)) fun a b => Lin.pure (_, _)) fun _ => rfl

theorem fzK_lin (hx : ∀ id, Lin (x id)) (ids : List Nat) : Lin (fzK x ids) := by
  induction ids with
  | nil => exact Lin.pure _
  | cons id r ih =>
    refine Lin.of (Lin.bind (hx id) fun bx => ?_) fun _ => rfl
    cases bx
    · exact Lin.ff
    · exact Lin.of (Lin.bif (fun _ => Lin.ff) fun _ => Lin.bind ih fun _ => Lin.pure _) fun _ => rfl
    · exact Lin.of (Lin.bind ih fun _ => Lin.pure _) fun _ => rfl

theorem backK_lin (m : List (Nat × Nat)) (bs : Bxs) : Lin (backK m bs) := by
  induction bs with
  | nil => exact Lin.pure _
  | cons q r ih =>
    show Lin fun K => match assocN m q.1 with
      | some id' => backK m r fun ef => K ((id', some q.2) :: ef)
      | none => False
    cases assocN m q.1
    · exact Lin.ff
    · exact Lin.of (Lin.bind ih fun _ => Lin.pure _) fun _ => rfl

theorem resV_lin (res : Res) (cs : List C) : Lin (resV res cs) := by
  cases res with
  | tup _ => exact Lin.pure _
  | one _ =>
    match cs with
    | [c] => exact Lin.pure _
    | [] => exact Lin.ff
    | _ :: _ :: _ => exact Lin.ff

theorem callSem_lin (F : FnT) (f : FuncId) (dst : Nat) (vs : List V) (hx : ∀ id, Lin (x id)) : Lin2 (callSem F f dst vs x) :=
  Lin.bif (fun _ => Lin.ff) fun _ => Lin.bind4 (argsK_lin hx vs 0) fun _ _ _ _ => Lin.bif (fun _ => Lin.ff) fun _ => Lin.call fun _ _ =>
    Lin.bind (backK_lin _ _) fun _ => Lin.bind2 (resK_lin _ _ _) fun _ _ => Lin.bind (resV_lin _ _) fun _ =>
      Lin.bif (fun _ => Lin.bind (fzK_lin hx _) fun _ => Lin.pure (_, _)) fun _ => Lin.pure (_, _)

theorem srcK_lin (hx : ∀ id, Lin (x id)) (d : D) (y : V) : Lin2 (srcK x d y) := by
  match y with
  | .t _ => exact Lin.ff
  | .c (.a _) => exact Lin.ff
  | .c (.o l) =>
    cases d <;> first | exact Lin.ff | exact contentK_lin hx l | skip
    cases l <;> first | exact Lin.ff | exact Lin.pure (_, _)

theorem zeroAppend_lin (dst : Nat) (ti : TI) (s y : V) : Lin2 (zeroAppend dst ti s y) := by
  unfold zeroAppend
  split
  · exact Lin.of (Lin.side (Lin.bind (czK_lin _) fun _ => Lin.nat fun _ => Lin.pure (_, _))) fun _ => rfl
  · exact Lin.ff

theorem appendSem_lin (dst : Nat) (ti : TI) (hx : ∀ id, Lin (x id)) (d : D) (s y : V) : Lin2 (appendSem dst ti x d s y) := by
  refine Lin.of (Lin.bind2 (srcK_lin hx d y) fun ys m => ?_) fun _ => rfl
  match s with
  | .t _ => exact Lin.ff
  | .c (.a _) => exact Lin.ff
  | .c (.o l) =>
    cases l <;> first | exact Lin.ff | exact Lin.of (Lin.side (Lin.pure (_, _))) fun _ => rfl | skip
    all_goals
      refine Lin.of (Lin.bind (hx _) fun bx => ?_) fun _ => rfl
      cases bx <;> first | exact Lin.ff | exact Lin.of (Lin.bif (fun _ => Lin.ff) fun _ => Lin.side (Lin.cat fun _ => Lin.pure (_, _))) fun _ => rfl | exact Lin.of (Lin.bif (fun _ => Lin.ff) fun _ => Lin.side (Lin.drp fun _ => Lin.tak fun _ => Lin.cat fun _ => Lin.pure (_, _))) fun _ => rfl

theorem lenSem_lin (d : D) (v : V) : Lin (lenSem d v) := by
  match v with
  | .t _ => exact Lin.ff
  | .c (.a _) => exact Lin.ff
  | .c (.o l) => cases d <;> first | exact Lin.ff | (cases l <;> first | exact Lin.ff | exact Lin.pure _)

theorem cutLK_lin (l : List L) (lo hi : Option V) (a b sz : Nat) : Lin (cutLK l lo hi a b sz) := by
  cases lo <;> cases hi <;> first | exact Lin.pure _ | exact Lin.of (Lin.drp fun x => Lin.pure x) fun _ => rfl | exact Lin.of (Lin.tak fun x => Lin.pure x) fun _ => rfl | exact Lin.of (Lin.tak fun _ => Lin.drp fun x => Lin.pure x) fun _ => rfl

theorem sliceSem_lin (T : TypeId → TI) (t : TypeId) (s : V) (hx : ∀ id, Lin (x id)) (lo hi : Option V) : Lin (sliceSem T t s x lo hi) := by
  match s with
  | .t _ => exact Lin.ff
  | .c (.a _) => exact Lin.ff
  | .c (.o l) =>
    unfold sliceSem
    cases (T t).d <;> cases l <;> first
      | exact Lin.ff
      | exact Lin.of (Lin.bind2 (boundsK_lin _ _ _) fun _ _ => Lin.pure _) fun _ => rfl
      | exact Lin.of (Lin.side (Lin.bind2 (boundsK_lin _ _ _) fun _ _ => Lin.pure _)) fun _ => rfl
      | exact Lin.of (Lin.side (Lin.bind2 (boundsK_lin _ _ _) fun _ _ => Lin.bind (cutLK_lin _ _ _ _ _ _) fun _ => Lin.pure _)) fun _ => rfl
      | exact Lin.of (Lin.bif (fun _ => Lin.bind2 (boundsK_lin _ _ _) fun _ _ => Lin.pure _) fun _ => Lin.ff) fun _ => rfl
      | skip
    refine Lin.of (Lin.bind (hx _) fun bx => ?_) fun _ => rfl
    cases bx <;> first | exact Lin.ff | exact Lin.of (Lin.side (Lin.bind2 (boundsK_lin _ _ _) fun _ _ => Lin.pure _)) fun _ => rfl

theorem indexSem_lin (T : TypeId → TI) (t : TypeId) (a : V) (i : Int) : Lin (indexSem T t a i) := by
  match a with
  | .t _ => exact Lin.ff
  | .c (.a _) => exact Lin.ff
  | .c (.o l) =>
    unfold indexSem
    cases (T t).d <;> cases l <;> first
      | exact Lin.ff
      | exact Lin.of (Lin.bind (offK_lin _ _) fun _ => Lin.pure _) fun _ => rfl

theorem loadSem_lin (ti : TI) (a : V) (hx : ∀ id, Lin (x id)) : Lin (loadSem ti a x) := by
  refine Lin.of (Lin.bif (fun _ => Lin.ff) fun _ => ?_) fun _ => rfl
  match a with
  | .t _ => exact Lin.ff
  | .c (.a _) => exact Lin.ff
  | .c (.o l) =>
    cases l <;> first | exact Lin.ff | exact Lin.of (Lin.bind (loadK_lin _ _) fun _ => mkV_lin _ _) fun _ => rfl | skip
    refine Lin.of (Lin.bind (hx _) fun bx => ?_) fun _ => rfl
    cases bx <;> first | exact Lin.of (Lin.bind (cutK_lin _ _ _) fun _ => mkV_lin _ _) fun _ => rfl | exact Lin.of (Lin.bind (loadK_lin _ _) fun _ => mkV_lin _ _) fun _ => rfl

theorem storeSem_lin (ti : TI) (a v : V) (hx : ∀ id, Lin (x id)) : Lin (storeSem ti a v x) := by
  unfold storeSem
  split
  · refine Lin.of (Lin.bind (hx _) fun bx => Lin.bind (leavesK_lin v) fun ls => Lin.bif (fun _ => ?_) fun _ => Lin.ff) fun _ => rfl
    cases bx
    · exact Lin.of (Lin.bind (putK_lin _ _ _) fun _ => Lin.pure _) fun _ => rfl
    · exact Lin.of (Lin.bind2 (closeK_lin hx ls) fun _ _ => Lin.bif (fun _ => Lin.ff) fun _ => Lin.side (Lin.pure _)) fun _ => rfl
    · exact Lin.ff
  · exact Lin.ff

theorem convSem_lin (T : TypeId → TI) (s d : TypeId) (dst : Nat) (a : V) (hx : ∀ id, Lin (x id)) : Lin2 (convSem T s d dst a x) := by
  match a with
  | .t _ => exact Lin.ff
  | .c (.a _) => exact Lin.ff
  | .c (.o l) =>
    refine Lin.of (Lin.bif (fun _ => Lin.ff) fun _ => ?_) fun _ => rfl
    cases (T d).d <;> try exact Lin.ff
    · cases l <;> first | exact Lin.ff | exact Lin.of (Lin.conv fun _ => Lin.pure (_, _)) fun _ => rfl
    · have hc : ∀ l, Lin2 fun (K : V → Eff → Prop) => (match (T s).d with
          | .slice e => match (T e).d with
            | .int .u8 => contentK x l fun cs n => bytesK cs fun l => sideK (l.length = n) (K (.c (.o (.s l))) [])
            | _ => False
          | _ => False) := by
        intro l
        cases (T s).d <;> try exact Lin.ff
        rename_i e
        show Lin2 fun (K : V → Eff → Prop) => match (T e).d with
            | .int .u8 => contentK x l fun cs n => bytesK cs fun l => sideK (l.length = n) (K (.c (.o (.s l))) [])
            | _ => False
        cases (T e).d <;> try exact Lin.ff
        rename_i k
        cases k <;> try exact Lin.ff
        exact Lin.of (Lin.bind2 (contentK_lin hx l) fun _ _ => Lin.bind (bytesK_lin _) fun _ => Lin.side (Lin.pure (_, _))) fun _ => rfl
      cases l <;> first | exact hc _ | exact Lin.pure (_, _)
    · cases l <;> try exact Lin.ff
      rename_i e l
      show Lin2 fun (K : V → Eff → Prop) => match (T e).d with
        | .int .u8 => K (.c (.o (.gw dst l.length 1))) [(dst, some (.ar (l.map u8)))]
        | _ => False
      cases (T e).d <;> try exact Lin.ff
      rename_i k
      cases k <;> first | exact Lin.ff | exact Lin.pure (_, _)

theorem buildSem_lin (T : TypeId → TI) (t : TypeId) (ps : List (Nat × Operand)) (vs : List V) : Lin (buildSem T t ps vs) := by
  unfold buildSem
  cases (T t).d <;> try exact Lin.ff
  · exact Lin.of (Lin.bif (fun _ => Lin.ff) fun _ => Lin.bind (zipK_lin _ _ _) fun _ => Lin.bind (fillK_lin _ _) fun _ => Lin.pure _) fun _ => rfl
  · exact Lin.of (Lin.bind (zipK_lin _ _ _) fun _ => Lin.bind (fillK_lin _ _) fun _ => Lin.pure _) fun _ => rfl

theorem buildSliceSem_lin (T : TypeId → TI) (t : TypeId) (n dst : Nat) (ps : List (Nat × Operand)) (vs : List V) (hx : ∀ id, Lin (x id)) : Lin2 (buildSliceSem T t n dst ps vs x) := by
  unfold buildSliceSem
  cases (T t).d <;> try exact Lin.ff
  rename_i e
  refine Lin.of (Lin.bif (fun _ => Lin.ff) fun _ => Lin.bind (zipK_lin _ _ _) fun _ => Lin.bind (repK_lin _ _) fun _ => Lin.bind (fillK_lin _ _) fun ls => ?_) fun _ => rfl
  cases (T e).d <;> first
    | exact Lin.pure (_, _)
    | exact Lin.of (Lin.bind2 (closeK_lin hx ls) fun _ _ => Lin.pure (_, _)) fun _ => rfl

theorem callOpSem_lin (T : TypeId → TI) (F : FnT) (c : Call) (dst : Nat) (vs : List V) (hx : ∀ id, Lin (x id)) : Lin2 (callOpSem T F c dst vs x) := by
  unfold callOpSem
  split
  · split
    · exact callSem_lin F _ dst _ hx
    · exact Lin.ff
  · split
    · split
      · exact Lin.of (Lin.bind (lenSem_lin _ _) fun _ => Lin.pure (_, _)) fun _ => rfl
      · exact Lin.ff
    · exact Lin.ff
  · split
    · split
      · split
        · exact Lin.pure (_, _)
        · exact Lin.ff
      · exact Lin.ff
    · exact Lin.ff
  · split
    · split
      · split
        · split
          · exact zeroAppend_lin _ _ _ _
          · exact appendSem_lin _ _ hx _ _ _
        · exact Lin.ff
      · exact Lin.ff
    · exact Lin.ff
  · split
    · exact Lin.of (Lin.bif (fun _ => Lin.pure (_, _)) fun _ => Lin.ff) fun _ => rfl
    · exact Lin.ff
  · exact Lin.ff

theorem opSem_lin (T : TypeId → TI) (F : FnT) (op : Op) (dst : Nat) (vs : List V) (hx : ∀ id, Lin (x id)) : Lin2 (opSem T F op dst vs x) := by
  unfold opSem
  split
  · split
    · exact Lin.pure (_, _)
    · exact Lin.ff
  · split
    · exact Lin.pure (_, _)
    · exact Lin.ff
  · split
    · split
      · exact Lin.pure (_, _)
      · exact Lin.pure (_, _)
      · exact Lin.of (Lin.bool (Lin.pure (_, _)) (Lin.pure (_, _))) fun _ => rfl
      · exact Lin.ff
    · exact Lin.ff
  · split
    · exact Lin.of (Lin.bind (czK_lin _) fun _ => Lin.pure (_, _)) fun _ => rfl
    · exact Lin.ff
    · exact Lin.pure (_, _)
  · split
    · exact Lin.of (Lin.bind (leavesK_lin _) fun _ => Lin.pure (_, _)) fun _ => rfl
    · exact Lin.ff
  · exact Lin.of (Lin.bind (buildSem_lin _ _ _ _) fun _ => Lin.pure (_, _)) fun _ => rfl
  · exact buildSliceSem_lin _ _ _ _ _ _ hx
  · split
    · exact Lin.of (Lin.bind (loadSem_lin _ _ hx) fun _ => Lin.pure (_, _)) fun _ => rfl
    · exact Lin.ff
  · split
    · exact Lin.of (Lin.bind (storeSem_lin _ _ _ hx) fun _ => Lin.pure (_, _)) fun _ => rfl
    · exact Lin.ff
  · split
    · split
      · exact Lin.pure (_, _)
      · exact Lin.pure (_, _)
      · exact Lin.ff
    · exact Lin.ff
  · split
    · exact Lin.of (Lin.bind (binSem_lin _ _ _ _) fun _ => Lin.pure (_, _)) fun _ => rfl
    · exact Lin.ff
  · split
    · split <;> first | exact Lin.ff | exact Lin.pure (_, _) | exact Lin.of (Lin.wrap fun _ => Lin.pure (_, _)) fun _ => rfl
    · exact Lin.ff
  · split
    · exact convSem_lin _ _ _ _ _ hx
    · exact Lin.ff
  · split
    · split
      · exact Lin.of (Lin.side (Lin.bind (czK_lin _) fun _ => Lin.nat fun _ => Lin.pure (_, _))) fun _ => rfl
      · exact Lin.ff
    · exact Lin.ff
  · split <;> first | exact Lin.ff | exact Lin.of (Lin.bind (sliceSem_lin _ _ _ hx _ _) fun _ => Lin.pure (_, _)) fun _ => rfl
  · split
    · split
      · refine Lin.of (Lin.bif (fun _ => Lin.ff) fun _ => ?_) fun _ => rfl
        split <;> first | exact Lin.ff | exact Lin.pure (_, _)
      · exact Lin.ff
    · exact Lin.ff
  · split
    · split
      · exact Lin.of (Lin.bif (fun _ => Lin.ff) fun _ => Lin.bind (cutK_lin _ _ _) fun _ => Lin.bind (mkV_lin _ _) fun _ => Lin.pure (_, _)) fun _ => rfl
      · exact Lin.ff
    · exact Lin.ff
  · split
    · exact Lin.of (Lin.bind (indexSem_lin _ _ _ _) fun _ => Lin.pure (_, _)) fun _ => rfl
    · exact Lin.ff
  · split
    · split
      · exact Lin.of (Lin.bind (offK_lin _ _) fun _ => Lin.pure (_, _)) fun _ => rfl
      · exact Lin.ff
    · exact Lin.ff
  · split
    · exact Lin.of (Lin.bind (nthK_lin _ _) fun _ => Lin.pure (_, _)) fun _ => rfl
    · exact Lin.ff
  · exact callOpSem_lin _ _ _ _ _ hx
  · exact Lin.ff
end

theorem guardK_lin (all : List Oper) (e : Env) (g : Option (Nat × Bool)) : Lin2 (guardK all e g) := by
  match g with
  | none => exact Lin.pure (true, e)
  | some (j, w) =>
    refine Lin.of (Lin.bind (getK_lin e _) fun v => ?_) fun _ => rfl
    match v with
    | .t _ => exact Lin.ff
    | .c (.a _) => exact Lin.ff
    | .c (.o l) => cases l <;> first | exact Lin.ff | exact Lin.pure (_, _) | exact Lin.of (Lin.bool (Lin.pure (_, _)) (Lin.pure (_, _))) fun _ => rfl

theorem dropK_lin (x : Bxs) (t : Nat) : Lin (dropK x t) := by
  induction x with
  | nil => exact Lin.pure _
  | cons q r ih => exact Lin.of (Lin.bif (fun _ => ih) fun _ => Lin.bind ih fun _ => Lin.pure _) fun _ => rfl

theorem applyK_lin (ef : Eff) : ∀ x, Lin (applyK ef x) := by
  induction ef with
  | nil => exact fun x => Lin.pure x
  | cons q r ih =>
    intro x
    refine Lin.of (Lin.bind (ih x) fun y => Lin.bind (dropK_lin y q.1) fun z => ?_) fun _ => rfl
    obtain ⟨k, b⟩ := q
    cases b <;> exact Lin.pure _

theorem putEK_lin (e : Env) (d : Option Nat) (v : V) : Lin (putEK e d v) := by cases d <;> exact Lin.pure _

theorem opsK_lin (G : Par) (all ops : List Oper) : ∀ st inf, Lin2 (opsK G all ops st inf) := by
  induction ops with
  | nil => exact fun st inf => Lin.pure (st, inf)
  | cons o r ih =>
    intro st inf
    obtain ⟨e0, x0⟩ := st
    refine Lin.of (Lin.bif (fun _ => Lin.bind2 (guardK_lin all e0 o.guard) fun want e => ?_) fun _ => Lin.ff) fun _ => rfl
    cases want with
    | false => exact Lin.of (Lin.bind (putEK_lin e o.dst (.c (.o .u))) fun e' => ih ⟨e', x0⟩ _) fun _ => rfl
    | true => exact Lin.of (Lin.bind (operandsK_lin e _) fun vs => Lin.bind2 (opSem_lin G.T G.F o.op _ vs (lookK_lin x0)) fun v ef => Lin.bif (fun _ => Lin.ff) fun _ => Lin.bind (applyK_lin ef x0) fun x => Lin.bind (putEK_lin e o.dst v) fun e' => ih ⟨e', x⟩ _) fun _ => rfl

theorem liveK_lin (e : Env) (ts : List Nat) : Lin (liveK e ts) := by
  induction ts with
  | nil => exact Lin.pure _
  | cons t r ih => exact Lin.of (Lin.bind (getK_lin e t) fun _ => Lin.bind ih fun _ => Lin.pure _) fun _ => rfl

theorem fixK_lin (x : Bxs) (h : List (Nat × Nat)) (z : List Nat) (top : Bool) (l : L) : Lin (fixK x h z top l) := by
  cases l <;> try exact Lin.pure _
  all_goals
    unfold fixK
    simp only []
    split <;> try exact Lin.pure _
    split <;> first | exact Lin.pure _ | exact Lin.of (Lin.bif (fun _ => Lin.pure _) fun _ => Lin.pure _) fun _ => rfl

theorem fixLsK_lin (x : Bxs) (h : List (Nat × Nat)) (z : List Nat) (ls : List L) : Lin (fixLsK x h z ls) := by
  induction ls with
  | nil => exact Lin.pure _
  | cons l r ih => exact Lin.of (Lin.bind (fixK_lin x h z false l) fun _ => Lin.bind ih fun _ => Lin.pure _) fun _ => rfl

theorem fixVK_lin (x : Bxs) (h : List (Nat × Nat)) (z : List Nat) (v : V) : Lin (fixVK x h z v) := by
  match v with
  | .c (.o l) =>
    show Lin fun K => fixK x h z true l fun l' => K (V.c (C.o l'))
    exact Lin.bind (fixK_lin x h z true l) fun _ => Lin.pure _
  | .c (.a ls) => exact Lin.of (Lin.bind (fixLsK_lin x h z ls) fun _ => Lin.pure _) fun _ => rfl
  | .t _ => exact Lin.pure _

theorem fixEK_lin (x : Bxs) (h : List (Nat × Nat)) (z : List Nat) (e : Env) : Lin (fixEK x h z e) := by
  induction e with
  | nil => exact Lin.pure _
  | cons q r ih =>
    show Lin fun K => fixVK x h z q.2 fun v' => fixEK x h z r fun r' => K ((q.1, v') :: r')
    exact Lin.bind (fixVK_lin x h z q.2) fun _ => Lin.bind ih fun _ => Lin.pure _

theorem insK_lin (p : Nat × Bx) (x : Bxs) : Lin (insK p x) := by
  induction x with
  | nil => exact Lin.pure _
  | cons q r ih => exact Lin.of (Lin.bif (fun _ => Lin.pure _) fun _ => Lin.bind ih fun _ => Lin.pure _) fun _ => rfl

theorem fixXK_lin (x : Bxs) (h : List (Nat × Nat)) (z keep : List Nat) (y : Bxs) : Lin (fixXK x h z keep y) := by
  induction y with
  | nil => exact Lin.pure _
  | cons q r ih =>
    obtain ⟨id, b⟩ := q
    cases b with
    | st cs => exact Lin.of (Lin.bif (fun _ => Lin.bind (fixLsK_lin _ _ _ _) fun _ => Lin.bif (fun _ => Lin.ff) fun _ => Lin.bind ih fun _ => insK_lin _ _) fun _ => ih) fun _ => rfl
    | ar cs =>
      show Lin fun K => match assocN h id with
        | some t => fixXK x h z keep r fun r' => insK (t, .ar cs) r' K
        | none => bif z.elem id then fixXK x h z keep r K else bif isPar id || keep.elem id then fixXK x h z keep r fun r' => insK (id, .ar cs) r' K else fixXK x h z keep r K
      cases assocN h id
      · exact Lin.of (Lin.bif (fun _ => ih) fun _ => Lin.bif (fun _ => Lin.bind ih fun _ => insK_lin _ _) fun _ => ih) fun _ => rfl
      · exact Lin.of (Lin.bind ih fun _ => insK_lin _ _) fun _ => rfl
    | fz cs => exact ih

theorem canonK_lin (live mv : List Nat) (st : St) : Lin (canonK live mv st) :=
  Lin.of (Lin.bind (liveK_lin st.e live) fun e => Lin.bif (fun _ => Lin.ff) fun _ => Lin.bind (fixEK_lin st.x (heldBy mv e) (zOf st e) e) fun _ => Lin.bind (fixXK_lin st.x (heldBy mv e) (zOf st e) (idsE e ++ idsX st.x) st.x) fun _ => Lin.bif (fun _ => Lin.ff) fun _ => Lin.pure _) fun _ => rfl

end Go.Sx

/-
  An operation looks at no box but those that its operands name, and those that are named in the cells of a box whose address is handed over.
-/
namespace Go.Sx

section
variable {x x' : LK}

theorem closeK_loc (ls : List L) : (∀ id ∈ idsLs ls, x id = x' id) → closeK x ls = closeK x' ls := by
  induction ls with
  | nil => intro _; rfl
  | cons l r ih =>
    intro h
    have hr := ih fun id hid => h id (List.mem_append_right _ hid)
    funext K
    cases l <;> first
      | rfl
      | (show closeK x r _ = closeK x' r _; rw [hr])
      | skip
    · rename_i id n sz
      have h0 : x id = x' id := h id (List.mem_append_left _ (by simp [idsL]))
      show x id (fun bx => match bx with
        | .ar cs => bif isPar id then False else closeK x r fun ls ef => K (.sl cs n :: ls) ((id, some (.fz cs)) :: ef)
        | .fz cs => closeK x r fun ls ef => K (.sl cs n :: ls) ef
        | .st _ => False) = x' id (fun bx => match bx with
        | .ar cs => bif isPar id then False else closeK x' r fun ls ef => K (.sl cs n :: ls) ((id, some (.fz cs)) :: ef)
        | .fz cs => closeK x' r fun ls ef => K (.sl cs n :: ls) ef
        | .st _ => False)
      rw [h0, hr]
    · rename_i id off n sz
      have h0 : x id = x' id := h id (List.mem_append_left _ (by simp [idsL]))
      show x id (fun bx => match bx with
        | .ar cs => bif isPar id then False else closeK x r fun ls ef => K (.sl ((cs.drop off).take (n * sz)) n :: ls) ((id, some (.fz cs)) :: ef)
        | .fz cs => closeK x r fun ls ef => K (.sl ((cs.drop off).take (n * sz)) n :: ls) ef
        | .st _ => False) = x' id (fun bx => match bx with
        | .ar cs => bif isPar id then False else closeK x' r fun ls ef => K (.sl ((cs.drop off).take (n * sz)) n :: ls) ((id, some (.fz cs)) :: ef)
        | .fz cs => closeK x' r fun ls ef => K (.sl ((cs.drop off).take (n * sz)) n :: ls) ef
        | .st _ => False)
      rw [h0, hr]

theorem contentK_loc (l : L) (h : ∀ id ∈ idsL l, x id = x' id) : contentK x l = contentK x' l := by
  funext K
  cases l <;> first
    | rfl
    | (unfold contentK; simp only []; rw [h _ (by simp [idsL])])

theorem touch_own {m : Nat → Option Bx} {vs : List V} {v : V} {id : Nat} (hv : v ∈ vs) (hid : id ∈ idsV v) : id ∈ touch m vs :=
  List.mem_flatMap.2 ⟨id, List.mem_flatMap.2 ⟨v, hv, hid⟩, List.mem_cons_self ..⟩

theorem touch_cell {m : Nat → Option Bx} {vs : List V} {v : V} {id id' : Nat} {cs : List L} (hv : v ∈ vs) (hid : id ∈ idsV v) (hm : m id = some (.st cs)) (h : id' ∈ idsLs cs) : id' ∈ touch m vs :=
  List.mem_flatMap.2 ⟨id, List.mem_flatMap.2 ⟨v, hv, hid⟩, List.mem_cons_of_mem _ (by simp only [hm]; exact h)⟩

end

section
variable {m m' : Nat → Option Bx}

theorem lkm_eq {id : Nat} (h : m id = m' id) : lkm m id = lkm m' id := by funext K; simp only [lkm, h]

def Same (m m' : Nat → Option Bx) (vs : List V) : Prop := ∀ id ∈ touch m vs, m id = m' id

theorem Same.own {vs : List V} (h : Same m m' vs) {v : V} (hv : v ∈ vs) : ∀ id ∈ idsV v, lkm m id = lkm m' id := fun id hid => lkm_eq (h id (touch_own hv hid))

theorem Same.leaves {vs : List V} (h : Same m m' vs) {v : V} (hv : v ∈ vs) {K : List L → Prop} (hk : leavesK v K) : ∃ ls, K ls ∧ ∀ id ∈ idsLs ls, lkm m id = lkm m' id := by
  match v, hk, hv with
  | .c (.o l), hk, hv =>
    unfold leavesK at hk
    cases hu : isU l with
    | true => simp [hu] at hk
    | false =>
      simp only [hu, cond_false] at hk
      exact ⟨[l], hk, fun id hid => h.own hv id (by simpa [idsLs, idsV, idsC] using hid)⟩
  | .c (.a ls), hk, hv =>
    unfold leavesK at hk
    cases hu : ls.any isU with
    | true => simp [hu] at hk
    | false =>
      simp only [hu, cond_false] at hk
      exact ⟨ls, hk, fun id hid => h.own hv id (by simpa [idsV, idsC] using hid)⟩
  | .t _, hk, _ => exact hk.elim

theorem lkm_lin (m : Nat → Option Bx) (id : Nat) : Lin (lkm m id) := Lin.ex fun bx => Lin.and fun _ => Lin.pure bx

theorem closeK_ids {x : LK} (hx : ∀ id, Lin (x id)) (ls : List L) : ∀ K, closeK x ls K → closeK x ls fun ls' ef => (∀ id ∈ ef.map (fun q : Nat × Option Bx => q.1), id ∈ idsLs ls) ∧ K ls' ef := by
  induction ls with
  | nil => exact fun K h => ⟨by simp, h⟩
  | cons l r ih =>
    intro K h
    have plain : ∀ (f : List L → List L), closeK x r (fun ls ef => K (f ls) ef) → closeK x r fun ls ef => (∀ id ∈ ef.map (fun q : Nat × Option Bx => q.1), id ∈ idsLs (l :: r)) ∧ K (f ls) ef := fun f h =>
      Lin.mono (K := fun p : List L × Eff => (∀ id ∈ p.2.map (fun q : Nat × Option Bx => q.1), id ∈ idsLs r) ∧ K (f p.1) p.2) (K' := fun p => (∀ id ∈ p.2.map (fun q : Nat × Option Bx => q.1), id ∈ idsLs (l :: r)) ∧ K (f p.1) p.2) (closeK_lin hx r) (fun p hp => ⟨fun id hid => List.mem_append_right _ (hp.1 id hid), hp.2⟩) (ih _ h)
    have frz : ∀ (f : List L → List L) (id : Nat) (b : Option Bx), id ∈ idsL l → closeK x r (fun ls ef => K (f ls) ((id, b) :: ef)) → closeK x r fun ls ef => (∀ i ∈ ((id, b) :: ef).map (fun q : Nat × Option Bx => q.1), i ∈ idsLs (l :: r)) ∧ K (f ls) ((id, b) :: ef) := fun f id b hid h =>
      Lin.mono (K := fun p : List L × Eff => (∀ id ∈ p.2.map (fun q : Nat × Option Bx => q.1), id ∈ idsLs r) ∧ K (f p.1) ((id, b) :: p.2)) (K' := fun p => (∀ i ∈ ((id, b) :: p.2).map (fun q : Nat × Option Bx => q.1), i ∈ idsLs (l :: r)) ∧ K (f p.1) ((id, b) :: p.2)) (closeK_lin hx r) (fun p hp => ⟨fun i hi => by
        rw [List.map_cons, List.mem_cons] at hi
        rcases hi with rfl | hi
        · exact List.mem_append_left _ hid
        · exact List.mem_append_right _ (hp.1 i hi), hp.2⟩) (ih _ h)
    cases l <;> first
      | exact h.elim
      | exact plain _ h
      | skip
    · rename_i id n sz
      refine Lin.mono (K := fun bx => match bx with
        | .ar cs => bif isPar id then False else closeK x r fun ls ef => K (.sl cs n :: ls) ((id, some (.fz cs)) :: ef)
        | .fz cs => closeK x r fun ls ef => K (.sl cs n :: ls) ef
        | .st _ => False) (K' := fun bx => match bx with
        | .ar cs => bif isPar id then False else closeK x r fun ls ef => (∀ i ∈ ((id, some (.fz cs)) :: ef).map (fun q : Nat × Option Bx => q.1), i ∈ idsLs (.gw id n sz :: r)) ∧ K (.sl cs n :: ls) ((id, some (.fz cs)) :: ef)
        | .fz cs => closeK x r fun ls ef => (∀ i ∈ ef.map (fun q : Nat × Option Bx => q.1), i ∈ idsLs (.gw id n sz :: r)) ∧ K (.sl cs n :: ls) ef
        | .st _ => False) (hx id) (fun bx hb => ?_) h
      cases bx with
      | st _ => exact hb.elim
      | fz cs => exact plain _ hb
      | ar cs =>
        simp only at hb ⊢
        cases hp : isPar id with
        | true => simp [hp] at hb
        | false => simp only [hp, _root_.cond_false] at hb ⊢; exact frz _ id _ (by simp [idsL]) hb
    · rename_i id off n sz
      refine Lin.mono (K := fun bx => match bx with
        | .ar cs => bif isPar id then False else closeK x r fun ls ef => K (.sl ((cs.drop off).take (n * sz)) n :: ls) ((id, some (.fz cs)) :: ef)
        | .fz cs => closeK x r fun ls ef => K (.sl ((cs.drop off).take (n * sz)) n :: ls) ef
        | .st _ => False) (K' := fun bx => match bx with
        | .ar cs => bif isPar id then False else closeK x r fun ls ef => (∀ i ∈ ((id, some (.fz cs)) :: ef).map (fun q : Nat × Option Bx => q.1), i ∈ idsLs (.gs id off n sz :: r)) ∧ K (.sl ((cs.drop off).take (n * sz)) n :: ls) ((id, some (.fz cs)) :: ef)
        | .fz cs => closeK x r fun ls ef => (∀ i ∈ ef.map (fun q : Nat × Option Bx => q.1), i ∈ idsLs (.gs id off n sz :: r)) ∧ K (.sl ((cs.drop off).take (n * sz)) n :: ls) ef
        | .st _ => False) (hx id) (fun bx hb => ?_) h
      cases bx with
      | st _ => exact hb.elim
      | fz cs => exact plain _ hb
      | ar cs =>
        simp only at hb ⊢
        cases hp : isPar id with
        | true => simp [hp] at hb
        | false => simp only [hp, _root_.cond_false] at hb ⊢; exact frz _ id _ (by simp [idsL]) hb

theorem argsK_loc (vs : List V) : ∀ (j : Nat) (all : List V), (∀ v ∈ vs, v ∈ all) → Same m m' all → ∀ K K' : List C → Bxs → List (Nat × Nat) → List Nat → Prop, (∀ cs bs mm rd, (∀ id ∈ rd, lkm m id = lkm m' id) → K cs bs mm rd → K' cs bs mm rd) → argsK (lkm m) vs j K → argsK (lkm m') vs j K' := by
  induction vs with
  | nil => exact fun j all _ _ K K' hk h => hk _ _ _ _ (by simp) h
  | cons v r ih =>
    intro j all hin hs K K' hk h
    have hv := hin v (List.mem_cons_self ..)
    have ih' := fun j => ih j all (fun v hv => hin v (List.mem_cons_of_mem _ hv)) hs
    match v, hv, h with
    | .t _, _, h => exact h.elim
    | .c (.a ls), hv, h =>
      have hown : ∀ id ∈ idsLs ls, lkm m id = lkm m' id := fun id hid => hs.own hv id (by simpa [idsV, idsC] using hid)
      have hc : closeK (lkm m) ls = closeK (lkm m') ls := closeK_loc ls hown
      change closeK (lkm m) ls (fun ls' ef => argsK (lkm m) r (j + 1) fun cs bs mm rd => K (.a ls' :: cs) bs mm (ef.map (·.1) ++ rd)) at h
      change closeK (lkm m') ls (fun ls' ef => argsK (lkm m') r (j + 1) fun cs bs mm rd => K' (.a ls' :: cs) bs mm (ef.map (·.1) ++ rd))
      rw [hc] at h
      refine Lin.mono (K := fun p : List L × Eff => (∀ id ∈ p.2.map (fun q : Nat × Option Bx => q.1), id ∈ idsLs ls) ∧ argsK (lkm m) r (j + 1) fun cs bs mm rd => K (.a p.1 :: cs) bs mm (p.2.map (·.1) ++ rd)) (K' := fun p => argsK (lkm m') r (j + 1) fun cs bs mm rd => K' (.a p.1 :: cs) bs mm (p.2.map (·.1) ++ rd)) (closeK_lin (lkm_lin m') ls) (fun p hp => ih' (j + 1) _ _ (fun cs bs mm rd h1 h2 => hk _ _ _ _ (fun id hid => ?_) h2) hp.2) (closeK_ids (lkm_lin m') ls _ h)
      rcases List.mem_append.1 hid with h3 | h3
      · exact hown id (hp.1 id h3)
      · exact h1 id h3
    | .c (.o l), hv, h =>
      cases l <;> first
        | exact h.elim
        | exact ih' (j + 1) _ _ (fun cs bs mm rd h1 h2 => hk _ _ _ _ h1 h2) h
        | skip
      · rename_i id n sz
        have h0 := hs.own hv id (by simp [idsV, idsC, idsL])
        have hc : contentK (lkm m) (.gw id n sz) = contentK (lkm m') (.gw id n sz) := contentK_loc _ fun i hi => by simp [idsL] at hi; subst hi; exact h0
        change contentK (lkm m) (.gw id n sz) (fun c m0 => argsK (lkm m) r (j + 1) fun cs bs mm rd => K (.o (.sl c m0) :: cs) bs mm (id :: rd)) at h
        change contentK (lkm m') (.gw id n sz) (fun c m0 => argsK (lkm m') r (j + 1) fun cs bs mm rd => K' (.o (.sl c m0) :: cs) bs mm (id :: rd))
        rw [hc] at h
        exact Lin.mono (K := fun p : List L × Nat => argsK (lkm m) r (j + 1) fun cs bs mm rd => K (.o (.sl p.1 p.2) :: cs) bs mm (id :: rd)) (K' := fun p => argsK (lkm m') r (j + 1) fun cs bs mm rd => K' (.o (.sl p.1 p.2) :: cs) bs mm (id :: rd)) (contentK_lin (lkm_lin m') (.gw id n sz)) (fun p hp => ih' (j + 1) _ _ (fun cs bs mm rd h1 h2 => hk _ _ _ _ (fun i hi => by
          rcases List.mem_cons.1 hi with rfl | hi
          · exact h0
          · exact h1 i hi) h2) hp) h
      · rename_i id off n sz
        have h0 := hs.own hv id (by simp [idsV, idsC, idsL])
        have hc : contentK (lkm m) (.gs id off n sz) = contentK (lkm m') (.gs id off n sz) := contentK_loc _ fun i hi => by simp [idsL] at hi; subst hi; exact h0
        change contentK (lkm m) (.gs id off n sz) (fun c m0 => argsK (lkm m) r (j + 1) fun cs bs mm rd => K (.o (.sl c m0) :: cs) bs mm (id :: rd)) at h
        change contentK (lkm m') (.gs id off n sz) (fun c m0 => argsK (lkm m') r (j + 1) fun cs bs mm rd => K' (.o (.sl c m0) :: cs) bs mm (id :: rd))
        rw [hc] at h
        exact Lin.mono (K := fun p : List L × Nat => argsK (lkm m) r (j + 1) fun cs bs mm rd => K (.o (.sl p.1 p.2) :: cs) bs mm (id :: rd)) (K' := fun p => argsK (lkm m') r (j + 1) fun cs bs mm rd => K' (.o (.sl p.1 p.2) :: cs) bs mm (id :: rd)) (contentK_lin (lkm_lin m') (.gs id off n sz)) (fun p hp => ih' (j + 1) _ _ (fun cs bs mm rd h1 h2 => hk _ _ _ _ (fun i hi => by
          rcases List.mem_cons.1 hi with rfl | hi
          · exact h0
          · exact h1 i hi) h2) hp) h
      · rename_i id off
        cases off with
        | succ n => exact h.elim
        | zero =>
          obtain ⟨bx, hb, h⟩ := h
          have h0 := hs id (touch_own hv (by simp [idsV, idsC, idsL]))
          refine ⟨bx, by rw [← h0]; exact hb, ?_⟩
          cases bx with
          | fz cs => exact h.elim
          | ar cl => exact ih' (j + 1) _ _ (fun cs bs mm rd h1 h2 => hk _ _ _ _ h1 h2) h
          | st cl =>
            have hc : closeK (lkm m) cl = closeK (lkm m') cl := closeK_loc cl fun i hi => lkm_eq (hs i (touch_cell hv (by simp [idsV, idsC, idsL]) hb hi))
            simp only at h ⊢
            rw [hc] at h
            refine Lin.mono (K := fun p : List L × Eff => bif !p.2.isEmpty then False else argsK (lkm m) r (j + 1) fun cs bs mm rd => K (.o (.p (1000 + j) 0) :: cs) ((1000 + j, .st p.1) :: bs) ((1000 + j, id) :: mm) rd) (K' := fun p : List L × Eff => bif !p.2.isEmpty then False else argsK (lkm m') r (j + 1) fun cs bs mm rd => K' (.o (.p (1000 + j) 0) :: cs) ((1000 + j, .st p.1) :: bs) ((1000 + j, id) :: mm) rd) (closeK_lin (lkm_lin m') cl) (fun p hp => ?_) h
            cases he : p.2.isEmpty with
            | false => simp [he] at hp
            | true => simp only [he, Bool.not_true, _root_.cond_false] at hp ⊢; exact ih' (j + 1) _ _ (fun cs bs mm rd h1 h2 => hk _ _ _ _ h1 h2) hp

theorem fzK_loc (ids : List Nat) : (∀ id ∈ ids, lkm m id = lkm m' id) → fzK (lkm m) ids = fzK (lkm m') ids := by
  induction ids with
  | nil => intro _; rfl
  | cons id r ih =>
    intro h
    have hr := ih fun i hi => h i (List.mem_cons_of_mem _ hi)
    have h0 := h id (List.mem_cons_self ..)
    funext K
    show lkm m id (fun bx => match bx with
      | .ar cs => bif isPar id then False else fzK (lkm m) r fun ef => K ((id, some (.fz cs)) :: ef)
      | .fz _ => fzK (lkm m) r fun ef => K ef
      | .st _ => False) = lkm m' id (fun bx => match bx with
      | .ar cs => bif isPar id then False else fzK (lkm m') r fun ef => K ((id, some (.fz cs)) :: ef)
      | .fz _ => fzK (lkm m') r fun ef => K ef
      | .st _ => False)
    rw [h0, hr]

theorem callSem_loc {F : FnT} {f : FuncId} {dst : Nat} {vs all : List V} (hin : ∀ v ∈ vs, v ∈ all) (hs : Same m m' all) {K : V → Eff → Prop} (h : callSem F f dst vs (lkm m) K) : callSem F f dst vs (lkm m') K := by
  unfold callSem at h ⊢
  cases hb : Nat.ble 900 vs.length with
  | true => simp [hb] at h
  | false =>
    simp only [hb, _root_.cond_false] at h ⊢
    refine argsK_loc vs 0 all hin hs _ _ (fun cs bs mm rd h1 h2 => ?_) h
    rw [fzK_loc rd h1] at h2
    exact h2

theorem srcK_loc {d : D} {y : V} {all : List V} (hin : y ∈ all) (hs : Same m m' all) : srcK (lkm m) d y = srcK (lkm m') d y := by
  funext K
  match y, hin with
  | .t _, _ => rfl
  | .c (.a _), _ => rfl
  | .c (.o l), hin =>
    cases d <;> first | rfl | skip
    show contentK (lkm m) l K = contentK (lkm m') l K
    rw [contentK_loc l fun id hid => hs.own hin id (by simpa [idsV, idsC] using hid)]

theorem appendSem_loc {dst : Nat} {ti : TI} {d : D} {s y : V} {all : List V} (h1 : s ∈ all) (h2 : y ∈ all) (hs : Same m m' all) : appendSem dst ti (lkm m) d s y = appendSem dst ti (lkm m') d s y := by
  funext K
  unfold appendSem
  rw [srcK_loc h2 hs]
  congr 1
  funext ys n
  match s, h1 with
  | .t _, _ => rfl
  | .c (.a _), _ => rfl
  | .c (.o l), h1 =>
    cases l <;> first | rfl | (simp only []; rw [hs.own h1 _ (by simp [idsV, idsC, idsL])])

theorem sliceSem_loc {T : TypeId → TI} {t : TypeId} {s : V} {lo hi : Option V} {all : List V} (h1 : s ∈ all) (hs : Same m m' all) : sliceSem T t s (lkm m) lo hi = sliceSem T t s (lkm m') lo hi := by
  funext K
  match s, h1 with
  | .t _, _ => rfl
  | .c (.a _), _ => rfl
  | .c (.o l), h1 =>
    unfold sliceSem
    cases (T t).d <;> cases l <;> first | rfl | (simp only []; rw [hs.own h1 _ (by simp [idsV, idsC, idsL])])

theorem loadSem_loc {ti : TI} {a : V} {all : List V} (h1 : a ∈ all) (hs : Same m m' all) : loadSem ti a (lkm m) = loadSem ti a (lkm m') := by
  funext K
  unfold loadSem
  match a, h1 with
  | .t _, _ => rfl
  | .c (.a _), _ => rfl
  | .c (.o l), h1 =>
    cases l <;> first | rfl | (simp only []; rw [hs.own h1 _ (by simp [idsV, idsC, idsL])])

theorem storeSem_loc {ti : TI} {a v : V} {all : List V} (h1 : a ∈ all) (h2 : v ∈ all) (hs : Same m m' all) {K : Eff → Prop} (h : storeSem ti a v (lkm m) K) : storeSem ti a v (lkm m') K := by
  unfold storeSem at h ⊢
  split
  · rename_i id off
    simp only at h
    have h0 := hs.own h1 id (by simp [idsV, idsC, idsL])
    rw [h0] at h
    refine Lin.mono (lkm_lin m' id) (fun bx hb => ?_) h
    obtain ⟨ls, hb', hi⟩ := hs.leaves h2 hb
    have : closeK (lkm m) ls = closeK (lkm m') ls := closeK_loc ls hi
    rw [this] at hb'
    match v, hb, hb' with
    | .c (.o l), hb, _ =>
      unfold leavesK at hb ⊢
      cases hu : isU l with
      | true => simp [hu] at hb
      | false =>
        simp only [hu, _root_.cond_false] at hb ⊢
        have : closeK (lkm m) [l] = closeK (lkm m') [l] := closeK_loc _ fun i hi => hs.own h2 i (by simpa [idsLs, idsV, idsC] using hi)
        rw [this] at hb
        exact hb
    | .c (.a ls), hb, _ =>
      unfold leavesK at hb ⊢
      cases hu : ls.any isU with
      | true => simp [hu] at hb
      | false =>
        simp only [hu, _root_.cond_false] at hb ⊢
        have : closeK (lkm m) ls = closeK (lkm m') ls := closeK_loc _ fun i hi => hs.own h2 i (by simpa [idsV, idsC] using hi)
        rw [this] at hb
        exact hb
    | .t _, hb, _ => exact hb.elim
  · rename_i hne
    split at h
    · rename_i id off; exact absurd rfl (hne id off)
    · exact h

theorem convSem_loc {T : TypeId → TI} {s d : TypeId} {dst : Nat} {a : V} {all : List V} (h1 : a ∈ all) (hs : Same m m' all) : convSem T s d dst a (lkm m) = convSem T s d dst a (lkm m') := by
  funext K
  unfold convSem
  match a, h1 with
  | .t _, _ => rfl
  | .c (.a _), _ => rfl
  | .c (.o l), h1 =>
    have hc : contentK (lkm m) l = contentK (lkm m') l := contentK_loc l fun id hid => hs.own h1 id (by simpa [idsV, idsC] using hid)
    simp only []
    cases l <;> first | rfl | simp only [hc]

theorem idsLs_put (cs : List L) (off : Nat) (ls : List L) : ∀ id ∈ idsLs (putAt cs off ls), id ∈ idsLs cs ∨ id ∈ idsLs ls := by
  have mem : ∀ (l : List L) (id : Nat), id ∈ idsLs l ↔ ∃ q ∈ l, id ∈ idsL q := by
    intro l id
    induction l with
    | nil => simp [idsLs]
    | cons a r ih => simp [idsLs, ih]
  intro id hid
  rw [mem] at hid
  obtain ⟨q, hq, hid⟩ := hid
  simp only [putAt, List.mem_append] at hq
  rcases hq with (hq | hq) | hq
  · left; rw [mem]; exact ⟨q, List.mem_of_mem_take hq, hid⟩
  · right; rw [mem]; exact ⟨q, hq, hid⟩
  · left; rw [mem]; exact ⟨q, List.mem_of_mem_drop hq, hid⟩

theorem fillK_ids (l : List ((Nat × Nat) × V)) : ∀ (zs ls : List L), fillK l zs (fun a => a = ls) → ∀ id ∈ idsLs ls, id ∈ idsLs zs ∨ ∃ q ∈ l, id ∈ idsV q.2 := by
  induction l with
  | nil => intro zs ls h id hid; have : zs = ls := h; subst this; exact .inl hid
  | cons q r ih =>
    intro zs ls h id hid
    have h : leavesK q.2 fun ls' => bif Nat.beq ls'.length q.1.2 then putK zs q.1.1 ls' fun zs' => fillK r zs' fun a => a = ls else False := h
    obtain ⟨ls', h1, h2⟩ := (leavesK_lin q.2 _).1 h
    cases hb : Nat.beq ls'.length q.1.2 with
    | false => simp [hb] at h2
    | true =>
      simp only [hb, _root_.cond_true] at h2
      obtain ⟨_, h2⟩ := (putK_iff _ _ _ _).1 h2
      rcases ih _ _ h2 id hid with h3 | ⟨q', h3, h4⟩
      · rcases idsLs_put _ _ _ id h3 with h4 | h4
        · exact .inl h4
        · refine .inr ⟨q, List.mem_cons_self .., ?_⟩
          revert h1
          match q.2 with
          | .c (.o a) =>
            intro h1
            unfold leavesK at h1
            cases hu : isU a with
            | true => simp [hu] at h1
            | false => simp only [hu, _root_.cond_false] at h1; rw [← h1] at h4; simpa [idsLs, idsV, idsC] using h4
          | .c (.a a) =>
            intro h1
            unfold leavesK at h1
            cases hu : a.any isU with
            | true => simp [hu] at h1
            | false => simp only [hu, _root_.cond_false] at h1; rw [← h1] at h4; simpa [idsV, idsC] using h4
          | .t _ => exact fun h1 => h1.elim
      · exact .inr ⟨q', List.mem_cons_of_mem _ h3, h4⟩

theorem idsLs_rep (zs : List L) (h : idsLs zs = []) : ∀ n, idsLs (rep zs n) = [] := by
  have app : ∀ a b : List L, idsLs (a ++ b) = idsLs a ++ idsLs b := by
    intro a b
    induction a with
    | nil => rfl
    | cons x r ih => simp [idsLs, ih]
  intro n
  induction n with
  | zero => rfl
  | succ n ih => simp [rep, app, h, ih]

theorem buildSliceSem_loc {T : TypeId → TI} (hz : ∀ t e, (T t).d = .slice e → idsLs (T e).zero = []) {t : TypeId} {n dst : Nat} {ps : List (Nat × Operand)} {vs : List V} (hs : Same m m' vs) {K : V → Eff → Prop} (h : buildSliceSem T t n dst ps vs (lkm m) K) : buildSliceSem T t n dst ps vs (lkm m') K := by
  unfold buildSliceSem at h ⊢
  cases hd : (T t).d <;> simp only [hd] at h ⊢
  rename_i e
  cases hb : Nat.ble (n * (T e).size) 16777216 with
  | false => simp [hb] at h
  | true =>
    simp only [hb, Bool.not_true, _root_.cond_false] at h ⊢
    obtain ⟨l, h1, h2⟩ := (zipK_lin _ ps vs _).1 h
    refine (zipK_lin _ ps vs _).2 ⟨l, h1, ?_⟩
    obtain ⟨_, hl⟩ := zipK_elim _ _ _ _ h1
    rw [repK_eq] at h2 ⊢
    obtain ⟨ls, h3, h4⟩ := (fillK_lin l _ _).1 h2
    refine (fillK_lin l _ _).2 ⟨ls, h3, ?_⟩
    have hids : ∀ id ∈ idsLs ls, lkm m id = lkm m' id := by
      intro id hid
      rcases fillK_ids _ _ _ h3 id hid with h5 | ⟨q, h5, h6⟩
      · rw [idsLs_rep _ (hz t e hd)] at h5; cases h5
      · rw [← hl] at h5
        obtain ⟨q', h7, rfl⟩ := List.mem_map.1 h5
        exact hs.own (List.of_mem_zip h7).2 id h6
    rw [closeK_loc ls hids] at h4
    exact h4

theorem opSem_loc {T : TypeId → TI} (hz : ∀ t e, (T t).d = .slice e → idsLs (T e).zero = []) {F : FnT} {op : Op} {dst : Nat} {vs : List V} (hs : Same m m' vs) {K : V → Eff → Prop} (h : opSem T F op dst vs (lkm m) K) : opSem T F op dst vs (lkm m') K := by
  cases op <;> first
    | exact h
    | exact buildSliceSem_loc hz hs h
    | skip
  case load t a =>
    match vs, h, hs with
    | [a], h, hs =>
      change loadSem (T t) a (lkm m) _ at h
      change loadSem (T t) a (lkm m') _
      rwa [← loadSem_loc (List.mem_singleton.2 rfl) hs]
  case store t a v =>
    match vs, h, hs with
    | [a, v], h, hs => exact storeSem_loc (all := [a, v]) (by simp) (by simp) hs h
  case convert s d a =>
    match vs, h, hs with
    | [a], h, hs =>
      change convSem T s d dst a (lkm m) K at h
      change convSem T s d dst a (lkm m') K
      rwa [← convSem_loc (List.mem_singleton.2 rfl) hs]
  case slice t a lo hi mx =>
    cases mx with
    | some _ => exact h
    | none =>
      have key : ∀ (s : V) (lo hi : Option V), s ∈ vs → sliceSem T t s (lkm m) lo hi = sliceSem T t s (lkm m') lo hi := fun s lo hi hin => sliceSem_loc hin hs
      cases lo with
      | none => cases hi with
        | none =>
          match vs, h, key with
          | [s], h, key =>
            change sliceSem T t s (lkm m) none none (fun v => K v []) at h
            change sliceSem T t s (lkm m') none none (fun v => K v [])
            rwa [← key _ _ _ (by simp)]
        | some _ =>
          match vs, h, key with
          | [s, .c (.o (.i k b))], h, key =>
            change sliceSem T t s (lkm m) none (some (.c (.o (.i k b)))) (fun v => K v []) at h
            change sliceSem T t s (lkm m') none (some (.c (.o (.i k b)))) (fun v => K v [])
            rwa [← key _ _ _ (by simp)]
      | some _ => cases hi with
        | none =>
          match vs, h, key with
          | [s, .c (.o (.i k b))], h, key =>
            change sliceSem T t s (lkm m) (some (.c (.o (.i k b)))) none (fun v => K v []) at h
            change sliceSem T t s (lkm m') (some (.c (.o (.i k b)))) none (fun v => K v [])
            rwa [← key _ _ _ (by simp)]
        | some _ =>
          match vs, h, key with
          | [s, .c (.o (.i k a)), .c (.o (.i k' b))], h, key =>
            change sliceSem T t s (lkm m) (some (.c (.o (.i k a)))) (some (.c (.o (.i k' b)))) (fun v => K v []) at h
            change sliceSem T t s (lkm m') (some (.c (.o (.i k a)))) (some (.c (.o (.i k' b)))) (fun v => K v [])
            rwa [← key _ _ _ (by simp)]
  case call c =>
    obtain ⟨callee, args, ats⟩ := c
    cases callee with
    | invoke r n => exact h.elim
    | value f =>
      cases f <;> first
        | exact h.elim
        | (match vs, h, hs with
          | v :: vs, h, hs => exact callSem_loc (fun v hv => List.mem_cons_of_mem _ hv) hs h)
    | builtin b =>
      by_cases hb : b = .append
      · subst hb
        match vs, h, hs with
        | [s, y], h, hs =>
          have key : ∀ d e, appendSem dst (T e) (lkm m) d s y K → appendSem dst (T e) (lkm m') d s y K := fun d e h => by rwa [← appendSem_loc (by simp) (by simp) hs]
          change (match ats.toList with
            | [t, u] => match (T t).d with
              | .slice e => match (T u).d with
                | .int _ => zeroAppend dst (T e) s y K
                | d => appendSem dst (T e) (lkm m) d s y K
              | _ => False
            | _ => False) at h
          change (match ats.toList with
            | [t, u] => match (T t).d with
              | .slice e => match (T u).d with
                | .int _ => zeroAppend dst (T e) s y K
                | d => appendSem dst (T e) (lkm m') d s y K
              | _ => False
            | _ => False)
          match ats.toList, h with
          | [t, u], h =>
            simp only at h ⊢
            generalize (T t).d = td at h
            cases td <;> first | exact h.elim | skip
            simp only at h ⊢
            generalize (T u).d = ud at h
            cases ud <;> first | exact h | exact key _ _ h
      · cases b <;> first | exact h | exact absurd rfl hb

end
end Go.Sx

/-
  Regions whose order is drawn: the text's order shows what comes out of every order.
-/
namespace Go.Sx

/-- whoever reads as v reads as v' too -/
def Eqv (v v' : V) : Prop := ∀ (B : Nat → Prop) (w : World) (μ : Mu) (u : Value), RelV B w μ v u → RelV B w μ v' u

theorem Eqv.refl (v : V) : Eqv v v := fun _ _ _ _ h => h
theorem Eqv.trans {a b c : V} (h : Eqv a b) (k : Eqv b c) : Eqv a c := fun B w μ u hu => k B w μ u (h B w μ u hu)

structure Ev where
  want : Bool
  e' : Env
  vs : List V
  v : V
  ef : Eff

def dd (o : Oper) : Nat := o.dst.getD 99998

/-- what the text's order shows of one operation: eB, mB: the slots and the boxes ahead of it -/
structure Fact (G : Par) (all : List Oper) (o : Oper) (ev : Ev) (eB : Nat → V) (mB : Nat → Option Bx) (inf : List Nat × List Nat) : Prop where
  dst : dstOk G.N o.dst = true
  none : o.guard = none → ev.want = true
  some : ∀ j b, o.guard = some (j, b) → ∀ B w μ u, RelV B w μ (eB (dstOf all j)) u → ∃ t, u = .bool t ∧ ev.want = (t == b)
  env : ∀ t, Eqv (eB t) (lookE ev.e' t)
  op : ev.want = true → ev.vs = o.op.operands.toList.map (operandV ev.e') ∧ opSem G.T G.F o.op (dd o) ev.vs (lkm mB) (fun v ef => v = ev.v ∧ ef = ev.ef) ∧
    (∀ q ∈ ev.ef, (mB q.1).isSome = true ∨ (creates o.op = true ∧ q.1 % 10000 = dd o % 10000)) ∧ inf = (touch mB ev.vs ++ ev.ef.map (·.1), ev.ef.map (·.1))
  skip : ev.want = false → ev.v = .c (.o .u) ∧ ev.ef = [] ∧ inf = ([], [])

def over {κ β : Type} (b : κ → β) (u : κ → Option β) : κ → β := fun k => (u k).getD (b k)
def preF {κ β : Type} : List (κ → Option β) → (κ → β) → κ → β
  | [], b => b
  | u :: us, b => preF us (over b u)

def upE (o : Oper) (ev : Ev) : Nat → Option V := fun t => if o.dst = some t then some ev.v else none
def effL : Eff → Nat → Option (Option Bx)
  | [], _ => none
  | (k, b) :: r, id => if k = id then some b else effL r id
def upM (ev : Ev) : Nat → Option (Option Bx) := effL ev.ef

theorem applyF_eq (m : Nat → Option Bx) (ef : Eff) : applyF m ef = over m (effL ef) := by
  funext id
  induction ef with
  | nil => rfl
  | cons q r ih =>
    obtain ⟨k, b⟩ := q
    unfold applyF over effL
    by_cases h : k = id
    · simp [h]
    · simp only [h, if_false]; exact ih

theorem effL_none {ef : Eff} {id : Nat} (h : id ∉ ef.map (·.1)) : effL ef id = none := by
  induction ef with
  | nil => rfl
  | cons q r ih =>
    obtain ⟨k, b⟩ := q
    simp only [List.map_cons, List.mem_cons, not_or] at h
    simp [effL, Ne.symm h.1, ih h.2]

theorem effL_mem {ef : Eff} {id : Nat} {b : Option Bx} (h : effL ef id = some b) : id ∈ ef.map (·.1) := by
  by_cases hm : id ∈ ef.map (·.1)
  · exact hm
  · rw [effL_none hm] at h; cases h

def upEs : List Oper → List Ev → List (Nat → Option V)
  | o :: os, ev :: evs => upE o ev :: upEs os evs
  | _, _ => []
def upMs : List Ev → List (Nat → Option (Option Bx)) := List.map upM

theorem guard_out {all : List Oper} {e e' : Env} {g : Option (Nat × Bool)} {want : Bool} (h : guardK all e g fun w e => w = want ∧ e = e') :
    (g = none → want = true) ∧ (∀ j b, g = some (j, b) → ∀ B w μ u, RelV B w μ (lookE e (dstOf all j)) u → ∃ t, u = .bool t ∧ want = (t == b)) ∧ ∀ t, Eqv (lookE e t) (lookE e' t) := by
  match g, h with
  | none, h =>
    obtain ⟨rfl, rfl⟩ := h
    exact ⟨fun _ => rfl, (by intro j b h; cases h), fun t => Eqv.refl _⟩
  | some (j, b), h =>
    have h : getK e (dstOf all j) _ := h
    rw [getK_eq] at h
    refine ⟨(by intro h; cases h), ?_⟩
    generalize hv : lookE e (dstOf all j) = v at h
    have fin : (∀ (B : Nat → Prop) (w : World) (μ : Mu) (u : Value), RelV B w μ v u → ∃ t, u = .bool t ∧ want = (t == b)) → (∀ t, Eqv (lookE e t) (lookE e' t)) →
        (∀ j' b', some (j, b) = some (j', b') → ∀ (B : Nat → Prop) (w : World) (μ : Mu) (u : Value), RelV B w μ (lookE e (dstOf all j')) u → ∃ t, u = .bool t ∧ want = (t == b')) ∧ ∀ t, Eqv (lookE e t) (lookE e' t) := by
      intro h1 h2
      refine ⟨fun j' b' hj => ?_, h2⟩
      cases hj
      rw [hv]; exact h1
    match v, h with
    | .t _, h => exact h.elim
    | .c (.a _), h => exact h.elim
    | .c (.o l), h =>
      cases l <;> first | exact h.elim | skip
      · rename_i x
        cases x with
        | true =>
          obtain ⟨rfl, rfl⟩ := h.1 rfl
          refine fin (fun B w μ u hu => ?_) (fun t => ?_)
          · have hu : RelL B w μ (.b true) u := hu
            cases hu; exact ⟨true, rfl, by cases b <;> rfl⟩
          · rw [lookE_cons]
            split
            · rename_i ht; subst ht; rw [hv]
              intro B w μ u hu
              have hu : RelL B w μ (.b true) u := hu
              cases hu; exact RelL.tt
            · exact Eqv.refl _
        | false =>
          obtain ⟨rfl, rfl⟩ := h.2 rfl
          refine fin (fun B w μ u hu => ?_) (fun t => ?_)
          · have hu : RelL B w μ (.b false) u := hu
            cases hu; exact ⟨false, rfl, by cases b <;> rfl⟩
          · rw [lookE_cons]
            split
            · rename_i ht; subst ht; rw [hv]
              intro B w μ u hu
              have hu : RelL B w μ (.b false) u := hu
              cases hu; exact RelL.ff
            · exact Eqv.refl _
      · obtain ⟨rfl, rfl⟩ := h
        refine fin (fun B w μ u hu => ?_) (fun t => Eqv.refl _)
        have hu : RelL B w μ .tt u := hu
        cases hu; exact ⟨true, rfl, by cases b <;> rfl⟩
      · obtain ⟨rfl, rfl⟩ := h
        refine fin (fun B w μ u hu => ?_) (fun t => Eqv.refl _)
        have hu : RelL B w μ .ff u := hu
        cases hu; exact ⟨false, rfl, by cases b <;> rfl⟩

theorem lookE_put (e : Env) (d : Option Nat) (v : V) (t : Nat) : lookE (putE e d v) t = if d = some t then v else lookE e t := by
  cases d with
  | none => simp [putE]
  | some d => simp [putE, lookE_cons]

/-- the text's order, event by event -/
theorem ops_trace {G : Par} {all : List Oper} (ops : List Oper) : ∀ (st : St) (inf : Info) (K : St → Info → Prop) (eB : Nat → V), (∀ t, Eqv (eB t) (lookE st.e t)) → opsK G all ops st inf K →
    ∃ (evs : List Ev) (new : Info) (st' : St), K st' (new.reverse ++ inf) ∧ evs.length = ops.length ∧ new.length = ops.length ∧
      (∀ (i : Nat) o ev n, ops[i]? = some o → evs[i]? = some ev → new[i]? = some n → Fact G all o ev (preF ((upEs ops evs).take i) eB) (preF ((upMs evs).take i) (boxOf st.x)) n) ∧
      (∀ t, Eqv (preF (upEs ops evs) eB t) (lookE st'.e t)) ∧ boxOf st'.x = preF (upMs evs) (boxOf st.x) := by
  induction ops with
  | nil => exact fun st inf K eB he h => ⟨[], [], st, h, rfl, rfl, by simp, he, rfl⟩
  | cons o r ih =>
    intro st inf K eB he h
    rw [opsK_cons] at h
    cases hd : dstOk G.N o.dst with
    | false => rw [hd] at h; exact h.elim
    | true =>
      rw [hd] at h
      obtain ⟨⟨want, e'⟩, hg, h⟩ := (guardK_lin all st.e o.guard (fun p => match p.1 with
        | true => operandsK p.2 o.op.operands.toList fun vs => opSem G.T G.F o.op (o.dst.getD 99998) vs (lookK st.x) fun v ef =>
            bif !efOk (creates o.op) st.x (o.dst.getD 99998) ef then False else applyK ef st.x fun x => opsK G all r ⟨putE p.2 o.dst v, x⟩ ((touch (boxOf st.x) vs ++ ef.map (·.1), ef.map (·.1)) :: inf) K
        | false => opsK G all r ⟨putE p.2 o.dst (.c (.o .u)), st.x⟩ (([], []) :: inf) K)).1 h
      have hg : guardK all st.e o.guard fun w e => w = want ∧ e = e' := Lin.mono (X := fun K' : Bool × Env → Prop => guardK all st.e o.guard fun a b => K' (a, b)) (guardK_lin all st.e o.guard) (K := fun p => p = (want, e')) (K' := fun p => p.1 = want ∧ p.2 = e') (fun p hp => by subst hp; exact ⟨rfl, rfl⟩) hg
      obtain ⟨g1, g2, g3⟩ := guard_out hg
      have henv : ∀ t, Eqv (eB t) (lookE e' t) := fun t => (he t).trans (g3 t)
      have go : ∀ (ev : Ev) (n : List Nat × List Nat) (x' : Bxs), ev.want = want → ev.e' = e' → (∀ id, boxOf x' id = applyF (boxOf st.x) ev.ef id) →
          opsK G all r ⟨putE e' o.dst ev.v, x'⟩ (n :: inf) K → Fact G all o ev eB (boxOf st.x) n →
          ∃ (evs : List Ev) (new : Info) (st' : St), K st' (new.reverse ++ inf) ∧ evs.length = (o :: r).length ∧ new.length = (o :: r).length ∧
            (∀ (i : Nat) o' ev n, (o :: r)[i]? = some o' → evs[i]? = some ev → new[i]? = some n → Fact G all o' ev (preF ((upEs (o :: r) evs).take i) eB) (preF ((upMs evs).take i) (boxOf st.x)) n) ∧
            (∀ t, Eqv (preF (upEs (o :: r) evs) eB t) (lookE st'.e t)) ∧ boxOf st'.x = preF (upMs evs) (boxOf st.x) := by
        intro ev n x' _ he' hx' hk hf
        have hbase : ∀ t, Eqv (over eB (upE o ev) t) (lookE (putE e' o.dst ev.v) t) := by
          intro t
          rw [lookE_put]
          unfold over upE
          by_cases ht : o.dst = some t
          · simp [ht]; exact Eqv.refl _
          · simp only [ht, if_false, Option.getD_none]; exact henv t
        have hx2 : boxOf x' = over (boxOf st.x) (upM ev) := by
          funext id
          rw [hx' id, applyF_eq]; rfl
        obtain ⟨evs, new, st', k1, k2, k3, k4, k5, k6⟩ := ih ⟨putE e' o.dst ev.v, x'⟩ (n :: inf) K _ hbase hk
        refine ⟨ev :: evs, n :: new, st', ?_, by simp [k2], by simp [k3], ?_, ?_, ?_⟩
        · simpa using k1
        · intro i o' ev' n' h1 h2 h3
          cases i with
          | zero =>
            simp only [List.getElem?_cons_zero, Option.some.injEq] at h1 h2 h3
            subst h1; subst h2; subst h3
            exact hf
          | succ i =>
            simp only [List.getElem?_cons_succ] at h1 h2 h3
            have := k4 i o' ev' n' h1 h2 h3
            simp only [hx2] at this
            exact this
        · exact k5
        · rw [k6, hx2]; rfl
      cases want with
      | false =>
        exact go ⟨false, e', [], .c (.o .u), []⟩ ([], []) st.x rfl rfl (fun id => rfl) h ⟨hd, fun hn => g1 hn, fun j b hj B w μ u hu => g2 j b hj B w μ u (he _ B w μ u hu), henv, fun hc => (by cases hc), fun _ => ⟨rfl, rfl, rfl⟩⟩
      | true =>
        simp only [operandsK_eq, lookK_eq] at h
        obtain ⟨⟨v, ef⟩, ho, h⟩ := (opSem_lin G.T G.F o.op (o.dst.getD 99998) (o.op.operands.toList.map (operandV e')) (lkm_lin (boxOf st.x)) (fun p =>
            bif !efOk (creates o.op) st.x (o.dst.getD 99998) p.2 then False else applyK p.2 st.x fun x => opsK G all r ⟨putE e' o.dst p.1, x⟩ ((touch (boxOf st.x) (o.op.operands.toList.map (operandV e')) ++ p.2.map (·.1), p.2.map (·.1)) :: inf) K)).1 h
        simp only at h
        have ho : opSem G.T G.F o.op (dd o) (o.op.operands.toList.map (operandV e')) (lkm (boxOf st.x)) fun v' ef' => v' = v ∧ ef' = ef :=
          Lin.mono (X := fun K' : V × Eff → Prop => opSem G.T G.F o.op (o.dst.getD 99998) (o.op.operands.toList.map (operandV e')) (lkm (boxOf st.x)) fun a b => K' (a, b)) (opSem_lin G.T G.F o.op _ _ (lkm_lin (boxOf st.x))) (K := fun p => p = (v, ef)) (K' := fun p => p.1 = v ∧ p.2 = ef) (fun p hp => by subst hp; exact ⟨rfl, rfl⟩) ho
        cases hef : efOk (creates o.op) st.x (o.dst.getD 99998) ef with
        | false => simp only [hef] at h; exact h.elim
        | true =>
          simp only [hef, Bool.not_true, _root_.cond_false] at h
          obtain ⟨y, hy, h⟩ := applyK_elim _ _ _ h
          refine go ⟨true, e', _, v, ef⟩ _ y rfl rfl hy h ⟨hd, fun hn => rfl, fun j b hj B w μ u hu => g2 j b hj B w μ u (he _ B w μ u hu), henv, fun _ => ⟨rfl, ho, fun q hq => ?_, rfl⟩, fun hc => (by cases hc)⟩
          have := List.all_eq_true.1 hef q hq
          simp only [Bool.or_eq_true, Bool.and_eq_true] at this
          rcases this with h1 | h1
          · exact .inl h1
          · exact .inr ⟨h1.1, Nat.eq_of_beq_eq_true h1.2⟩

end Go.Sx

/-
  Regions whose order is drawn: every order.
-/
namespace Go.Sx

section
variable {κ β : Type}

def foldS (S : Nat → Bool) : List (κ → Option β) → Nat → (κ → β) → κ → β
  | [], _, b => b
  | u :: us, i, b => foldS S us (i + 1) (if S i then over b u else b)

theorem foldS_congr {S S' : Nat → Bool} {k : κ} (us : List (κ → Option β)) : ∀ (i : Nat) (b b' : κ → β), b k = b' k → (∀ (j : Nat) u, us[j]? = some u → u k ≠ none → S (i + j) = S' (i + j)) → foldS S us i b k = foldS S' us i b' k := by
  induction us with
  | nil => exact fun i b b' h _ => h
  | cons u us ih =>
    intro i b b' hb h
    refine ih (i + 1) _ _ ?_ fun j u' h1 h2 => ?_
    · have h0 := h 0 u rfl
      cases hu : u k with
      | none =>
        have e1 : over b u k = b k := by simp [over, hu]
        have e2 : over b' u k = b' k := by simp [over, hu]
        by_cases s1 : S i = true <;> by_cases s2 : S' i = true <;> simp [s1, s2, e1, e2, hb]
      | some x =>
        have h0 := h0 (by simp [hu])
        simp only [Nat.add_zero] at h0
        rw [h0]
        by_cases s2 : S' i = true
        · simp [s2, over, hu]
        · simp [s2, hb]
    · have := h (j + 1) u' (by simpa using h1) h2
      rwa [show i + (j + 1) = i + 1 + j by omega] at this

theorem foldS_all {S : Nat → Bool} (us : List (κ → Option β)) : ∀ (i : Nat) (b : κ → β), (∀ j, j < us.length → S (i + j) = true) → foldS S us i b = preF us b := by
  induction us with
  | nil => exact fun i b _ => rfl
  | cons u us ih =>
    intro i b h
    have h0 := h 0 (by simp)
    simp only [Nat.add_zero] at h0
    show foldS S us (i + 1) (if S i then over b u else b) = preF us (over b u)
    rw [h0, if_pos rfl]
    exact ih _ _ fun j hj => by
      have := h (j + 1) (by simp; omega)
      rwa [show i + (j + 1) = i + 1 + j by omega] at this

theorem foldS_none {S : Nat → Bool} (us : List (κ → Option β)) : ∀ (i : Nat) (b : κ → β), (∀ j, j < us.length → S (i + j) = false) → foldS S us i b = b := by
  induction us with
  | nil => exact fun i b _ => rfl
  | cons u us ih =>
    intro i b h
    have h0 := h 0 (by simp)
    simp only [Nat.add_zero] at h0
    show foldS S us (i + 1) (if S i then over b u else b) = b
    rw [h0, if_neg (by simp)]
    exact ih _ _ fun j hj => by
      have := h (j + 1) (by simp; omega)
      rwa [show i + (j + 1) = i + 1 + j by omega] at this

theorem foldS_lt (us : List (κ → Option β)) : ∀ (n i : Nat) (b : κ → β), foldS (fun j => decide (j < i + n)) us i b = preF (us.take n) b := by
  induction us with
  | nil => intro n i b; simp [foldS, preF]
  | cons u us ih =>
    intro n i b
    cases n with
    | zero =>
      rw [foldS_none _ _ _ (fun j _ => by simp)]
      simp [preF]
    | succ n =>
      show foldS _ us (i + 1) (if decide (i < i + (n + 1)) then over b u else b) = preF (us.take n) (over b u)
      rw [if_pos (by simp)]
      have := ih n (i + 1) (over b u)
      rwa [show i + 1 + n = i + (n + 1) by omega] at this

theorem foldS_last {S : Nat → Bool} {k : κ} {x : β} (us : List (κ → Option β)) : ∀ (j0 i : Nat) (b : κ → β) (u : κ → Option β), us[j0]? = some u → u k = some x → S (i + j0) = true → (∀ (j : Nat) u', j0 < j → us[j]? = some u' → u' k ≠ none → S (i + j) = false) → foldS S us i b k = x := by
  induction us with
  | nil => intro j0 i b u h; simp at h
  | cons u us ih =>
    intro j0 i b u0 h1 h2 h3 h4
    cases j0 with
    | zero =>
      simp only [List.getElem?_cons_zero, Option.some.injEq] at h1
      subst h1
      simp only [Nat.add_zero] at h3
      show foldS S us (i + 1) (if S i then over b u else b) k = x
      rw [h3, if_pos rfl]
      have : foldS S us (i + 1) (over b u) k = foldS (fun _ => false) us (i + 1) (over b u) k := foldS_congr us _ _ _ rfl fun j u' g1 g2 => by
        have := h4 (j + 1) u' (by omega) (by simpa using g1) g2
        rw [show i + 1 + j = i + (j + 1) by omega]; exact this
      rw [this, foldS_none us _ _ fun _ _ => rfl]
      simp [over, h2]
    | succ j0 =>
      refine ih j0 (i + 1) _ u0 (by simpa using h1) h2 (by rw [show i + 1 + j0 = i + (j0 + 1) by omega]; exact h3) fun j u' g0 g1 g2 => ?_
      have := h4 (j + 1) u' (by omega) (by simpa using g1) g2
      rw [show i + 1 + j = i + (j + 1) by omega]; exact this

end

theorem pairsB_spec {ρ : Type} {f : ρ → ρ → Bool} (rs : List ρ) : ∀ (E : List (Nat × ρ)) (j0 : Nat) (ms : List Nat), pairsB f E j0 ms rs = true →
    (∀ (p : Nat × ρ) (j : Nat) rj, p ∈ E → rs[j]? = some rj → (nthN ms j).testBit p.1 = true ∨ f p.2 rj = true) ∧
    (∀ (i j : Nat) ri rj, i < j → rs[i]? = some ri → rs[j]? = some rj → (nthN ms j).testBit (j0 + i) = true ∨ f ri rj = true) := by
  induction rs with
  | nil => intro E j0 ms _; simp
  | cons r rs ih =>
    intro E j0 ms h
    match ms, h with
    | [], h => cases h
    | m :: ms, h =>
      simp only [pairsB, Bool.and_eq_true] at h
      obtain ⟨h1, h2⟩ := h
      obtain ⟨k1, k2⟩ := ih _ _ _ h2
      have hall := List.all_eq_true.1 h1
      refine ⟨fun p j rj hp hj => ?_, fun i j ri rj hij hi hj => ?_⟩
      · cases j with
        | zero =>
          simp only [List.getElem?_cons_zero, Option.some.injEq] at hj
          subst hj
          have := hall p hp
          simpa [nthN] using this
        | succ j => exact k1 p j rj (List.mem_cons_of_mem _ hp) (by simpa using hj)
      · cases j with
        | zero => omega
        | succ j =>
          simp only [List.getElem?_cons_succ] at hj
          cases i with
          | zero =>
            simp only [List.getElem?_cons_zero, Option.some.injEq] at hi
            subst hi
            have := k1 (j0, r) j rj (List.mem_cons_self ..) hj
            simpa [nthN] using this
          | succ i =>
            have := k2 i j ri rj (by omega) (by simpa using hi) hj
            rw [show j0 + (i + 1) = j0 + 1 + i by omega]
            exact this

theorem edgesN_bit (ms : List Nat) (es : List Edge) (i : Nat) (h : (edgesN ms es).testBit i = true) : ∃ e ∈ es, bindsB e = true ∧ (e.on = i ∨ (nthN ms e.on).testBit i = true) := by
  induction es with
  | nil => simp [edgesN] at h
  | cons e r ih =>
    simp only [edgesN, Nat.testBit_or, Bool.or_eq_true] at h
    rcases h with h | h
    · cases hb : bindsB e with
      | false => simp [hb] at h
      | true =>
        simp only [hb, _root_.cond_true, Nat.testBit_or, Bool.or_eq_true] at h
        refine ⟨e, List.mem_cons_self .., hb, ?_⟩
        rcases h with h | h
        · left
          rw [Nat.testBit_two_pow] at h
          exact of_decide_eq_true h
        · exact .inr h
    · obtain ⟨e', h1, h2⟩ := ih h
      exact ⟨e', List.mem_cons_of_mem _ h1, h2⟩

theorem masksB_spec {all : List Nat} (os : List Oper) : ∀ (j0 : Nat) (ms : List Nat), masksB all j0 ms os = true → ∀ (j : Nat) o, os[j]? = some o →
    (∀ i, (nthN ms j).testBit i = true → ∃ e ∈ o.after.toList, bindsB e = true ∧ (e.on = i ∨ (nthN all e.on).testBit i = true)) ∧ (∀ e ∈ o.after.toList, bindsB e = true → e.on < j0 + j) := by
  induction os with
  | nil => intro j0 ms _ j o h; simp at h
  | cons o os ih =>
    intro j0 ms h j o' hj
    match ms, h with
    | [], h => cases h
    | m :: ms, h =>
      simp only [masksB, Bool.and_eq_true] at h
      obtain ⟨h1, h2, h3⟩ := h
      cases j with
      | zero =>
        simp only [List.getElem?_cons_zero, Option.some.injEq] at hj
        subst hj
        refine ⟨fun i hi => edgesN_bit all _ i ?_, fun e he hb => ?_⟩
        · rw [← Nat.eq_of_beq_eq_true h1, Nat.testBit_or]
          have : m.testBit i = true := hi
          simp [this]
        · have := List.all_eq_true.1 h2 e he
          simp only [hb, Bool.not_true, Bool.false_or] at this
          have : e.on + 1 ≤ j0 := Nat.le_of_ble_eq_true this
          omega
      | succ j =>
        have := ih (j0 + 1) ms h3 j o' (by simpa using hj)
        refine ⟨this.1, fun e he hb => ?_⟩
        have := this.2 e he hb
        omega

theorem disjB_spec {a b : List Nat} (h : disjB a b = true) {x : Nat} (h1 : x ∈ a) (h2 : x ∈ b) : False := by
  induction a with
  | nil => cases h1
  | cons y r ih =>
    simp only [disjB, Bool.and_eq_true, Bool.not_eq_true'] at h
    rcases List.mem_cons.1 h1 with rfl | h1
    · have := h.1
      rw [List.elem_eq_true_of_mem h2] at this
      cases this
    · exact ih h.2 h1

theorem binds_eq (e : Edge) : Region.binds .any e = bindsB e := by
  unfold Region.binds bindsB
  cases e.ground <;> rfl

theorem tmpsOf_mem {xs : List Operand} {t : Nat} (h : Operand.tmp t ∈ xs) : t ∈ tmpsOf xs := by
  induction xs with
  | nil => cases h
  | cons x r ih =>
    rcases List.mem_cons.1 h with h' | h'
    · subst h'; simp [tmpsOf]
    · have := ih h'
      cases x <;> simp [tmpsOf, this]

end Go.Sx

/-
  Regions whose order is drawn: what the evaluator says of them is right.
-/
namespace Go.Sx

section
variable {P : Program} {X : Cx} {G : Par} {w0 : World} {μ0 : Mu}

theorem upEs_get {ops : List Oper} : ∀ {evs : List Ev} {i : Nat} {u : Nat → Option V}, (upEs ops evs)[i]? = some u → ∃ o ev, ops[i]? = some o ∧ evs[i]? = some ev ∧ u = upE o ev := by
  induction ops with
  | nil => intro evs i u h; simp [upEs] at h
  | cons o os ih =>
    intro evs i u h
    cases evs with
    | nil => simp [upEs] at h
    | cons ev evs =>
      cases i with
      | zero => simp [upEs] at h; exact ⟨o, ev, rfl, rfl, h.symm⟩
      | succ i => simp only [upEs, List.getElem?_cons_succ] at h; exact ih h

theorem upEs_at {ops : List Oper} : ∀ {evs : List Ev} {i : Nat} {o : Oper} {ev : Ev}, ops[i]? = some o → evs[i]? = some ev → (upEs ops evs)[i]? = some (upE o ev) := by
  induction ops with
  | nil => intro evs i o ev h; simp at h
  | cons o os ih =>
    intro evs i o' ev h1 h2
    cases evs with
    | nil => simp at h2
    | cons ev' evs =>
      cases i with
      | zero => simp at h1 h2; subst h1; subst h2; rfl
      | succ i => simp only [upEs, List.getElem?_cons_succ] at h1 h2 ⊢; exact ih h1 h2

theorem upMs_get {evs : List Ev} {i : Nat} {u : Nat → Option (Option Bx)} (h : (upMs evs)[i]? = some u) : ∃ ev, evs[i]? = some ev ∧ u = upM ev := by
  simp only [upMs, List.getElem?_map, Option.map_eq_some_iff] at h
  obtain ⟨ev, h1, h2⟩ := h
  exact ⟨ev, h1, h2.symm⟩

theorem upEs_len {ops : List Oper} : ∀ {evs : List Ev}, evs.length = ops.length → (upEs ops evs).length = ops.length := by
  induction ops with
  | nil => intro evs h; cases evs <;> rfl
  | cons o os ih => intro evs h; cases evs with
    | nil => simp at h
    | cons ev evs => simp [upEs, ih (by simpa using h)]

/-- all that the text's order has shown of a region -/
structure Told (G : Par) (arr : Array Oper) (ms : List Nat) (st : St) (evs : List Ev) (new : Info) : Prop where
  len : evs.length = arr.toList.length
  len' : new.length = arr.toList.length
  fact : ∀ (i : Nat) o ev n, arr.toList[i]? = some o → evs[i]? = some ev → new[i]? = some n → Fact G arr.toList o ev (preF ((upEs arr.toList evs).take i) (lookE st.e)) (preF ((upMs evs).take i) (boxOf st.x)) n
  stat : statB arr.toList ms = true
  dyn : dynB new.reverse ms = true

def eS (arr : Array Oper) (evs : List Ev) (st : St) (S : Nat → Bool) : Nat → V := foldS S (upEs arr.toList evs) 0 (lookE st.e)
def mS (evs : List Ev) (st : St) (S : Nat → Bool) : Nat → Option Bx := foldS S (upMs evs) 0 (boxOf st.x)

structure Closed (arr : Array Oper) (S : Nat → Bool) : Prop where
  pre : ∀ (k : Nat) o, arr[k]? = some o → S k = true → ∀ e ∈ o.after.toList, bindsB e = true → S e.on = true

theorem Told.anc {arr : Array Oper} {ms : List Nat} {st : St} {evs : List Ev} {new : Info} (h : Told G arr ms st evs new) {S : Nat → Bool} (hc : Closed arr S) : ∀ (j : Nat), j < arr.size → S j = true → ∀ i, (nthN ms j).testBit i = true → S i = true := by
  have hm := h.stat
  simp only [statB, Bool.and_eq_true] at hm
  have hsp := masksB_spec _ 0 ms hm.1
  intro j
  induction j using Nat.strongRecOn with
  | ind j ih =>
    intro hj hs i hi
    have ho : arr[j]? = some arr[j] := Array.getElem?_eq_getElem hj
    obtain ⟨k1, k2⟩ := hsp j arr[j] (by rw [Array.getElem?_toList]; exact ho)
    obtain ⟨e, he, hb, hx⟩ := k1 i hi
    have h1 := hc.pre j _ ho hs e he hb
    have h2 := k2 e he hb
    rcases hx with rfl | hx
    · exact h1
    · exact ih e.on (by omega) (by omega) h1 i hx

def addS (S : Nat → Bool) (i : Nat) : Nat → Bool := fun j => S j || j == i

/-- beside an operation that may come next, whoever is bound to it lies on the side on which the text has it -/
theorem Told.sides {arr : Array Oper} {ms : List Nat} {st : St} {evs : List Ev} {new : Info} (h : Told G arr ms st evs new) {S : Nat → Bool} {i : Nat} (hc : Closed arr S) (hc' : Closed arr (addS S i)) (hi : i < arr.size) (hn : S i = false) :
    ∀ j oj oi, arr[j]? = some oj → arr[i]? = some oi → j ≠ i → (S j = decide (j < i)) ∨ (apartB arr.toList (if j < i then oj else oi) (if j < i then oi else oj) = true ∧ ∀ nj ni, new[j]? = some nj → new[i]? = some ni → calmB (if j < i then nj else ni) (if j < i then ni else nj) = true) := by
  intro j oj oi hj hoi hne
  have hst := h.stat
  simp only [statB, Bool.and_eq_true] at hst
  have hp := (pairsB_spec _ _ _ _ hst.2).2
  have hdy := h.dyn
  unfold dynB at hdy
  rw [List.reverse_reverse] at hdy
  have hd := (pairsB_spec _ _ _ _ hdy).2
  have hjs : j < arr.size := by
    rcases Nat.lt_or_ge j arr.size with h1 | h1
    · exact h1
    · rw [Array.getElem?_eq_none h1] at hj; cases hj
  by_cases hlt : j < i
  · by_cases hb : (nthN ms i).testBit j = true
    · left
      have := h.anc hc' i hi (by simp [addS]) j hb
      simp only [addS, Bool.or_eq_true, beq_iff_eq] at this
      rcases this with h1 | h1
      · simp [h1, hlt]
      · exact absurd h1 hne
    · right
      simp only [hlt, if_true]
      refine ⟨?_, fun nj ni h1 h2 => ?_⟩
      · rcases hp j i oj oi hlt (by rw [Array.getElem?_toList]; exact hj) (by rw [Array.getElem?_toList]; exact hoi) with h1 | h1
        · rw [Nat.zero_add] at h1; exact absurd h1 hb
        · exact h1
      · rcases hd j i nj ni hlt h1 h2 with h3 | h3
        · rw [Nat.zero_add] at h3; exact absurd h3 hb
        · exact h3
  · have hlt' : i < j := by omega
    by_cases hb : (nthN ms j).testBit i = true
    · left
      cases hs : S j with
      | false => simp [hlt]
      | true =>
        have := h.anc hc j hjs hs i hb
        rw [hn] at this; cases this
    · right
      simp only [hlt, if_false]
      refine ⟨?_, fun nj ni h1 h2 => ?_⟩
      · rcases hp i j oi oj hlt' (by rw [Array.getElem?_toList]; exact hoi) (by rw [Array.getElem?_toList]; exact hj) with h1 | h1
        · rw [Nat.zero_add] at h1; exact absurd h1 hb
        · exact h1
      · rcases hd i j ni nj hlt' h2 h1 with h3 | h3
        · rw [Nat.zero_add] at h3; exact absurd h3 hb
        · exact h3

theorem dstIn_false {d : Option Nat} {l : List Nat} (h : dstIn d l = false) {t : Nat} (hd : d = some t) (ht : t ∈ l) : False := by
  subst hd
  change l.elem t = false at h
  rw [List.elem_eq_true_of_mem ht] at h
  cases h

structure Apart (arr : Array Oper) (a b : Oper) : Prop where
  l : ∀ t, a.dst = some t → t ∉ looks arr.toList b
  r : ∀ t, b.dst = some t → t ∉ looks arr.toList a
  d : ∀ t, a.dst = some t → b.dst ≠ some t

theorem apart_of {arr : Array Oper} {a b : Oper} (h : apartB arr.toList a b = true) : Apart arr a b := by
  simp only [apartB, Bool.and_eq_true, Bool.not_eq_true'] at h
  obtain ⟨h1, h2, h3⟩ := h
  refine ⟨fun t ht hm => dstIn_false h1 ht hm, fun t ht hm => dstIn_false h2 ht hm, fun t ht hb => ?_⟩
  rw [ht, hb] at h3
  simp [dstSame] at h3

theorem Told.slot {arr : Array Oper} {ms : List Nat} {st : St} {evs : List Ev} {new : Info} (h : Told G arr ms st evs new) {S : Nat → Bool} {i : Nat} {oi : Oper} (hc : Closed arr S) (hc' : Closed arr (addS S i)) (hoi : arr[i]? = some oi) (hn : S i = false) {t : Nat} (ht : t ∈ looks arr.toList oi) :
    eS arr evs st S t = preF ((upEs arr.toList evs).take i) (lookE st.e) t := by
  have hi : i < arr.size := by
    rcases Nat.lt_or_ge i arr.size with h1 | h1
    · exact h1
    · rw [Array.getElem?_eq_none h1] at hoi; cases hoi
  have hl := foldS_lt (upEs arr.toList evs) i 0 (lookE st.e)
  rw [Nat.zero_add] at hl
  rw [← hl]
  refine foldS_congr _ _ _ _ rfl fun j u h1 h2 => ?_
  rw [Nat.zero_add]
  obtain ⟨oj, ev, k1, k2, rfl⟩ := upEs_get h1
  rw [Array.getElem?_toList] at k1
  have hd : oj.dst = some t := by
    unfold upE at h2
    by_cases hd : oj.dst = some t
    · exact hd
    · simp [hd] at h2
  by_cases hji : j = i
  · subst hji; simp [hn]
  · rcases h.sides hc hc' hi hn j oj oi k1 hoi hji with h3 | ⟨h3, _⟩
    · exact h3
    · exfalso
      by_cases hlt : j < i
      · simp only [hlt, if_true] at h3
        exact (apart_of h3).l t hd ht
      · simp only [hlt, if_false] at h3
        exact (apart_of h3).r t hd ht

theorem Told.box {arr : Array Oper} {ms : List Nat} {st : St} {evs : List Ev} {new : Info} (h : Told G arr ms st evs new) {S : Nat → Bool} {i : Nat} {oi : Oper} {ni : List Nat × List Nat} (hc : Closed arr S) (hc' : Closed arr (addS S i)) (hoi : arr[i]? = some oi) (hni : new[i]? = some ni) (hn : S i = false) {id : Nat} (hid : id ∈ ni.1) :
    mS evs st S id = preF ((upMs evs).take i) (boxOf st.x) id := by
  have hi : i < arr.size := by
    rcases Nat.lt_or_ge i arr.size with h1 | h1
    · exact h1
    · rw [Array.getElem?_eq_none h1] at hoi; cases hoi
  have hl := foldS_lt (upMs evs) i 0 (boxOf st.x)
  rw [Nat.zero_add] at hl
  rw [← hl]
  refine foldS_congr _ _ _ _ rfl fun j u h1 h2 => ?_
  rw [Nat.zero_add]
  obtain ⟨ev, k2, rfl⟩ := upMs_get h1
  have hjl : j < arr.toList.length := by rw [← h.len]; exact (List.getElem?_eq_some_iff.1 k2).1
  have hjl' : j < arr.size := by simpa using hjl
  have k1 : arr[j]? = some arr[j] := Array.getElem?_eq_getElem hjl'
  have k3 : new[j]? = some (new[j]'(by rw [h.len']; exact hjl)) := List.getElem?_eq_getElem _
  have hf := h.fact j _ ev _ (by rw [Array.getElem?_toList]; exact k1) k2 k3
  have hw : id ∈ (new[j]'(by rw [h.len']; exact hjl)).2 := by
    obtain ⟨b, hb⟩ := Option.ne_none_iff_exists'.1 h2
    have hm := effL_mem hb
    cases hwant : ev.want with
    | false => rw [(hf.skip hwant).2.1] at hm; simp at hm
    | true => rw [(hf.op hwant).2.2.2]; exact hm
  by_cases hji : j = i
  · subst hji; simp [hn]
  · rcases h.sides hc hc' hi hn j _ oi k1 hoi hji with h3 | ⟨_, h3⟩
    · exact h3
    · exfalso
      have h3 := h3 _ _ k3 hni
      by_cases hlt : j < i
      · simp only [hlt, if_true, calmB, Bool.and_eq_true] at h3
        exact disjB_spec h3.1 hw hid
      · simp only [hlt, if_false, calmB, Bool.and_eq_true] at h3
        exact disjB_spec h3.2 hw hid

theorem Told.slot' {arr : Array Oper} {ms : List Nat} {st : St} {evs : List Ev} {new : Info} (h : Told G arr ms st evs new) {S : Nat → Bool} {i : Nat} {oi : Oper} {ev : Ev} (hc : Closed arr S) (hc' : Closed arr (addS S i)) (hoi : arr[i]? = some oi) (hev : evs[i]? = some ev) (hn : S i = false) :
    eS arr evs st (addS S i) = over (eS arr evs st S) (upE oi ev) := by
  have hi : i < arr.size := by
    rcases Nat.lt_or_ge i arr.size with h1 | h1
    · exact h1
    · rw [Array.getElem?_eq_none h1] at hoi; cases hoi
  funext t
  have hu := upEs_at (ops := arr.toList) (by rw [Array.getElem?_toList]; exact hoi) hev
  cases hx : upE oi ev t with
  | none =>
    rw [show over (eS arr evs st S) (upE oi ev) t = eS arr evs st S t by simp [over, hx]]
    refine foldS_congr _ _ _ _ rfl fun j u h1 h2 => ?_
    rw [Nat.zero_add]
    by_cases hji : j = i
    · subst hji; rw [h1] at hu; cases hu; exact absurd hx h2
    · simp [addS, hji]
  | some x =>
    rw [show over (eS arr evs st S) (upE oi ev) t = x by simp [over, hx]]
    refine foldS_last _ i 0 _ _ hu hx (by simp [addS]) fun j u hlt h1 h2 => ?_
    rw [Nat.zero_add]
    obtain ⟨oj, ev', k1, k2, rfl⟩ := upEs_get h1
    rw [Array.getElem?_toList] at k1
    have hd : oj.dst = some t := by
      unfold upE at h2
      by_cases hd : oj.dst = some t
      · exact hd
      · simp [hd] at h2
    have hd' : oi.dst = some t := by
      unfold upE at hx
      by_cases hd : oi.dst = some t
      · exact hd
      · simp [hd] at hx
    have hji : j ≠ i := by omega
    have hnl : ¬ j < i := by omega
    rcases h.sides hc hc' hi hn j oj oi k1 hoi hji with h3 | ⟨h3, _⟩
    · simp [addS, hji, h3, hnl]
    · simp only [hnl, if_false] at h3
      exact absurd hd ((apart_of h3).d t hd')

theorem Told.box' {arr : Array Oper} {ms : List Nat} {st : St} {evs : List Ev} {new : Info} (h : Told G arr ms st evs new) {S : Nat → Bool} {i : Nat} {oi : Oper} {ev : Ev} (hc : Closed arr S) (hc' : Closed arr (addS S i)) (hoi : arr[i]? = some oi) (hev : evs[i]? = some ev) (hn : S i = false) :
    mS evs st (addS S i) = over (mS evs st S) (upM ev) := by
  have hi : i < arr.size := by
    rcases Nat.lt_or_ge i arr.size with h1 | h1
    · exact h1
    · rw [Array.getElem?_eq_none h1] at hoi; cases hoi
  have entry : ∀ (j : Nat) ev (hjl : j < arr.toList.length), evs[j]? = some ev → ∀ id b, effL ev.ef id = some b → id ∈ (new[j]'(by rw [h.len']; exact hjl)).2 ∧ id ∈ (new[j]'(by rw [h.len']; exact hjl)).1 := by
    intro j ev hjl k2 id b hb
    have hjl' : j < arr.size := by simpa using hjl
    have k1 : arr[j]? = some arr[j] := Array.getElem?_eq_getElem hjl'
    have k3 : new[j]? = some (new[j]'(by rw [h.len']; exact hjl)) := List.getElem?_eq_getElem _
    have hf := h.fact j _ ev _ (by rw [Array.getElem?_toList]; exact k1) k2 k3
    have hm := effL_mem hb
    cases hwant : ev.want with
    | false => rw [(hf.skip hwant).2.1] at hm; simp at hm
    | true => rw [(hf.op hwant).2.2.2]; exact ⟨hm, List.mem_append_right _ hm⟩
  funext id
  have hu : (upMs evs)[i]? = some (upM ev) := by simp [upMs, hev]
  cases hx : upM ev id with
  | none =>
    rw [show over (mS evs st S) (upM ev) id = mS evs st S id by simp [over, hx]]
    refine foldS_congr _ _ _ _ rfl fun j u h1 h2 => ?_
    rw [Nat.zero_add]
    by_cases hji : j = i
    · subst hji; rw [h1] at hu; cases hu; exact absurd hx h2
    · simp [addS, hji]
  | some x =>
    rw [show over (mS evs st S) (upM ev) id = x by simp [over, hx]]
    refine foldS_last _ i 0 _ _ hu hx (by simp [addS]) fun j u hlt h1 h2 => ?_
    rw [Nat.zero_add]
    obtain ⟨ev', k2, rfl⟩ := upMs_get h1
    obtain ⟨b, hb⟩ := Option.ne_none_iff_exists'.1 h2
    have hjl : j < arr.toList.length := by rw [← h.len]; exact (List.getElem?_eq_some_iff.1 k2).1
    have hjl' : j < arr.size := by simpa using hjl
    have k1 : arr[j]? = some arr[j] := Array.getElem?_eq_getElem hjl'
    have hil : i < arr.toList.length := by simpa using hi
    have e1 := entry j ev' hjl k2 id b hb
    have e2 := entry i ev hil hev id x hx
    have hji : j ≠ i := by omega
    have hnl : ¬ j < i := by omega
    rcases h.sides hc hc' hi hn j _ oi k1 hoi hji with h3 | ⟨_, h3⟩
    · simp [addS, hji, h3, hnl]
    · have h3 := h3 _ _ (List.getElem?_eq_getElem (by rw [h.len']; exact hjl)) (List.getElem?_eq_getElem (by rw [h.len']; exact hil))
      simp only [hnl, if_false, calmB, Bool.and_eq_true] at h3
      exact (disjB_spec h3.1 e2.1 e1.2).elim


/-- what holds between two operations -/
structure Mid (X : Cx) (G : Par) (w0 : World) (μ0 : Mu) (arr : Array Oper) (evs : List Ev) (st : St) (S : Nat → Bool) (a : Act) (w : World) (μ : Mu) (B : Nat → Prop) : Prop where
  sb : SB X (mS evs st S) μ B w
  env : ∀ t, RelV B w μ (eS arr evs st S t) (a.tmps.getD t undef)
  sz : a.tmps.size = G.N
  dfr : a.defers = []
  hist : Hist X w0 μ0 μ w
  pend : ∀ (i : Nat) o, arr[i]? = some o → S i = false → creates o.op = true → ∀ j, μ (dd o % 10000 + 10000 * j) = none

theorem crDsts_ne {ops : List Oper} : nodupB (crDsts ops) = true → ∀ (i j : Nat) oi oj, ops[i]? = some oi → ops[j]? = some oj → i ≠ j → creates oi.op = true → creates oj.op = true → dd oi % 10000 ≠ dd oj % 10000 := by
  induction ops with
  | nil => intro _ i j oi oj h; simp at h
  | cons o r ih =>
    intro h i j oi oj hi hj hne ci cj he
    have mem : ∀ (k : Nat) ok, r[k]? = some ok → creates ok.op = true → dd ok % 10000 ∈ crDsts r := fun k ok hk ck => List.mem_filterMap.2 ⟨ok, List.mem_of_getElem? hk, by simp [ck, dd]⟩
    have tl : nodupB (crDsts r) = true ∧ (creates o.op = true → dd o % 10000 ∉ crDsts r) := by
      unfold crDsts at h ⊢
      cases hc : creates o.op with
      | false => simp [hc] at h; exact ⟨h, by simp⟩
      | true =>
        rw [List.filterMap_cons_some (b := o.dst.getD 99998 % 10000) (by simp [hc])] at h
        simp only [nodupB, Bool.and_eq_true, Bool.not_eq_true'] at h
        refine ⟨h.2, fun _ hm => ?_⟩
        have := h.1
        unfold dd at hm
        rw [List.elem_eq_true_of_mem hm] at this
        cases this
    cases i with
    | zero =>
      cases j with
      | zero => exact hne rfl
      | succ j =>
        simp only [List.getElem?_cons_zero, Option.some.injEq, List.getElem?_cons_succ] at hi hj
        subst hi
        exact tl.2 ci (he ▸ mem j oj hj cj)
    | succ i =>
      cases j with
      | zero =>
        simp only [List.getElem?_cons_zero, Option.some.injEq, List.getElem?_cons_succ] at hi hj
        subst hj
        exact tl.2 cj (he ▸ mem i oi hi ci)
      | succ j =>
        simp only [List.getElem?_cons_succ] at hi hj
        exact ih tl.1 i j oi oj hi hj (by omega) ci cj he

theorem one_step (hF : G.F = Fn P) (hT : TOk P G.T) (hE : ∀ t, (G.T t).eq = true → EqTy P t (G.T t).zero) (hN : G.N ≤ 1000) (hz : ∀ t e, (G.T t).d = .slice e → idsLs (G.T e).zero = []) {arr : Array Oper} {ms : List Nat} {st : St} {evs : List Ev} {new : Info} (h : Told G arr ms st evs new) (hnd : nodupB (crDsts arr.toList) = true)
    {S : Nat → Bool} {i : Nat} {o : Oper} (hc : Closed arr S) (hc' : Closed arr (addS S i)) (ho : arr[i]? = some o) (hn : S i = false) {a : Act} {w : World} {μ : Mu} {B : Nat → Prop} (hm : Mid X G w0 μ0 arr evs st S a w μ B)
    {Q : Exit → Act → World → Prop} {K : Act → World → Prop} (hk : ∀ a' w' μ' B', Mid X G w0 μ0 arr evs st (addS S i) a' w' μ' B' → K a' w') : wpOp P arr Q i K a w := by
  have hi : i < arr.size := by
    rcases Nat.lt_or_ge i arr.size with h1 | h1
    · exact h1
    · rw [Array.getElem?_eq_none h1] at ho; cases ho
  have hil : i < arr.toList.length := by simpa using hi
  have hol : arr.toList[i]? = some o := by rw [Array.getElem?_toList]; exact ho
  have hev : evs[i]? = some (evs[i]'(by rw [h.len]; exact hil)) := List.getElem?_eq_getElem _
  have hni : new[i]? = some (new[i]'(by rw [h.len']; exact hil)) := List.getElem?_eq_getElem _
  generalize evs[i]'(by rw [h.len]; exact hil) = ev at hev
  generalize new[i]'(by rw [h.len']; exact hil) = ni at hni
  have hf := h.fact i o ev ni hol hev hni
  have hslot : ∀ t ∈ looks arr.toList o, eS arr evs st S t = preF ((upEs arr.toList evs).take i) (lookE st.e) t := fun t ht => h.slot hc hc' ho hn ht
  -- the guard
  have hwant : Region.wanted o (yielded arr a.tmps) = ev.want := by
    cases hg : o.guard with
    | none => rw [hf.none hg]; simp [Region.wanted, hg]
    | some q =>
      obtain ⟨j, b⟩ := q
      have hlook : dstOf arr.toList j ∈ looks arr.toList o := by simp [looks, hg]
      have hr := hm.env (dstOf arr.toList j)
      rw [hslot _ hlook] at hr
      obtain ⟨t, ht, hw⟩ := hf.some j b hg _ _ _ _ hr
      rw [hw]
      simp only [Region.wanted, hg]
      have hne : (undef : Value) ≠ .bool t := by intro h; cases h
      have hlt : dstOf arr.toList j < a.tmps.size := by
        rcases Nat.lt_or_ge (dstOf arr.toList j) a.tmps.size with h1 | h1
        · exact h1
        · have : a.tmps.getD (dstOf arr.toList j) undef = undef := by simp [Array.getD, Nat.not_lt.2 h1]
          rw [this] at ht; exact absurd ht hne
      have hsz := hm.sz
      unfold dstOf at ht hlt
      rw [Array.getElem?_toList] at ht hlt
      have : yielded arr a.tmps j = some t := by
        unfold yielded
        cases hd : (arr[j]?).bind (·.dst) with
        | none => rw [hd] at hlt; simp at hlt; omega
        | some d =>
          rw [hd] at ht hlt
          simp only [Option.getD_some] at ht hlt
          have : a.tmps[d]? = some (.bool t) := by
            simp only [Array.getD, hlt, dif_pos] at ht
            rw [Array.getElem?_eq_getElem hlt]; exact congrArg some ht
          simp [this]
      rw [this]; rfl
  have e1 := h.slot' hc hc' ho hev hn
  have e2 := h.box' hc hc' ho hev hn
  have hput : ∀ (B' : Nat → Prop) (w' : World) (μ' : Mu) (u : Value), (∀ t, RelV B' w' μ' (eS arr evs st S t) (a.tmps.getD t undef)) → RelV B' w' μ' ev.v u → ∀ t, RelV B' w' μ' (eS arr evs st (addS S i) t) ((a.put o.dst u).tmps.getD t undef) := by
    intro B' w' μ' u he hu t
    rw [e1]
    unfold over upE
    cases hd : o.dst with
    | none => simp only [reduceCtorEq, if_false, Option.getD_none]; exact he t
    | some d =>
      have hdl : d < a.tmps.size := by have := hf.dst; rw [hd] at this; rw [hm.sz]; simpa [dstOk] using this
      by_cases hdt : d = t
      · subst hdt
        have : (a.tmps.setIfInBounds d u).getD d undef = u := by simp [Array.getD, hdl]
        simp only [Act.put, if_true, Option.getD_some, this]; exact hu
      · have : (a.tmps.setIfInBounds d u).getD t undef = a.tmps.getD t undef := by
          simp only [Array.getD_eq_getD_getElem?]
          rw [Array.getElem?_setIfInBounds_ne hdt]
        simp only [Act.put, Option.some.injEq, hdt, if_false, Option.getD_none, this]; exact he t
  have hpar : ∀ j, S j = true → addS S i j = true := fun j hj => by simp [addS, hj]
  unfold wpOp
  simp only [ho, hwant]
  cases hw : ev.want with
  | false =>
    simp only [Bool.false_eq_true, if_false]
    obtain ⟨k1, k2, k3⟩ := hf.skip hw
    refine hk _ _ μ B ⟨?_, hput B w μ undef hm.env (by rw [k1]; exact RelL.u), by rw [put_size]; exact hm.sz, by rw [put_defers]; exact hm.dfr, hm.hist, fun j oj hj hs hcr => hm.pend j oj hj (by simp [addS] at hs; exact hs.1) hcr⟩
    rw [e2]
    have : over (mS evs st S) (upM ev) = mS evs st S := by funext id; simp [over, upM, k2, effL]
    rw [this]; exact hm.sb
  | true =>
    simp only [if_true]
    refine .inl ?_
    obtain ⟨k1, k2, k3, k4⟩ := hf.op hw
    have hsame : Same (preF ((upMs evs).take i) (boxOf st.x)) (mS evs st S) ev.vs := fun id hid => (h.box hc hc' ho hni hn (by rw [k4]; exact List.mem_append_left _ hid)).symm
    have k2' := opSem_loc hz hsame k2
    rw [hF] at k2'
    have hD := dst_cases hN hf.dst (dd o) rfl
    have hop := op_sound (P := P) (X := X) (o := o) (a := a) hT hE hm.sb
      (fun hcr j => pend_of hD (hm.pend i o ho hn hcr) j) (fun j => par_no hD j)
      (vs := ev.vs) (fun j v x h1 h2 => by
        rw [k1] at h1
        simp only [List.getElem?_map, h2, Option.map_some, Option.some.injEq] at h1
        subst h1
        cases x with
        | tmp t =>
          have ht : t ∈ looks arr.toList o := List.mem_append_left _ (tmpsOf_mem (List.mem_of_getElem? h2))
          have := hm.env t
          rw [hslot t ht] at this
          exact hf.env t _ _ _ _ this
        | const v => exact const_rel v
        | func f => exact RelL.f
        | global g => exact RelL.u) (by rw [k1]; simp) k2'
    refine wp_of_opWp hop fun v' w' hout => ?_
    obtain ⟨v, ef, μ', B', ⟨rfl, rfl⟩, hst, hv⟩ := hout
    refine hk _ _ μ' B' ⟨?_, hput B' w' μ' v' (fun t => (hm.env t).grow hst.gr hst.mu) hv, by rw [put_size]; exact hm.sz, by rw [put_defers]; exact hm.dfr, hm.hist.step hm.sb hst, fun j oj hj hs hcr n => ?_⟩
    · have := hst.sb
      rw [applyF_eq] at this
      rw [e2]; exact this
    · have hs' : S j = false ∧ j ≠ i := by simpa [addS] using hs
      rw [hst.new]
      · exact hm.pend j oj hj hs'.1 hcr n
      · intro hmem
        obtain ⟨q, hq1, hq2⟩ := List.mem_map.1 hmem
        rcases k3 q hq1 with h1 | ⟨h1, h2⟩
        · obtain ⟨bx, hbx⟩ := Option.isSome_iff_exists.1 h1
          have hid : q.1 ∈ ni.1 := by rw [k4]; exact List.mem_append_right _ (List.mem_map.2 ⟨q, hq1, rfl⟩)
          rw [← h.box hc hc' ho hni hn hid] at hbx
          exact hm.sb.muOf hbx (hq2 ▸ hm.pend j oj hj hs'.1 hcr n)
        · rw [hq2, Nat.add_mul_mod_self_left, Nat.mod_mod] at h2
          exact crDsts_ne hnd j i oj o (by rw [Array.getElem?_toList]; exact hj) hol hs'.2 hcr h1 h2

theorem draw_run (hF : G.F = Fn P) (hT : TOk P G.T) (hE : ∀ t, (G.T t).eq = true → EqTy P t (G.T t).zero) (hN : G.N ≤ 1000) (hz : ∀ t e, (G.T t).d = .slice e → idsLs (G.T e).zero = []) {arr : Array Oper} {ms : List Nat} {st : St} {evs : List Ev} {new : Info} (h : Told G arr ms st evs new) (hnd : nodupB (crDsts arr.toList) = true)
    {Q : Exit → Act → World → Prop} (hq : ∀ S a w μ B, (∀ i, i < arr.size → S i = true) → Mid X G w0 μ0 arr evs st S a w μ B → Q .normal a w) :
    ∀ (fuel : Nat) (listed : Array Bool) (l : List Nat), l.length ≤ fuel → listed.size = arr.size → (∀ i, i < arr.size → listed.getD i false = false → i ∈ l) → Closed arr (fun i => listed.getD i false) →
      ∀ a w μ B, Mid X G w0 μ0 arr evs st (fun i => listed.getD i false) a w μ B → wpAny P .any arr Q fuel listed a w := by
  have hst := h.stat
  simp only [statB, Bool.and_eq_true] at hst
  have hsp := masksB_spec _ 0 ms hst.1
  -- where nothing is ready all is done
  have done : ∀ (listed : Array Bool), listed.size = arr.size → Region.ready .any arr listed = [] → ∀ i, i < arr.size → listed.getD i false = true := by
    intro listed hsz hr i
    induction i using Nat.strongRecOn with
    | ind i ih =>
      intro hi
      cases hl : listed.getD i false with
      | true => rfl
      | false =>
        exfalso
        have ho : arr[i]? = some arr[i] := Array.getElem?_eq_getElem hi
        have : i ∈ Region.ready .any arr listed := by
          unfold Region.ready
          refine List.mem_filter.2 ⟨by simpa using hi, ?_⟩
          have hl' : listed.getD i true = false := by
            have hlt : i < listed.size := by omega
            simp only [Array.getD, hlt, dif_pos] at hl ⊢
            exact hl
          simp only [hl', Bool.not_false, Bool.true_and, ho, Option.map_some, Option.getD_some, Array.all_eq_true']
          intro e he
          rw [binds_eq]
          cases hb : bindsB e with
          | false => rfl
          | true =>
            have hel : e ∈ (arr[i]).after.toList := by simpa using he
            have := (hsp i arr[i] (by rw [Array.getElem?_toList]; exact ho)).2 e hel hb
            simp only [Bool.not_true, Bool.false_or]
            exact ih e.on (by omega) (by omega)
        rw [hr] at this; cases this
  intro fuel
  induction fuel with
  | zero =>
    intro listed l hl hsz hin hc a w μ B hm
    have : l = [] := List.eq_nil_of_length_eq_zero (by omega)
    subst this
    have hall : ∀ i, i < arr.size → listed.getD i false = true := fun i hi => by
      cases hx : listed.getD i false with
      | true => rfl
      | false => have := hin i hi hx; cases this
    refine ⟨?_, hq _ a w μ B hall hm⟩
    unfold Region.ready
    refine List.filter_eq_nil_iff.2 fun i hi => ?_
    have hi : i < arr.size := by simpa using hi
    have hl' : listed.getD i true = true := by
      have hlt : i < listed.size := by omega
      have := hall i hi
      simp only [Array.getD, hlt, dif_pos] at this ⊢
      exact this
    simp [hl']
  | succ fuel ih =>
    intro listed l hl hsz hin hc a w μ B hm
    refine ⟨fun hr => hq _ a w μ B (done listed hsz hr) hm, fun i hi => ?_⟩
    unfold Region.ready at hi
    obtain ⟨hi1, hi2⟩ := List.mem_filter.1 hi
    have hi1 : i < arr.size := by simpa using hi1
    have ho : arr[i]? = some arr[i] := Array.getElem?_eq_getElem hi1
    simp only [Bool.and_eq_true, Bool.not_eq_true', ho, Option.map_some, Option.getD_some, Array.all_eq_true'] at hi2
    obtain ⟨hi2, hi3⟩ := hi2
    have hlt : i < listed.size := by omega
    have hn : listed.getD i false = false := by
      simp only [Array.getD, hlt, dif_pos] at hi2 ⊢
      exact hi2
    have hadd : (fun j => (listed.setIfInBounds i true).getD j false) = addS (fun j => listed.getD j false) i := by
      funext j
      by_cases hji : j = i
      · subst hji; simp [addS, Array.getD, hlt]
      · have : (listed.setIfInBounds i true).getD j false = listed.getD j false := by
          simp only [Array.getD_eq_getD_getElem?]
          rw [Array.getElem?_setIfInBounds_ne (Ne.symm hji)]
        rw [this]; simp [addS, hji]
    have hc' : Closed arr (addS (fun j => listed.getD j false) i) := by
      refine ⟨fun k o hk hs e he hb => ?_⟩
      by_cases hki : k = i
      · subst hki
        rw [ho] at hk; cases hk
        have := hi3 e (by simpa using he)
        rw [binds_eq, hb] at this
        simp only [Bool.not_true, Bool.false_or] at this
        simp [addS, this]
      · have hs : listed.getD k false = true := by simpa [addS, hki] using hs
        have := hc.pre k o hk hs e he hb
        simp [addS, this]
    refine one_step hF hT hE hN hz h hnd hc hc' ho hn hm fun a' w' μ' B' hm' => ?_
    rw [← hadd] at hm' hc'
    refine ih (listed.setIfInBounds i true) (l.erase i) ?_ (by simp [hsz]) ?_ hc' a' w' μ' B' hm'
    · have := List.length_erase_of_mem (hin i hi1 hn)
      have hpos : 0 < l.length := List.length_pos_of_mem (hin i hi1 hn)
      omega
    · intro j hj hs
      have hs : addS (fun j => listed.getD j false) i j = false := by rw [← hadd]; exact hs
      have hs' : listed.getD j false = false ∧ j ≠ i := by simpa [addS] using hs
      exact (List.mem_erase_of_ne hs'.2).2 (hin j hj hs'.1)

end
end Go.Sx

/-
  The state behind a region: what is no longer looked at is forgotten, slices are frozen.
-/
namespace Go.Sx

theorem liveK_eq (e : Env) (ts : List Nat) (K : Env → Prop) : liveK e ts K = K (ts.map fun t => (t, lookE e t)) := by
  induction ts generalizing K with
  | nil => rfl
  | cons t r ih =>
    show getK e t (fun v => liveK e r fun e' => K ((t, v) :: e')) = _
    rw [getK_eq, ih]; rfl

theorem lookE_live (e : Env) (ts : List Nat) (t : Nat) : lookE (ts.map fun t => (t, lookE e t)) t = lookE e t ∨ lookE (ts.map fun t => (t, lookE e t)) t = .c (.o .u) := by
  induction ts with
  | nil => exact .inr rfl
  | cons s r ih =>
    simp only [List.map_cons, lookE_cons]
    split
    · rename_i h; subst h; exact .inl rfl
    · exact ih

def fixL (x : Bxs) (h : List (Nat × Nat)) (z : List Nat) (top : Bool) (l : L) : L :=
  match l with
  | .gw id n sz => match boxOf x id with
    | none => .u
    | some (.st _) => .gw id n sz
    | some (.fz cs) => .sl cs n
    | some (.ar cs) => match assocN h id with
      | some t => bif top then .gw t n sz else .u
      | none => bif z.elem id then .sl cs n else .u
  | .gs id off n sz => match boxOf x id with
    | none => .u
    | some (.st _) => .u
    | some (.fz cs) => .sl ((cs.drop off).take (n * sz)) n
    | some (.ar cs) => match assocN h id with
      | some _ => .u
      | none => bif z.elem id then .sl ((cs.drop off).take (n * sz)) n else .u
  | .p id off => match boxOf x id with
    | none => .u
    | some (.fz cs) => .pf (cs.drop off)
    | some (.st _) => .p id off
    | some (.ar cs) => match assocN h id with
      | some _ => .u
      | none => bif z.elem id then .pf (cs.drop off) else .p id off
  | l => l

theorem cond_app {α : Sort _} {β : Sort _} (f : α → β) (c : Bool) (a b : α) : f (bif c then a else b) = bif c then f a else f b := by cases c <;> rfl

theorem fixK_eq (x : Bxs) (h : List (Nat × Nat)) (z : List Nat) (top : Bool) (l : L) (K : L → Prop) : fixK x h z top l K = K (fixL x h z top l) := by
  cases l <;> try rfl
  case gw id n sz =>
    simp only [fixK, fixL]
    cases boxOf x id with
    | none => rfl
    | some bx => cases bx with
      | ar cs => cases assocN h id with
        | some t => cases top <;> rfl
        | none => show _ = K (bif z.elem id then _ else _); rw [cond_app K]
      | _ => rfl
  case gs id off n sz =>
    simp only [fixK, fixL]
    cases boxOf x id with
    | none => rfl
    | some bx => cases bx with
      | ar cs => cases assocN h id with
        | some t => rfl
        | none => show _ = K (bif z.elem id then _ else _); rw [cond_app K]
      | _ => rfl
  case p id off =>
    simp only [fixK, fixL]
    cases boxOf x id with
    | none => rfl
    | some bx => cases bx with
      | ar cs => cases assocN h id with
        | some t => rfl
        | none => show _ = K (bif z.elem id then _ else _); rw [cond_app K]
      | _ => rfl

theorem fixLsK_eq (x : Bxs) (h : List (Nat × Nat)) (z : List Nat) (ls : List L) (K : List L → Prop) : fixLsK x h z ls K = K (ls.map (fixL x h z false)) := by
  induction ls generalizing K with
  | nil => rfl
  | cons l r ih =>
    show fixK x h z false l (fun l' => fixLsK x h z r fun r' => K (l' :: r')) = _
    rw [fixK_eq, ih]; rfl

def fixV (x : Bxs) (h : List (Nat × Nat)) (z : List Nat) : V → V
  | .c (.o l) => .c (.o (fixL x h z true l))
  | .c (.a ls) => .c (.a (ls.map (fixL x h z false)))
  | .t _ => .c (.o .u)

theorem fixVK_eq (x : Bxs) (h : List (Nat × Nat)) (z : List Nat) (v : V) (K : V → Prop) : fixVK x h z v K = K (fixV x h z v) := by
  match v with
  | .c (.o l) => exact fixK_eq x h z true l fun l' => K (.c (.o l'))
  | .c (.a ls) => exact fixLsK_eq x h z ls fun l' => K (.c (.a l'))
  | .t _ => rfl

theorem fixEK_eq (x : Bxs) (h : List (Nat × Nat)) (z : List Nat) (e : Env) (K : Env → Prop) : fixEK x h z e K = K (e.map fun q => (q.1, fixV x h z q.2)) := by
  induction e generalizing K with
  | nil => rfl
  | cons q r ih =>
    show fixVK x h z q.2 (fun v' => fixEK x h z r fun r' => K ((q.1, v') :: r')) = _
    rw [fixVK_eq, ih]; rfl

theorem lookE_fix (x : Bxs) (h : List (Nat × Nat)) (z : List Nat) (e : Env) (t : Nat) : lookE (e.map fun q => (q.1, fixV x h z q.2)) t = fixV x h z (lookE e t) := by
  induction e with
  | nil => rfl
  | cons q r ih =>
    obtain ⟨k, v⟩ := q
    simp only [List.map_cons, lookE_cons, ih]
    split <;> rfl

theorem insK_elim (p : Nat × Bx) (x : Bxs) : ∀ (K : Bxs → Prop), insK p x K → ∃ y, K y ∧ y.Perm (p :: x) := by
  induction x with
  | nil => exact fun K h => ⟨_, h, .refl _⟩
  | cons q r ih =>
    intro K h
    change (bif Nat.ble p.1 q.1 then K (p :: q :: r) else insK p r fun r' => K (q :: r')) at h
    cases hc : Nat.ble p.1 q.1 with
    | true => rw [hc] at h; exact ⟨_, h, .refl _⟩
    | false =>
      rw [hc] at h
      obtain ⟨y, hy, hp⟩ := ih _ h
      exact ⟨_, hy, (hp.cons q).trans (List.Perm.swap p q r)⟩

def tgt (h : List (Nat × Nat)) (z keep : List Nat) (q : Nat × Bx) : Option Nat :=
  match q.2 with
  | .st _ => bif isPar q.1 || keep.elem q.1 then some q.1 else none
  | .ar _ => match assocN h q.1 with
    | some t => some t
    | none => bif z.elem q.1 then none else bif isPar q.1 || keep.elem q.1 then some q.1 else none
  | .fz _ => none

def tgtB (x : Bxs) (h : List (Nat × Nat)) (z : List Nat) : Bx → Bx
  | .st cs => .st (cs.map (fixL x h z false))
  | b => b

theorem fixXK_elim (x : Bxs) (h : List (Nat × Nat)) (z keep : List Nat) (y : Bxs) : ∀ (K : Bxs → Prop), fixXK x h z keep y K →
    ∃ x', K x' ∧ x'.Perm (y.filterMap fun q => (tgt h z keep q).map fun t => (t, tgtB x h z q.2)) := by
  induction y with
  | nil => exact fun K hk => ⟨_, hk, .refl _⟩
  | cons q r ih =>
    intro K hk
    obtain ⟨id, bx⟩ := q
    have ins : ∀ (i : Nat) (b : Bx), tgt h z keep (id, bx) = some i → tgtB x h z bx = b → fixXK x h z keep r (fun r' => insK (i, b) r' K) → ∃ x', K x' ∧ x'.Perm (((id, bx) :: r).filterMap fun q => (tgt h z keep q).map fun t => (t, tgtB x h z q.2)) := by
      intro i b hi hb hk
      obtain ⟨r', hk, hp⟩ := ih _ hk
      obtain ⟨y, hk, hp'⟩ := insK_elim _ _ _ hk
      refine ⟨y, hk, hp'.trans ?_⟩
      rw [List.filterMap_cons_some (b := (i, b)) (by simp [hi, hb])]
      exact hp.cons _
    have skip : tgt h z keep (id, bx) = none → fixXK x h z keep r K → ∃ x', K x' ∧ x'.Perm (((id, bx) :: r).filterMap fun q => (tgt h z keep q).map fun t => (t, tgtB x h z q.2)) := by
      intro hi hk
      obtain ⟨r', hk, hp⟩ := ih _ hk
      refine ⟨r', hk, ?_⟩
      rw [List.filterMap_cons_none (by simp [hi])]
      exact hp
    cases bx with
    | st cs =>
      change (bif isPar id || keep.elem id then fixLsK x h z cs fun cs' => bif cs'.any isU then False else fixXK x h z keep r fun r' => insK (id, .st cs') r' K else fixXK x h z keep r K) at hk
      cases hc : isPar id || keep.elem id with
      | true =>
        rw [hc] at hk
        rw [_root_.cond_true, fixLsK_eq] at hk
        exact ins id _ (by simp only [tgt, hc, _root_.cond_true, _root_.cond_false]) rfl (cond_false hk).2
      | false =>
        rw [hc] at hk
        exact skip (by simp only [tgt, hc, _root_.cond_true, _root_.cond_false]) hk
    | ar cs =>
      change (match assocN h id with
        | some t => fixXK x h z keep r fun r' => insK (t, .ar cs) r' K
        | none => bif z.elem id then fixXK x h z keep r K else bif isPar id || keep.elem id then fixXK x h z keep r fun r' => insK (id, .ar cs) r' K else fixXK x h z keep r K) at hk
      cases ha : assocN h id with
      | some t =>
        rw [ha] at hk
        exact ins t _ (by simp only [tgt, ha, _root_.cond_true, _root_.cond_false]) rfl hk
      | none =>
        rw [ha] at hk
        cases hz : z.elem id with
        | true => simp only [hz] at hk; exact skip (by simp only [tgt, ha, hz, _root_.cond_true, _root_.cond_false]) hk
        | false =>
          simp only [hz] at hk
          cases hc : isPar id || keep.elem id with
          | true =>
            simp only [hc] at hk
            exact ins id _ (by simp only [tgt, ha, hz, hc, _root_.cond_true, _root_.cond_false]) rfl hk
          | false =>
            simp only [hc] at hk
            exact skip (by simp only [tgt, ha, hz, hc, _root_.cond_true, _root_.cond_false]) hk
    | fz cs => exact skip rfl hk

theorem fm_inj {α β : Type} {f : α → Option β} {l : List α} (h : (l.filterMap f).Nodup) {a b : α} {t : β} (ha : a ∈ l) (hb : b ∈ l) (h1 : f a = some t) (h2 : f b = some t) : a = b := by
  induction l with
  | nil => cases ha
  | cons c r ih =>
    have key : ∀ x, f c = some t → x ∈ r → f x = some t → False := by
      intro x hc hx hfx
      rw [List.filterMap_cons_some hc, List.nodup_cons] at h
      exact h.1 (List.mem_filterMap.2 ⟨x, hx, hfx⟩)
    have hr : (r.filterMap f).Nodup := by
      cases hc : f c with
      | none => rwa [List.filterMap_cons_none hc] at h
      | some y => rw [List.filterMap_cons_some hc, List.nodup_cons] at h; exact h.2
    cases ha with
    | head => cases hb with
      | head => rfl
      | tail _ hb => exact (key b h1 hb h2).elim
    | tail _ ha => cases hb with
      | head => exact (key a h2 ha h1).elim
      | tail _ hb => exact ih hr ha hb

theorem held_np {mv : List Nat} {e : Env} {id t : Nat} (h : (id, t) ∈ heldBy mv e) : isPar id = false ∧ isPar t = false := by
  induction e with
  | nil => cases h
  | cons q r ih =>
    obtain ⟨k, v⟩ := q
    cases v with
    | t xs => exact ih h
    | c x => cases x with
      | a ls => exact ih h
      | o l =>
        cases l <;> try exact ih h
        case gw hid n sz =>
          change (id, t) ∈ (bif mv.elem k && (!isPar hid && !isPar k) then (hid, k) :: heldBy mv r else heldBy mv r) at h
          cases hc : mv.elem k && (!isPar hid && !isPar k) with
          | true =>
            rw [hc] at h
            cases h with
            | head => simp at hc; exact ⟨hc.2.1, hc.2.2⟩
            | tail _ h => exact ih h
          | false => rw [hc] at h; exact ih h

theorem idsL_mem {ls : List L} {l : L} (h : l ∈ ls) : ∀ id ∈ idsL l, id ∈ idsLs ls := by
  induction ls with
  | nil => cases h
  | cons a r ih =>
    intro id hid
    cases h with
    | head => exact List.mem_append_left _ hid
    | tail _ h => exact List.mem_append_right _ (ih h id hid)

theorem idsE_look (e : Env) (t : Nat) : ∀ id ∈ idsV (lookE e t), id ∈ idsE e := by
  induction e with
  | nil => intro id h; simp [lookE, idsV, idsC, idsL] at h
  | cons q r ih =>
    obtain ⟨k, v⟩ := q
    intro id h
    rw [lookE_cons] at h
    split at h
    · exact List.mem_append_left _ h
    · exact List.mem_append_right _ (ih id h)

theorem idsX_mem {x : Bxs} {k : Nat} {cs : List L} (h : (k, .st cs) ∈ x) : ∀ id ∈ idsLs cs, id ∈ idsX x := by
  induction x with
  | nil => cases h
  | cons q r ih =>
    intro id hid
    cases h with
    | head => exact List.mem_append_left _ hid
    | tail _ h =>
      obtain ⟨k', bx⟩ := q
      cases bx with
      | st cs' => exact List.mem_append_right _ (ih h id hid)
      | ar _ => exact ih h id hid
      | fz _ => exact ih h id hid

section
variable {P : Program} {B : Nat → Prop} {w : World} {μ : Mu} {X : Cx} {m : Nat → Option Bx}

/-- what slices and pointers onto a box show, once nobody writes there -/
theorem view {B' : Nat → Prop} (hsub : ∀ b, B' b → B b) (hsb : SB X m μ B w) {id : Nat} {bx : Bx} {cs : List L} (hm : m id = some bx) (hbx : bx = .ar cs ∨ bx = .fz cs)
    (hnb : ∀ b o n, μ id = some (some (b, o, n)) → ¬ B' b) {μ' : Mu} :
    (∀ n sz v, RelL B w μ (.gw id n sz) v → RelL B' w μ' (.sl cs n) v) ∧ (∀ off n sz v, RelL B w μ (.gs id off n sz) v → RelL B' w μ' (.sl ((cs.drop off).take (n * sz)) n) v) ∧
      (∀ off v, RelL B w μ (.p id off) v → RelL B' w μ' (.pf (cs.drop off)) v) := by
  have hk : BkOk [id] μ B B' := ⟨hsub, fun i hi b o n h => by simp at hi; subst hi; exact hnb b o n h⟩
  have hnil : μ id = some none → cs = [] := by
    intro h1
    rcases hbx with rfl | rfl <;> rcases hsb.box id _ hm with ⟨_, k2⟩ | ⟨b, o, k1, _⟩ <;> first | exact k2 | (rw [h1] at k1; cases k1)
  refine ⟨fun n sz v h => ?_, fun off n sz v h => ?_, fun off v h => ?_⟩
  · cases h with
    | gw0 h1 => rw [hnil h1]; exact .sl0
    | gw h1 hn hc =>
      obtain ⟨⟨vs, k1, k2⟩, k3, _⟩ := shown hk hsb hm hbx (by simp) h1
      exact .sl (fun _ => k3) k1.1 k2 k1.2 hn
  · cases h with
    | gs0 h1 => simpa using RelL.sl0
    | gs h1 hf hn hc =>
      obtain ⟨⟨vs, k1, k2⟩, k3, _⟩ := shown hk hsb hm hbx (by simp) h1
      have := (k1.drop off).take (n * sz)
      exact .sl (fun _ => k3) this.1 ((k2.drop _).take _) this.2 hn
  · cases h with
    | p h1 =>
      obtain ⟨⟨vs, k1, k2⟩, k3, _⟩ := shown hk hsb hm hbx (by simp) h1
      have := k1.drop off
      exact .pf (fun _ => k3) this.1 (k2.drop _) this.2

/-- what the new marks must keep -/
structure MuC (x : Bxs) (h : List (Nat × Nat)) (z keep : List Nat) (μ μ' : Mu) : Prop where
  c1 : ∀ id cs, boxOf x id = some (.st cs) → (isPar id || keep.elem id) = true → μ' id = μ id
  c2 : ∀ id cs t, boxOf x id = some (.ar cs) → assocN h id = some t → μ' t = μ id
  c3 : ∀ id cs, boxOf x id = some (.ar cs) → assocN h id = none → z.elem id = false → (isPar id || keep.elem id) = true → μ' id = μ id

def Frz (x : Bxs) (h : List (Nat × Nat)) (z : List Nat) (id : Nat) : Prop := ∃ cs, boxOf x id = some (.ar cs) ∧ assocN h id = none ∧ z.elem id = true

def Bless (x : Bxs) (h : List (Nat × Nat)) (z : List Nat) (μ : Mu) (B : Nat → Prop) (b : Nat) : Prop := B b ∧ ∀ id o n, Frz x h z id → μ id ≠ some (some (b, o, n))

theorem fix_rel {x : Bxs} {h : List (Nat × Nat)} {z keep : List Nat} {μ' : Mu} (hc : MuC x h z keep μ μ') (hsb : SB X (boxOf x) μ B w) {top : Bool} {l : L} {v : Value} (hl : RelL B w μ l v) (hk : ∀ id ∈ idsL l, keep.elem id = true) :
    RelL (Bless x h z μ B) w μ' (fixL x h z top l) v := by
  have hsub : ∀ b, Bless x h z μ B b → B b := fun b h => h.1
  have g : Grow B w (Bless x h z μ B) w := ⟨Nat.le_refl _, fun _ _ _ => rfl, fun _ h => h, fun b _ hb => hb.1⟩
  have frz : ∀ id cs, boxOf x id = some (.fz cs) → ∀ b o n, μ id = some (some (b, o, n)) → ¬ Bless x h z μ B b := by
    intro id cs hm b o n hmu hb
    rcases hsb.box id _ hm with ⟨k1, _⟩ | ⟨b', o', k1, _, k3, _⟩
    · rw [hmu] at k1; cases k1
    · rw [hmu] at k1; cases k1; exact k3 hb.1
  have far : ∀ id cs, boxOf x id = some (.ar cs) → assocN h id = none → z.elem id = true → ∀ b o n, μ id = some (some (b, o, n)) → ¬ Bless x h z μ B b :=
    fun id cs h1 h2 h3 b o n hmu hb => hb.2 id o n ⟨cs, h1, h2, h3⟩ hmu
  cases l with
  | i => cases hl; exact .i
  | b => cases hl; exact .b
  | tt => cases hl; exact .tt
  | ff => cases hl; exact .ff
  | s => cases hl; exact .s
  | np => cases hl; exact .np
  | f => cases hl; exact .f
  | u => exact .u
  | nl => cases hl; exact .nl
  | sl cs n =>
    have : RelL B w noMu (.sl cs n) v := by
      cases hl with
      | sl0 => exact .sl0
      | sl h1 h2 h3 h4 h5 => exact .sl h1 h2 h3 h4 h5
    exact this.grow g (noMu_le _)
  | pf cs =>
    have : RelL B w noMu (.pf cs) v := by
      cases hl with
      | pf h1 h2 h3 h4 => exact .pf h1 h2 h3 h4
    exact this.grow g (noMu_le _)
  | gw id n sz =>
    have hk := hk id (by simp [idsL])
    unfold fixL
    dsimp only
    cases hb : boxOf x id with
    | none => exact .u
    | some bx => cases bx with
      | st cs =>
        have := hc.c1 id cs hb (by rw [hk, Bool.or_true])
        cases hl with
        | gw0 h1 => exact .gw0 (by rw [this]; exact h1)
        | gw h1 h2 h3 => exact .gw (by rw [this]; exact h1) h2 h3
      | fz cs => exact (view hsub hsb hb (.inr rfl) (frz id cs hb)).1 n sz v hl
      | ar cs =>
        dsimp only
        cases ha : assocN h id with
        | some t =>
          have := hc.c2 id cs t hb ha
          cases top with
          | false => exact .u
          | true => cases hl with
            | gw0 h1 => exact .gw0 (by rw [this]; exact h1)
            | gw h1 h2 h3 => exact .gw (by rw [this]; exact h1) h2 h3
        | none =>
          dsimp only
          cases hz : z.elem id with
          | false => exact .u
          | true => exact (view hsub hsb hb (.inl rfl) (far id cs hb ha hz)).1 n sz v hl
  | gs id off n sz =>
    unfold fixL
    dsimp only
    cases hb : boxOf x id with
    | none => exact .u
    | some bx => cases bx with
      | st cs => exact .u
      | fz cs => exact (view hsub hsb hb (.inr rfl) (frz id cs hb)).2.1 off n sz v hl
      | ar cs =>
        dsimp only
        cases ha : assocN h id with
        | some t => exact .u
        | none =>
          dsimp only
          cases hz : z.elem id with
          | false => exact .u
          | true => exact (view hsub hsb hb (.inl rfl) (far id cs hb ha hz)).2.1 off n sz v hl
  | p id off =>
    have hk := hk id (by simp [idsL])
    unfold fixL
    dsimp only
    cases hb : boxOf x id with
    | none => exact .u
    | some bx => cases bx with
      | st cs =>
        have := hc.c1 id cs hb (by rw [hk, Bool.or_true])
        cases hl with
        | p h1 => exact .p (by rw [this]; exact h1)
      | fz cs => exact (view hsub hsb hb (.inr rfl) (frz id cs hb)).2.2 off v hl
      | ar cs =>
        dsimp only
        cases ha : assocN h id with
        | some t => exact .u
        | none =>
          dsimp only
          cases hz : z.elem id with
          | false =>
            have := hc.c3 id cs hb ha hz (by rw [hk, Bool.or_true])
            cases hl with
            | p h1 => exact .p (by rw [this]; exact h1)
          | true => exact (view hsub hsb hb (.inl rfl) (far id cs hb ha hz)).2.2 off v hl

theorem fix_rels {x : Bxs} {h : List (Nat × Nat)} {z keep : List Nat} {μ' : Mu} (hc : MuC x h z keep μ μ') (hsb : SB X (boxOf x) μ B w) {top : Bool} {ls : List L} {vs : List Value} (hl : Rels B w μ ls vs)
    (hk : ∀ id ∈ idsLs ls, keep.elem id = true) : Rels (Bless x h z μ B) w μ' (ls.map (fixL x h z top)) vs := by
  refine ⟨by simpa using hl.1, fun j l v h1 h2 => ?_⟩
  rw [List.getElem?_map] at h1
  cases hj : ls[j]? with
  | none => rw [hj] at h1; cases h1
  | some l0 =>
    rw [hj] at h1
    simp only [Option.map_some, Option.some.injEq] at h1
    subst h1
    exact fix_rel hc hsb (hl.2 j l0 v hj h2) fun id hid => hk id (idsL_mem (List.mem_of_getElem? hj) id hid)

theorem fix_relV {x : Bxs} {h : List (Nat × Nat)} {z keep : List Nat} {μ' : Mu} (hc : MuC x h z keep μ μ') (hsb : SB X (boxOf x) μ B w) {u : V} {v : Value} (hl : RelV B w μ u v)
    (hk : ∀ id ∈ idsV u, keep.elem id = true) : RelV (Bless x h z μ B) w μ' (fixV x h z u) v := by
  match u, hl with
  | .c (.o l), hl => exact fix_rel hc hsb hl hk
  | .c (.a ls), ⟨vs, hv, hl⟩ => exact ⟨vs, hv, fix_rels hc hsb hl hk⟩
  | .t _, _ => exact RelL.u

/-- the marks behind a region -/
def muC (x : Bxs) (h : List (Nat × Nat)) (z keep : List Nat) (μ : Mu) : Mu := fun i =>
  if isPar i = true then μ i else match x.find? fun q => tgt h z keep q == some i with
    | some q => μ q.1
    | none => none

theorem tgt_par {x : Bxs} {h : List (Nat × Nat)} (hh : ∀ id t, assocN h id = some t → isPar id = false ∧ isPar t = false) {z keep : List Nat} {q : Nat × Bx} {i : Nat} (ht : tgt h z keep q = some i) : isPar i = isPar q.1 := by
  obtain ⟨id, bx⟩ := q
  cases bx with
  | st cs =>
    simp only [tgt] at ht
    cases hc : isPar id || keep.elem id <;> rw [hc] at ht <;> cases ht
    rfl
  | ar cs =>
    simp only [tgt] at ht
    cases ha : assocN h id with
    | some t => rw [ha] at ht; cases ht; obtain ⟨h1, h2⟩ := hh _ _ ha; rw [h2]; exact h1.symm
    | none =>
      rw [ha] at ht
      dsimp only at ht
      cases hz : z.elem id <;> rw [hz] at ht
      · cases hc : isPar id || keep.elem id <;> rw [hc] at ht <;> cases ht
        rfl
      · cases ht
  | fz cs => cases ht

theorem tgt_st {h : List (Nat × Nat)} {z keep : List Nat} {id i : Nat} {cs : List L} (ht : tgt h z keep (id, .st cs) = some i) : i = id := by
  simp only [tgt] at ht
  cases hc : isPar id || keep.elem id <;> rw [hc] at ht <;> cases ht
  rfl

theorem tgt_pareq {h : List (Nat × Nat)} (hh : ∀ id t, assocN h id = some t → isPar id = false ∧ isPar t = false) {z keep : List Nat} {q : Nat × Bx} {i : Nat} (ht : tgt h z keep q = some i) (hp : isPar i = true) : i = q.1 := by
  obtain ⟨id, bx⟩ := q
  cases bx with
  | st cs => exact tgt_st ht
  | ar cs =>
    simp only [tgt] at ht
    cases ha : assocN h id with
    | some t => rw [ha] at ht; cases ht; rw [(hh _ _ ha).2] at hp; cases hp
    | none =>
      rw [ha] at ht
      dsimp only at ht
      cases hz : z.elem id <;> rw [hz] at ht
      · cases hc : isPar id || keep.elem id <;> rw [hc] at ht <;> cases ht
        rfl
      · cases ht
  | fz cs => cases ht

theorem tgt_notFrz {x : Bxs} {h : List (Nat × Nat)} {z keep : List Nat} {q : Nat × Bx} {i : Nat} (hb : boxOf x q.1 = some q.2) (ht : tgt h z keep q = some i) : ¬ Frz x h z q.1 := by
  rintro ⟨cs, h1, h2, h3⟩
  obtain ⟨id, bx⟩ := q
  rw [hb] at h1
  cases h1
  simp only [tgt, h2, h3, _root_.cond_true] at ht
  cases ht

/-- the dom of the marks -/
def Dom (x : Bxs) (μ : Mu) : Prop := ∀ id, μ id ≠ none → isPar id = true ∨ ∃ bx, boxOf x id = some bx

theorem canon_sound {N : Nat} {lv mv : List Nat} {st : St} {K : St → Prop} {a : Act} {w0 : World} {μ0 : Mu} (hs : SR X N st a w μ B) (hh : Hist X w0 μ0 μ w) (hk : canonK lv mv st K) :
    ∃ st' μ' B', K st' ∧ SR X N st' a w μ' B' ∧ Hist X w0 μ0 μ' w ∧ Dom st'.x μ' := by
  have hk : liveK st.e lv fun e => bif !nodupB (st.x.map (·.1)) then False else fixEK st.x (heldBy mv e) (zOf st e) e fun e' =>
    fixXK st.x (heldBy mv e) (zOf st e) (idsE e ++ idsX st.x) st.x fun x' => bif !nodupB (x'.map (·.1)) then False else K ⟨e', x'⟩ := hk
  rw [liveK_eq] at hk
  obtain ⟨hnd, hk⟩ := cond_false hk
  have hnd : (st.x.map (·.1)).Nodup := (nodupB_iff _).1 (by simpa using hnd)
  rw [fixEK_eq] at hk
  obtain ⟨x', hk, hperm⟩ := fixXK_elim _ _ _ _ _ _ hk
  obtain ⟨hnd', hk⟩ := cond_false hk
  have hnd' : (x'.map (·.1)).Nodup := (nodupB_iff _).1 (by simpa using hnd')
  generalize he : (lv.map fun t => (t, lookE st.e t)) = e at hk hperm
  generalize hhd : heldBy mv e = h at hk hperm
  generalize hzz : zOf st e = z at hk hperm
  generalize hkk : idsE e ++ idsX st.x = keep at hk hperm
  have hhn : ∀ id t, assocN h id = some t → isPar id = false ∧ isPar t = false := by
    intro id t hm
    subst hhd
    exact held_np (assocN_mem hm)
  have hinj : ∀ q q' i, q ∈ st.x → q' ∈ st.x → tgt h z keep q = some i → tgt h z keep q' = some i → q = q' := by
    have : (st.x.filterMap (tgt h z keep)).Nodup := by
      have := (hperm.map Prod.fst).nodup_iff.1 hnd'
      rw [List.map_filterMap] at this
      have e : (fun q : Nat × Bx => Option.map Prod.fst ((tgt h z keep q).map fun t => (t, tgtB st.x h z q.2))) = tgt h z keep := by
        funext q; cases tgt h z keep q <;> rfl
      rwa [e] at this
    exact fun q q' i h1 h2 h3 h4 => fm_inj this h1 h2 h3 h4
  have hmu : ∀ q i, q ∈ st.x → tgt h z keep q = some i → muC st.x h z keep μ i = μ q.1 := by
    intro q i hq ht
    unfold muC
    split
    · rename_i hp
      rw [tgt_pareq hhn ht hp]
    · cases hf : st.x.find? fun q => tgt h z keep q == some i with
      | none =>
        have := List.find?_eq_none.1 hf q hq
        simp [ht] at this
      | some q' =>
        have h1 := List.find?_some hf
        have h2 := List.mem_of_find?_eq_some hf
        simp only [beq_iff_eq] at h1
        rw [hinj q' q i h2 hq h1 ht]
  have mem : ∀ id bx, boxOf st.x id = some bx → (id, bx) ∈ st.x := fun id bx h => mem_of_boxOf h
  have hc : MuC st.x h z keep μ (muC st.x h z keep μ) := by
    refine ⟨fun id cs h1 h2 => hmu (id, .st cs) id (mem _ _ h1) ?_, fun id cs t h1 h2 => hmu (id, .ar cs) t (mem _ _ h1) ?_, fun id cs h1 h2 h3 h4 => hmu (id, .ar cs) id (mem _ _ h1) ?_⟩
    · simp only [tgt, h2, _root_.cond_true]
    · simp only [tgt, h2]
    · simp only [tgt, h2, h3, h4, _root_.cond_true, _root_.cond_false]
  have src : ∀ i bx', boxOf x' i = some bx' → ∃ q ∈ st.x, boxOf st.x q.1 = some q.2 ∧ tgt h z keep q = some i ∧ bx' = tgtB st.x h z q.2 := by
    intro i bx' hi
    have := hperm.mem_iff.1 (mem_of_boxOf hi)
    obtain ⟨q, hq, ht⟩ := List.mem_filterMap.1 this
    cases hq' : tgt h z keep q with
    | none => rw [hq'] at ht; cases ht
    | some t =>
      rw [hq'] at ht
      simp only [Option.map_some, Option.some.injEq, Prod.mk.injEq] at ht
      obtain ⟨rfl, rfl⟩ := ht
      exact ⟨q, hq, boxOf_of_mem hnd hq, hq', rfl⟩
  have hlv : ∀ b, live (tgtB st.x h z b) = live b := by intro b; cases b <;> rfl
  have g : Grow B w (Bless st.x h z μ B) w := ⟨Nat.le_refl _, fun _ _ _ => rfl, fun _ h => h, fun b _ hb => hb.1⟩
  -- a live box that is kept is not among the frozen ones
  have stay : ∀ q i, q ∈ st.x → boxOf st.x q.1 = some q.2 → tgt h z keep q = some i → live q.2 = true → ∀ b o n, μ q.1 = some (some (b, o, n)) → Bless st.x h z μ B b := by
    intro q i hq hb ht hl b o n hm
    refine ⟨(hs.sb.inB hb hl hm).1, fun id o' n' hf hm' => ?_⟩
    obtain ⟨cs, f1, f2, f3⟩ := hf
    have := hs.sb.sep q.1 id _ _ b o n o' n' hb f1 hl rfl hm hm'
    subst this
    exact tgt_notFrz hb ht ⟨cs, f1, f2, f3⟩
  refine ⟨_, muC st.x h z keep μ, Bless st.x h z μ B, hk, ⟨⟨?_, ?_, ?_, ?_, hs.sb.sz, fun b hb => hs.sb.blt b hb.1⟩, fun t => ?_, hs.sz, hs.dfr⟩, ⟨hh.base, hh.blk, hh.os, hh.tape, hh.output, fun id hid => ?_, hh.ex⟩, fun id hid => ?_⟩
  · intro i bx' hi
    obtain ⟨q, hq, hb, ht, rfl⟩ := src i bx' hi
    have hm := hmu q i hq ht
    have hbox := hs.sb.box _ _ hb
    have hst := stay q i hq hb ht
    obtain ⟨id, bx⟩ := q
    cases bx with
    | st cs =>
      obtain ⟨b, o, k1, ⟨vs, k2, k2'⟩, k3, k4, k5⟩ := hbox
      refine ⟨b, o, by rw [hm, k1]; simp, ⟨vs, fix_rels hc hs.sb k2 fun id hid => ?_, k2'⟩, k3, hst rfl _ _ _ k1, k5⟩
      rw [← hkk]
      simpa using Or.inr (idsX_mem hq id hid)
    | ar cs =>
      rcases hbox with ⟨k1, k2⟩ | ⟨b, o, k1, k2, k3, k4, k5⟩
      · exact .inl ⟨by rw [hm]; exact k1, k2⟩
      · exact .inr ⟨b, o, by rw [hm, k1], k2.grow g (noMu_le _) fun _ => rfl, k3, hst rfl _ _ _ k1, k5⟩
    | fz cs => cases ht
  · intro i i' b1 b2 b o n o' n' h1 h2 h3 h4 h5 h6
    obtain ⟨q, hq, hb, ht, rfl⟩ := src i _ h1
    obtain ⟨q', hq', hb', ht', rfl⟩ := src i' _ h2
    rw [hmu q i hq ht] at h5
    rw [hmu q' i' hq' ht'] at h6
    rw [hlv] at h3 h4
    have e := hs.sb.sep q.1 q'.1 _ _ b o n o' n' hb hb' h3 h4 h5 h6
    have : q = q' := by
      obtain ⟨a, b⟩ := q
      obtain ⟨a', b'⟩ := q'
      simp only at e hb hb'
      subst e
      rw [hb] at hb'; cases hb'; rfl
    subst this
    rw [ht] at ht'
    exact Option.some.inj ht'
  · intro i b1 b o n h1 h2 h3 h4
    obtain ⟨q, hq, hb, ht, rfl⟩ := src i _ h1
    rw [hmu q i hq ht] at h4
    rw [hlv] at h2
    exact hs.sb.loc q.1 _ b o n hb h2 (by rw [← tgt_par (x := st.x) hhn ht]; exact h3) h4
  · intro b hb
    refine ⟨hs.sb.bx b hb, fun id o n hf hm => ?_⟩
    obtain ⟨cs, f1, f2, f3⟩ := hf
    have hnp : isPar id = false := by
      rw [← hzz] at f3
      have := List.mem_filter.1 (List.elem_iff.1 f3)
      simpa using this.2
    have := hs.sb.loc id _ b o n f1 rfl hnp hm
    have := X.lt b hb
    omega
  · rw [lookE_fix]
    rw [← he]
    rcases lookE_live st.e lv t with h1 | h1
    · have h2 := idsE_look (lv.map fun t => (t, lookE st.e t)) t
      rw [h1] at h2 ⊢
      refine fix_relV hc hs.sb (hs.env t) fun id hid => ?_
      rw [← hkk]
      have := h2 id hid
      rw [he] at this
      simpa using Or.inl this
    · rw [h1]; exact RelL.u
  · unfold muC; rw [if_pos hid]; exact hh.par id hid
  · unfold muC at hid
    split at hid
    · rename_i hp; exact .inl hp
    · right
      cases hf : st.x.find? fun q => tgt h z keep q == some id with
      | none => rw [hf] at hid; exact absurd rfl hid
      | some q =>
        have h1 := List.find?_some hf
        have h2 := List.mem_of_find?_eq_some hf
        simp only [beq_iff_eq] at h1
        exact ⟨_, boxOf_of_mem hnd' (hperm.mem_iff.2 (List.mem_filterMap.2 ⟨q, h2, by rw [h1]; rfl⟩))⟩

end
end Go.Sx

/-
  The evaluator is right about whole pieces of code.
-/
namespace Go.Sx

def exOf : Ex → Exit
  | .normal => .normal
  | .exit id => .exit id
  | .ret => .ret

def Inv (X : Cx) (N : Nat) (w0 : World) (μ0 : Mu) (st : St) (a : Act) (w : World) : Prop := ∃ μ B, SR X N st a w μ B ∧ Hist X w0 μ0 μ w ∧ Dom st.x μ

def Post (X : Cx) (N : Nat) (w0 : World) (μ0 : Mu) (K : Ex → St → Prop) (e : Exit) (a : Act) (w : World) : Prop := ∃ ex st, e = exOf ex ∧ K ex st ∧ Inv X N w0 μ0 st a w

section
variable {P : Program} {X : Cx} {G : Par} {w0 : World} {μ0 : Mu}

/-- what a program's parameters must keep -/
structure Good (P : Program) (G : Par) : Prop where
  F : G.F = Fn P
  T : TOk P G.T
  E : ∀ t, (G.T t).eq = true → EqTy P t (G.T t).zero
  N : G.N ≤ 1000
  Z : ∀ t e, (G.T t).d = .slice e → idsLs (G.T e).zero = []
  M : P.follows .mixedOrders = true

theorem pend_start {ops : List Oper} {x : Bxs} {μ : Mu} (h : okStart ops x = true) (hd : Dom x μ) (hN : ∀ o ∈ ops, creates o.op = true → o.dst.getD 99998 % 10000 < 1000 ∨ o.dst.getD 99998 % 10000 = 9998) : nodupB (crDsts ops) = true ∧ Pend μ ops := by
  simp only [okStart, Bool.and_eq_true] at h
  refine ⟨h.1, fun o ho hc j => ?_⟩
  cases hm : μ (o.dst.getD 99998 % 10000 + 10000 * j) with
  | none => rfl
  | some l =>
    exfalso
    have hmem : (o.dst.getD 99998 % 10000) ∈ crDsts ops := List.mem_filterMap.2 ⟨o, ho, by simp [hc]⟩
    rcases hd _ (by rw [hm]; simp) with h1 | ⟨bx, h1⟩
    · have hN := hN o ho hc
      generalize o.dst.getD 99998 % 10000 = d at hN h1
      have : isPar (d + 10000 * j) = false := by
        rcases hN with h2 | h2
        · exact par_no (.inl h2) j
        · subst h2
          unfold isPar
          rw [Bool.and_eq_false_iff]
          right
          cases h2 : Nat.blt (9998 + 10000 * j) 2000 with
          | false => rfl
          | true => have : 9998 + 10000 * j + 1 ≤ 2000 := Nat.le_of_ble_eq_true h2; omega
      rw [this] at h1; cases h1
    · have := List.all_eq_true.1 h.2 _ (mem_of_boxOf h1)
      simp only [Nat.add_mul_mod_self_left, Nat.mod_mod, Bool.not_eq_true'] at this
      rw [List.elem_eq_true_of_mem hmem] at this
      cases this

theorem dsts_of_opsK {all : List Oper} (hN : G.N ≤ 1000) (ops : List Oper) : (∀ o ∈ ops, dstOk G.N o.dst = true) → ∀ o ∈ ops, creates o.op = true → o.dst.getD 99998 % 10000 < 1000 ∨ o.dst.getD 99998 % 10000 = 9998 := by
  intro h o ho _
  rcases dst_cases hN (h o ho) _ rfl with h1 | h1
  · left; exact Nat.lt_of_le_of_lt (Nat.mod_le _ _) h1
  · right; rw [h1]

theorem region_sound (hg : Good P G) {id : Nat} {ops : Array Oper} {st : St} {K : Ex → St → Prop} {a : Act} {w : World} (hi : Inv X G.N w0 μ0 st a w) (hk : awp G (.region id ops false) st K) :
    (Code.region id ops false).wp P (Post X G.N w0 μ0 K) a w := by
  obtain ⟨μ, B, hs, hh, hd⟩ := hi
  obtain ⟨h1, hk⟩ := cond_false (show bif !okStart ops.toList st.x || !(ops.toList.all fun o => dstOk G.N o.dst) then False else opsK G ops.toList ops.toList st [] fun st' _ => canonK (G.live id) G.mv st' fun st'' => K .normal st'' from hk)
  simp only [Bool.or_eq_false_iff, Bool.not_eq_false'] at h1
  obtain ⟨h2, h3⟩ := pend_start h1.1 hd (dsts_of_opsK (all := ops.toList) hg.N _ (fun o ho => List.all_eq_true.1 h1.2 o ho))
  refine wp_region ?_
  have := ops_sound (P := P) (X := X) (w0 := w0) (μ0 := μ0) hg.F hg.T hg.E hg.N (arr := ops) (Q := Post X G.N w0 μ0 K) ops.toList 0 st [] _ a w μ B (fun j => by simp) hs hh h2 h3 hk (fun st' inf' a' w' μ' B' hk' hs' hh' => by
    obtain ⟨st2, μ2, B2, k1, k2, k3, k4⟩ := canon_sound hs' hh' hk'
    exact ⟨.normal, st2, rfl, k1, μ2, B2, k2, k3, k4⟩)
  rw [List.range_eq_range']
  simpa using this

theorem drawn_sb {w : World} {μ : Mu} {B : Nat → Prop} {m : Nat → Option Bx} (h : SB X m μ B w) : SB X m μ B { w with drawn := w.drawn + 1 } := by
  have g : Grow B w B { w with drawn := w.drawn + 1 } := ⟨Nat.le_refl _, fun _ _ _ => rfl, fun _ h => h, fun _ _ h => h⟩
  have row : ∀ {μ : Mu} {cs : List L} {b o : Nat}, Row B w μ cs b o → Row B { w with drawn := w.drawn + 1 } μ cs b o := fun h => h.grow g (fun _ _ h => h) fun _ => rfl
  refine ⟨fun id bx hm => ?_, h.sep, h.loc, h.bx, h.sz, h.blt⟩
  have hb := h.box id bx hm
  cases bx with
  | st cs => obtain ⟨b, o, k1, k2, k3, k4⟩ := hb; exact ⟨b, o, k1, row k2, k3, k4⟩
  | ar cs => rcases hb with k | ⟨b, o, k1, k2, k3, k4⟩
             · exact .inl k
             · exact .inr ⟨b, o, k1, row k2, k3, k4⟩
  | fz cs => rcases hb with k | ⟨b, o, k1, k2, k4⟩
             · exact .inl k
             · exact .inr ⟨b, o, k1, row k2, k4⟩

theorem drawn_sound (hg : Good P G) {id : Nat} {ops : Array Oper} {st : St} {K : Ex → St → Prop} {a : Act} {w : World} (hi : Inv X G.N w0 μ0 st a w) (hk : awp G (.region id ops true) st K) :
    (Code.region id ops true).wp P (Post X G.N w0 μ0 K) a w := by
  obtain ⟨μ, B, hs, hh, hd⟩ := hi
  obtain ⟨h1, hk⟩ := cond_false (show bif !okStart ops.toList st.x || !(ops.toList.all fun o => dstOk G.N o.dst) then False else opsK G ops.toList ops.toList st [] fun st' inf => drawK (statB ops.toList (G.mask id)) (dynB inf (G.mask id)) (canonK (G.live id) G.mv st' fun st'' => K .normal st'') from hk)
  simp only [Bool.or_eq_false_iff, Bool.not_eq_false'] at h1
  obtain ⟨h2, h3⟩ := pend_start h1.1 hd (dsts_of_opsK (all := ops.toList) hg.N _ (fun o ho => List.all_eq_true.1 h1.2 o ho))
  obtain ⟨evs, new, st', ⟨⟨hstat, hdyn⟩, hk⟩, k2, k3, k4, k5, k6⟩ := ops_trace ops.toList st [] _ (lookE st.e) (fun t => Eqv.refl _) hk
  rw [List.append_nil] at hdyn
  have told : Told G ops (G.mask id) st evs new := ⟨k2, k3, k4, hstat, hdyn⟩
  refine wp_region_any hg.M ?_
  refine draw_run (X := X) (w0 := w0) (μ0 := μ0) hg.F hg.T hg.E hg.N hg.Z told h2 (fun S a w μ B hall hm => ?_) ops.size (Array.replicate ops.size false) (List.range ops.size) (by simp) (by simp) (fun i hi _ => by simpa using hi) ⟨fun k o hk hs => ?_⟩ a _ μ B ?_
  · have he : eS ops evs st S = preF (upEs ops.toList evs) (lookE st.e) := foldS_all _ _ _ fun j hj => by
      rw [Nat.zero_add]; exact hall j (by rw [upEs_len k2] at hj; simpa using hj)
    have hx : mS evs st S = preF (upMs evs) (boxOf st.x) := foldS_all _ _ _ fun j hj => by
      rw [Nat.zero_add]; exact hall j (by simp only [upMs, List.length_map] at hj; rw [k2] at hj; simpa using hj)
    have hsr : SR X G.N st' a w μ B := ⟨by rw [k6, ← hx]; exact hm.sb, fun t => k5 t _ _ _ _ (by rw [← he]; exact hm.env t), hm.sz, hm.dfr⟩
    obtain ⟨st2, μ2, B2, g1, g2, g3, g4⟩ := canon_sound hsr hm.hist hk
    exact ⟨.normal, st2, rfl, g1, μ2, B2, g2, g3, g4⟩
  · have : (Array.replicate ops.size false).getD k false = false := by
      simp only [Array.getD]; split <;> simp
    rw [this] at hs; cases hs
  · have hS : ∀ j, (Array.replicate ops.size false).getD j false = false := fun j => by
      simp only [Array.getD]; split <;> simp
    have he : eS ops evs st (fun i => (Array.replicate ops.size false).getD i false) = lookE st.e := foldS_none _ _ _ fun j _ => hS _
    have hx : mS evs st (fun i => (Array.replicate ops.size false).getD i false) = boxOf st.x := foldS_none _ _ _ fun j _ => hS _
    have g : Grow B w B { w with drawn := w.drawn + 1 } := ⟨Nat.le_refl _, fun _ _ _ => rfl, fun _ h => h, fun _ _ h => h⟩
    refine ⟨by rw [hx]; exact drawn_sb hs.sb, fun t => ?_, hs.sz, hs.dfr, ⟨hh.base, hh.blk, hh.os, hh.tape, hh.output, hh.par, hh.ex⟩, fun i o ho _ hc j => h3 o ?_ hc j⟩
    · rw [he]; exact (hs.env t).grow g fun _ _ h => h
    · have : o ∈ ops := Array.mem_of_getElem? ho
      simpa using this

theorem awp_sound (hg : Good P G) (c : Code) : ∀ (st : St) (K : Ex → St → Prop) (a : Act) (w : World), Inv X G.N w0 μ0 st a w → awp G c st K → c.wp P (Post X G.N w0 μ0 K) a w := by
  induction c with
  | skip => exact fun st K a w hi hk => wp_skip ⟨.normal, st, rfl, hk, hi⟩
  | region id ops draw =>
    intro st K a w hi hk
    cases draw with
    | false => exact region_sound hg hi hk
    | true => exact drawn_sound hg hi hk
  | seq x y ihx ihy =>
    intro st K a w hi hk
    refine wp_seq (wp_mono (ihx st _ a w hi hk) ?_)
    rintro e a' w' ⟨ex, st', rfl, hk', hi'⟩
    cases ex with
    | normal => exact ihy st' K a' w' hi' hk'
    | exit id => exact ⟨.exit id, st', rfl, hk', hi'⟩
    | ret => exact ⟨.ret, st', rfl, hk', hi'⟩
  | cond c x y ihx ihy =>
    intro st K a w hi hk
    change operandK st.e c _ at hk
    rw [operandK_eq] at hk
    have hi' := hi
    obtain ⟨μ, B, hs, hh, hd⟩ := hi'
    have hr := operand_rel hs c
    generalize operandV st.e c = v at hk hr
    generalize hu : a.eval c = u at hr
    cases v with
    | t _ => exact hk.elim
    | c v => cases v with
      | a _ => exact hk.elim
      | o l =>
        cases l <;> try exact hk.elim
        case tt => cases hr; exact wp_cond_true hu (ihx st K a w hi hk)
        case ff => cases hr; exact wp_cond_false hu (ihy st K a w hi hk)
        case b t => cases hr; exact wp_cond_split hu (fun ht => ihx st K a w hi (hk.1 ht)) (fun ht => ihy st K a w hi (hk.2 ht))
  | block id body ih =>
    intro st K a w hi hk
    refine wp_block (wp_mono (ih st _ a w hi hk) ?_)
    rintro e a' w' ⟨ex, st', rfl, hk', hi'⟩
    cases ex with
    | normal => exact ⟨.normal, st', rfl, hk', hi'⟩
    | ret => exact ⟨.ret, st', rfl, hk', hi'⟩
    | exit j =>
      show if j = id then _ else _
      change (bif Nat.beq j id then K .normal st' else K (.exit j) st') at hk'
      by_cases hj : j = id
      · subst hj
        rw [if_pos rfl]
        simp at hk'
        exact ⟨.normal, st', rfl, hk', hi'⟩
      · rw [if_neg hj]
        rw [beq_ne hj] at hk'
        exact ⟨.exit j, st', rfl, hk', hi'⟩
  | loop body ih =>
    intro st K a w hi hk
    obtain ⟨n, hk⟩ := hk
    refine wp_loop_rounds n ?_
    induction n generalizing st a w with
    | zero => exact hk.elim
    | succ n ihn =>
      refine wp_mono (ih st _ a w hi hk) ?_
      rintro e a' w' ⟨ex, st', rfl, hk', hi'⟩
      cases ex with
      | normal => exact ihn st' a' w' hi' hk'
      | exit id => exact ⟨.exit id, st', rfl, hk', hi'⟩
      | ret => exact ⟨.ret, st', rfl, hk', hi'⟩
  | exit id => exact fun st K a w hi hk => wp_exit ⟨.exit id, st, rfl, hk, hi⟩
  | ret => exact fun st K a w hi hk => wp_ret ⟨.ret, st, rfl, hk, hi⟩
  | rangeFunc f ps as b _ _ => exact fun st K a w hi hk => hk.elim
  | scope b _ => exact fun st K a w hi hk => hk.elim
  | label l => exact fun st K a w hi hk => hk.elim
  | goto l => exact fun st K a w hi hk => hk.elim
  | refuse y => exact fun st K a w hi hk => hk.elim

end
end Go.Sx

/-
  A function's beginning and its end.
-/
namespace Go.Sx

/-- a result, against what the contract says of it: the boxes that are frozen for it, and the box that goes out with it -/
noncomputable def outK (x : LK) (r : R) (v : V) (K : List Nat → List Nat → Prop) : Prop :=
  match v with
  | .c c => match r with
    | .fr cs n sz => match c with
      | .o l => match l with
        | .gw id n' sz' => x id fun bx => match bx with
          | .ar cs' => bif isPar id then False else sideK (cs = cs' ∧ n = n' ∧ sz = sz') (K [] [id])
          | _ => False
        | .nl => sideK (cs = [] ∧ n = 0) (K [] [])
        | _ => False
      | .a _ => False
    | .c (.o l') => match c with
      | .o l => closeK x [l] fun ls ef => sideK (ls = [l']) (K (ef.map (·.1)) [])
      | .a _ => False
    | .c (.a ls') => match c with
      | .a ls => closeK x ls fun ls ef => sideK (ls = ls') (K (ef.map (·.1)) [])
      | .o _ => False
  | .t _ => False

noncomputable def outsK (x : LK) (rs : List R) : List V → (List Nat → List Nat → Prop) → Prop :=
  List.rec (motive := fun _ => List V → (List Nat → List Nat → Prop) → Prop)
    (fun vs K => match vs with
      | [] => K [] []
      | _ => False)
    (fun r _ ih vs K => match vs with
      | [] => False
      | v :: q => outK x r v fun fz fr => ih q fun fz' fr' => K (fz ++ fz') (fr ++ fr')) rs

noncomputable def boxesK (x : LK) (bs : Bxs) : (List Nat → Prop) → Prop :=
  List.rec (motive := fun _ => (List Nat → Prop) → Prop) (fun K => K [])
    (fun q _ ih K => x q.1 fun bx => match bx with
      | .st cl => match q.2 with
        | .st cl' => closeK x cl fun ls ef => sideK (ls = cl') (ih fun fz => K (ef.map (·.1) ++ fz))
        | _ => False
      | .ar cs => match q.2 with
        | .ar cs' => sideK (cs = cs') (ih K)
        | _ => False
      | .fz _ => False) bs

noncomputable def resVK (T : TypeId → TI) (st : St) (rv : List ResultVar) : (List V → Prop) → Prop :=
  List.rec (motive := fun _ => (List V → Prop) → Prop) (fun K => K [])
    (fun r _ ih K => match r with
      | .tmp t => getK st.e t fun v => ih fun vs => K (v :: vs)
      | .cell a t => getK st.e a fun p => loadSem (T t) p (lookK st.x) fun v => ih fun vs => K (v :: vs)) rv

def shapeOk (res : Res) (n : Nat) : Bool :=
  match res with
  | .one _ => Nat.beq n 1
  | .tup _ => !Nat.beq n 1

noncomputable def finK (T : TypeId → TI) (rv : List ResultVar) (bs : Bxs) (res : Res) (bs' : Bxs) (st : St) : Prop :=
  resVK T st rv fun vs => outsK (lookK st.x) (resList res) vs fun fz fr => boxesK (lookK st.x) bs' fun fz' =>
    bif nodupB fr && (fr.all (fun id => !(fz ++ fz').elem id) && shapeOk res rv.length) then bs'.map (·.1) = bs.map (·.1) else False

section
variable {P : Program} {B : Nat → Prop} {w : World} {μ : Mu} {X : Cx} {m : Nat → Option Bx} {T : TypeId → TI}

/-- what is known of one result -/
inductive OutR (m : Nat → Option Bx) (μ : Mu) (B : Nat → Prop) (w : World) : R → V → Value → List Nat → List Nat → Prop where
  | gw {id n sz cs u} (h1 : m id = some (.ar cs)) (h2 : isPar id = false) (h3 : RelL B w μ (.gw id n sz) u) : OutR m μ B w (.fr cs n sz) (.c (.o (.gw id n sz))) u [] [id]
  | nl {sz} : OutR m μ B w (.fr [] 0 sz) (.c (.o .nl)) (.slice none 0 0) [] []
  | c {c v u fz} (h1 : ∀ id ∈ fz, ∃ cs, m id = some (.ar cs) ∧ isPar id = false) (h2 : ∀ rd Bk, (∀ id ∈ fz, id ∈ rd) → BkOk rd μ B Bk → RelC Bk w noMu c u) : OutR m μ B w (.c c) v u fz []

theorem FzEff.np {ef : Eff} (h : FzEff m ef) : ∀ id ∈ ef.map (·.1), ∃ cs, m id = some (.ar cs) ∧ isPar id = false := by
  intro id hid
  obtain ⟨q, hq, rfl⟩ := List.mem_map.1 hid
  obtain ⟨cs, _, h2, h3⟩ := h q hq
  exact ⟨cs, h2, h3⟩

theorem out_sound (hsb : SB X m μ B w) {r : R} {v : V} {u : Value} {K : List Nat → List Nat → Prop} (h : outK (lkm m) r v K) (hr : RelV B w μ v u) : ∃ fz fr, K fz fr ∧ OutR m μ B w r v u fz fr := by
  cases v with
  | t _ => exact h.elim
  | c c =>
    cases r with
    | fr cs n sz =>
      cases c with
      | a _ => exact h.elim
      | o l =>
        cases l <;> try exact h.elim
        case gw id n' sz' =>
          obtain ⟨bx, hb, h⟩ := h
          cases bx <;> try exact h.elim
          case ar cs' =>
            obtain ⟨h1, ⟨rfl, rfl, rfl⟩, h2⟩ := cond_false h
            exact ⟨_, _, h2, .gw hb h1 hr⟩
        case nl =>
          obtain ⟨⟨rfl, rfl⟩, h⟩ := h
          have hr : RelL B w μ .nl u := hr
          cases hr
          exact ⟨_, _, h, .nl⟩
    | c x =>
      cases x with
      | o l' =>
        cases c with
        | a _ => exact h.elim
        | o l =>
          have hrs : Rels B w μ [l] [u] := ⟨rfl, fun j a b h1 h2 => by
            cases j with
            | zero => simp at h1 h2; subst h1; subst h2; exact hr
            | succ j => simp at h1⟩
          obtain ⟨ls', ef, ⟨rfl, hk⟩, h2, h3, h4⟩ := close_shown hsb hrs (K := fun ls (ef : Eff) => sideK (ls = [l']) (K (List.map (fun x : Nat × Option Bx => x.1) ef) [])) h
          exact ⟨_, _, hk, .c h2.np fun rd Bk h5 h6 => (h4 rd Bk h5 h6).2 0 l' u rfl rfl⟩
      | a ls' =>
        cases c with
        | o _ => exact h.elim
        | a ls =>
          obtain ⟨vs, rfl, hrs⟩ := hr
          obtain ⟨_, ef, ⟨rfl, hk⟩, h2, h3, h4⟩ := close_shown hsb hrs (K := fun ls (ef : Eff) => sideK (ls = ls') (K (List.map (fun x : Nat × Option Bx => x.1) ef) [])) h
          exact ⟨_, _, hk, .c h2.np fun rd Bk h5 h6 => ⟨vs, rfl, h4 rd Bk h5 h6⟩⟩

structure OutsR (m : Nat → Option Bx) (μ : Mu) (B : Nat → Prop) (w : World) (rs : List R) (vs : List V) (us : List Value) (fz fr : List Nat) : Prop where
  len : rs.length = us.length ∧ vs.length = us.length
  at_ : ∀ (j : Nat) r v u, rs[j]? = some r → vs[j]? = some v → us[j]? = some u → ∃ f g, OutR m μ B w r v u f g ∧ (∀ id ∈ f, id ∈ fz) ∧ (∀ id ∈ g, id ∈ fr)
  inj : fr.Nodup → ∀ (j j' : Nat) r r' v v' u u' f f' id, rs[j]? = some r → rs[j']? = some r' → vs[j]? = some v → vs[j']? = some v' → us[j]? = some u → us[j']? = some u' → OutR m μ B w r v u f [id] → OutR m μ B w r' v' u' f' [id] → j = j'
  fz : ∀ id ∈ fz, ∃ cs, m id = some (.ar cs) ∧ isPar id = false

theorem OutR.same {r : R} {v : V} {u : Value} {f g f' g' : List Nat} (h : OutR m μ B w r v u f g) (k : OutR m μ B w r v u f' g') : g = g' := by
  cases h <;> cases k <;> rfl

theorem outs_sound (hsb : SB X m μ B w) (rs : List R) : ∀ {vs : List V} {us : List Value} {K : List Nat → List Nat → Prop}, outsK (lkm m) rs vs K → vs.length = us.length → (∀ (j : Nat) v u, vs[j]? = some v → us[j]? = some u → RelV B w μ v u) →
    ∃ fz fr, K fz fr ∧ OutsR m μ B w rs vs us fz fr := by
  induction rs with
  | nil =>
    intro vs us K h hl hr
    cases vs with
    | cons _ _ => exact h.elim
    | nil =>
      cases us with
      | cons _ _ => simp at hl
      | nil => exact ⟨_, _, h, ⟨rfl, rfl⟩, by simp, by simp, by simp⟩
  | cons r q ih =>
    intro vs us K h hl hr
    cases vs with
    | nil => exact h.elim
    | cons v vs =>
      cases us with
      | nil => simp at hl
      | cons u us =>
        obtain ⟨f, g, h, ho⟩ := out_sound hsb (K := fun fz fr => outsK (lkm m) q vs fun fz' fr' => K (fz ++ fz') (fr ++ fr')) h (hr 0 v u rfl rfl)
        obtain ⟨fz, fr, hk, hq⟩ := ih h (by simpa using hl) (fun j a b h1 h2 => hr (j + 1) a b h1 h2)
        refine ⟨_, _, hk, ⟨by simp [hq.len.1], by simp [hq.len.2]⟩, ?_, ?_, ?_⟩
        · intro j r' v' u' h1 h2 h3
          cases j with
          | zero =>
            simp at h1 h2 h3; subst h1; subst h2; subst h3
            exact ⟨f, g, ho, fun id h => List.mem_append_left _ h, fun id h => List.mem_append_left _ h⟩
          | succ j =>
            obtain ⟨f', g', k1, k2, k3⟩ := hq.at_ j r' v' u' (by simpa using h1) (by simpa using h2) (by simpa using h3)
            exact ⟨f', g', k1, fun id h => List.mem_append_right _ (k2 id h), fun id h => List.mem_append_right _ (k3 id h)⟩
        · intro hnd j j' r1 r2 v1 v2 u1 u2 f1 f2 id h1 h2 h3 h4 h5 h6 o1 o2
          have hnd' := List.nodup_append.1 hnd
          cases j with
          | zero =>
            cases j' with
            | zero => rfl
            | succ j' =>
              exfalso
              simp only [List.getElem?_cons_zero, Option.some.injEq] at h1 h3 h5
              subst h1; subst h3; subst h5
              have hg := ho.same o1
              obtain ⟨f', g', k1, _, k3⟩ := hq.at_ j' r2 v2 u2 (by simpa using h2) (by simpa using h4) (by simpa using h6)
              have hg' := k1.same o2
              subst hg; subst hg'
              exact hnd'.2.2 id (by simp) id (k3 id (by simp)) rfl
          | succ j =>
            cases j' with
            | zero =>
              exfalso
              simp only [List.getElem?_cons_zero, Option.some.injEq] at h2 h4 h6
              subst h2; subst h4; subst h6
              have hg := ho.same o2
              obtain ⟨f', g', k1, _, k3⟩ := hq.at_ j r1 v1 u1 (by simpa using h1) (by simpa using h3) (by simpa using h5)
              have hg' := k1.same o1
              subst hg; subst hg'
              exact hnd'.2.2 id (by simp) id (k3 id (by simp)) rfl
            | succ j' =>
              have := hq.inj hnd'.2.1 j j' r1 r2 v1 v2 u1 u2 f1 f2 id (by simpa using h1) (by simpa using h2) (by simpa using h3) (by simpa using h4) (by simpa using h5) (by simpa using h6) o1 o2
              omega
        · intro id hid
          rcases List.mem_append.1 hid with h1 | h1
          · cases ho with
            | gw => cases h1
            | nl => cases h1
            | c k1 k2 => exact k1 id h1
          · exact hq.fz id h1

theorem boxes_sound (hsb : SB X m μ B w) (bs : Bxs) : ∀ {K : List Nat → Prop}, boxesK (lkm m) bs K →
    ∃ fz, K fz ∧ (∀ id ∈ fz, ∃ cs, m id = some (.ar cs) ∧ isPar id = false) ∧ ∀ k bx, (k, bx) ∈ bs → ∀ rd Bk, (∀ id ∈ fz, id ∈ rd) → BkOk rd μ B Bk → BoxC Bk w μ k bx := by
  induction bs with
  | nil => exact fun h => ⟨_, h, by simp, by simp⟩
  | cons q r ih =>
    intro K h
    obtain ⟨k, b'⟩ := q
    obtain ⟨bx, hb, h⟩ := (show lkm m k _ from h)
    cases bx with
    | fz _ => exact h.elim
    | st cl =>
      cases b' with
      | ar _ => exact h.elim
      | fz _ => exact h.elim
      | st cl' =>
        obtain ⟨b, o, k1, ⟨vs, k2, k2'⟩, k3, k4, k5⟩ := hsb.box k _ hb
        obtain ⟨_, ef, ⟨rfl, hn⟩, h2, h3, h4⟩ := close_shown hsb k2 (K := fun ls (ef : Eff) => sideK (ls = cl') (boxesK (lkm m) r fun fz => K (List.map (fun x : Nat × Option Bx => x.1) ef ++ fz))) h
        obtain ⟨fz, hk, h5, h6⟩ := ih hn
        refine ⟨_, hk, fun id hid => ?_, fun k' bx' hm rd Bk hrd hbk => ?_⟩
        · rcases List.mem_append.1 hid with h1 | h1
          · exact h2.np id h1
          · exact h5 id h1
        · cases hm with
          | head => exact ⟨b, o, by rw [k1, h3, k2.1], ⟨vs, h4 rd Bk (fun id h => hrd id (List.mem_append_left _ h)) hbk, k2'⟩, k3⟩
          | tail _ hm => exact h6 k' bx' hm rd Bk (fun id h => hrd id (List.mem_append_right _ h)) hbk
    | ar cs =>
      cases b' with
      | st _ => exact h.elim
      | fz _ => exact h.elim
      | ar cs' =>
        obtain ⟨he, hn⟩ := (show sideK (cs = cs') (boxesK (lkm m) r K) from h)
        subst he
        obtain ⟨fz, hk, h5, h6⟩ := ih hn
        refine ⟨fz, hk, h5, fun k' bx' hm rd Bk hrd hbk => ?_⟩
        cases hm with
        | head =>
          rcases hsb.box k _ hb with h1 | ⟨b, o, k1, k2, k3, k4, k5⟩
          · exact .inl h1
          · exact .inr ⟨b, o, k1, k2.grow hbk.grow (noMu_le _) fun _ => rfl, k3⟩
        | tail _ hm => exact h6 k' bx' hm rd Bk hrd hbk

end
end Go.Sx

/-
  A contract from the walk of a body.
-/
namespace Go.Sx

def envOf (cs : List C) (k : Nat) : Env :=
  match cs with
  | [] => []
  | c :: r => (k, .c c) :: envOf r (k + 1)

def entryOk (n : Nat) (cs : List C) (bs : Bxs) : Bool :=
  Nat.ble cs.length n && (nodupB (bs.map (·.1)) && ((bs.all fun q => live q.2 && isPar q.1) && ((cs.flatMap idsC).all (fun id => (boxOf bs id).isSome) && (idsX bs).all (fun id => (boxOf bs id).isSome))))

section
variable {P : Program} {B : Nat → Prop} {w : World} {μ : Mu} {X : Cx} {m : Nat → Option Bx} {T : TypeId → TI}

theorem RelL.on {μ' : Mu} {l : L} {v : Value} (h : RelL B w μ l v) (hm : ∀ id ∈ idsL l, μ' id = μ id) : RelL B w μ' l v := by
  cases h with
  | i => exact .i
  | b => exact .b
  | tt => exact .tt
  | ff => exact .ff
  | s => exact .s
  | np => exact .np
  | f => exact .f
  | u => exact .u
  | nl => exact .nl
  | sl0 => exact .sl0
  | sl h1 h2 h3 h4 h5 => exact .sl h1 h2 h3 h4 h5
  | pf h1 h2 h3 h4 => exact .pf h1 h2 h3 h4
  | gw0 h1 => exact .gw0 (by rw [hm _ (by simp [idsL])]; exact h1)
  | gw h1 h2 h3 => exact .gw (by rw [hm _ (by simp [idsL])]; exact h1) h2 h3
  | gs0 h1 => exact .gs0 (by rw [hm _ (by simp [idsL])]; exact h1)
  | gs h1 h2 h3 h4 => exact .gs (by rw [hm _ (by simp [idsL])]; exact h1) h2 h3 h4
  | p h1 => exact .p (by rw [hm _ (by simp [idsL])]; exact h1)

theorem RelL.on' {μ' : Mu} {id id' n sz : Nat} {v : Value} (h : RelL B w μ (.gw id n sz) v) (hm : μ' id' = μ id) : RelL B w μ' (.gw id' n sz) v := by
  cases h with
  | gw0 h1 => exact .gw0 (by rw [hm]; exact h1)
  | gw h1 h2 h3 => exact .gw (by rw [hm]; exact h1) h2 h3

theorem Rels.on {μ' : Mu} {ls : List L} {vs : List Value} (h : Rels B w μ ls vs) (hm : ∀ id ∈ idsLs ls, μ' id = μ id) : Rels B w μ' ls vs :=
  ⟨h.1, fun j l v h1 h2 => (h.2 j l v h1 h2).on fun id hid => hm id (idsL_mem (List.mem_of_getElem? h1) id hid)⟩

theorem RelC.on {μ' : Mu} {c : C} {v : Value} (h : RelC B w μ c v) (hm : ∀ id ∈ idsC c, μ' id = μ id) : RelC B w μ' c v := by
  cases c with
  | o l => exact RelL.on h hm
  | a ls => obtain ⟨vs, rfl, h⟩ := h; exact ⟨vs, rfl, h.on hm⟩

/-- the marks of the boxes that came in -/
def muIn (bs : Bxs) (μ : Mu) : Mu := fun id => if (boxOf bs id).isSome then μ id else none

theorem loadSem_ptr {ti : TI} {a : V} {x : LK} {K : V → Prop} {va : Value} (h : loadSem ti a x K) (ha : RelV B w μ a va) : ∃ ad, va = .pointer (some ad) := by
  obtain ⟨_, h⟩ := cond_false h
  match a, h, ha with
  | .c (.o (.p id off)), _, ha => obtain ⟨b, o, n, _, rfl⟩ := ha.ptr; exact ⟨_, rfl⟩
  | .c (.o (.pf cs)), _, ha =>
    have ha' : RelL B w μ (.pf cs) va := ha
    cases ha' with
    | pf => exact ⟨_, rfl⟩

def resRun (tmps : Array Value) : ResultVar → Sem Value
  | .tmp t => pure (tmps.getD t undef)
  | .cell a t => do loadVar t (← asAddr (tmps.getD a undef))

theorem results_eq (fn : Func) (tmps : Array Value) : results fn tmps = (do
    let vs ← fn.results.mapM (resRun tmps)
    pure (if h : vs.size = 1 then vs[0] else .tuple vs)) := by
  unfold results
  congr 1

theorem resV_sound {st : St} {a : Act} {N : Nat} (hT : TOk P T) (hs : SR X N st a w μ B) (rv : List ResultVar) : ∀ {K : List V → Prop}, resVK T st rv K →
    ∃ vs us, K vs ∧ (rv.mapM (resRun a.tmps)).run P w = .ok us w ∧ us.length = rv.length ∧ vs.length = us.length ∧ ∀ (j : Nat) v u, vs[j]? = some v → us[j]? = some u → RelV B w μ v u := by
  induction rv with
  | nil => exact fun h => ⟨[], [], h, rfl, rfl, rfl, by simp⟩
  | cons r q ih =>
    intro K h
    have fin : ∀ (v : V) (u : Value), (resRun a.tmps r).run P w = .ok u w → RelV B w μ v u → (resVK T st q fun vs => K (v :: vs)) →
        ∃ vs us, K vs ∧ ((r :: q).mapM (resRun a.tmps)).run P w = .ok us w ∧ us.length = (r :: q).length ∧ vs.length = us.length ∧ ∀ (j : Nat) v u, vs[j]? = some v → us[j]? = some u → RelV B w μ v u := by
      intro v u h1 h2 h3
      obtain ⟨vs, us, k1, k2, k3, k4, k5⟩ := ih h3
      refine ⟨v :: vs, u :: us, k1, ?_, by simp [k3], by simp [k4], fun j v' u' g1 g2 => ?_⟩
      · simp only [List.mapM_cons, Sem.run_bind, h1, Result.andThen_ok, Sem.run_pure, k2]
      · cases j with
        | zero => simp at g1 g2; subst g1; subst g2; exact h2
        | succ j => exact k5 j v' u' (by simpa using g1) (by simpa using g2)
    cases r with
    | tmp t =>
      have h : getK st.e t fun v => resVK T st q fun vs => K (v :: vs) := h
      rw [getK_eq] at h
      exact fin _ _ rfl (hs.env t) h
    | cell ad t =>
      have h : getK st.e ad fun p => loadSem (T t) p (lookK st.x) fun v => resVK T st q fun vs => K (v :: vs) := h
      rw [getK_eq, lookK_eq] at h
      obtain ⟨adr, he⟩ := loadSem_ptr h (hs.env ad)
      obtain ⟨v, v', k1, k2, k3⟩ := load_sound hT hs.sb h (hs.env ad)
      refine fin v v' ?_ k3 k1
      rw [he] at k2
      simp only [Instr.loadAt, Instr.sureAddr, Sem.run_bind, Sem.run_pure, Result.andThen_ok] at k2
      simp only [resRun, he, asAddr, Sem.run_bind, Sem.run_pure, Result.andThen_ok, k2]

theorem lookE_envOf (cs : List C) : ∀ (k t : Nat), lookE (envOf cs k) t = if k ≤ t then (match cs[t - k]? with | some c => .c c | none => .c (.o .u)) else .c (.o .u) := by
  induction cs with
  | nil => intro k t; simp [envOf, lookE]
  | cons c r ih =>
    intro k t
    simp only [envOf, lookE_cons, ih]
    by_cases h1 : k = t
    · subst h1; simp
    · rw [if_neg h1]
      by_cases h2 : k + 1 ≤ t
      · rw [if_pos h2, if_pos (by omega)]
        rw [show t - k = (t - (k + 1)) + 1 by omega]
        rfl
      · rw [if_neg h2, if_neg (by omega)]

/-- a function's contract, from the walk of its body -/
theorem Fn_intro {G : Par} (hg : Good P G) {f : FuncId} {fn : Func} {c : Code} (hf : P.funcs[f]? = some fn) (hb : fn.body = some c) (hnm : (fn.name == "runtime.NumGoroutine") = false) (hN : fn.ntmps = G.N)
    {cs : List C} {bs : Bxs} {res : Res} {bs' : Bxs} (he : entryOk G.N cs bs = true)
    (h : awp G c ⟨envOf cs 0, bs⟩ fun ex st => match ex with
      | .exit _ => False
      | _ => finK G.T fn.results.toList bs res bs' st) : Fn P f cs bs res bs' := by
  intro w Bx hlt μ vs hsb hdom hr
  simp only [entryOk, Bool.and_eq_true] at he
  obtain ⟨e1, e2, e3, e4, e5⟩ := he
  have hnd : (bs.map (·.1)).Nodup := (nodupB_iff _).1 e2
  have hcall : (callFunc f ⟨vs⟩).run P w = .ok (.enter f ⟨vs⟩) w := by
    have hne : fn.name ≠ "runtime.NumGoroutine" := by simpa using hnm
    simp [callFunc, hf, hne, hb]
  unfold CallsV
  rw [hcall]
  -- the marks
  have hin : ∀ id, (boxOf bs id).isSome = true → muIn bs μ id = μ id := fun id h => by simp [muIn, h]
  have hcell : ∀ id cl, boxOf bs id = some (.st cl) → ∀ i ∈ idsLs cl, muIn bs μ i = μ i := fun id cl hid i hi => hin i (List.all_eq_true.1 e5 i (idsX_mem (mem_of_boxOf hid) i hi))
  have hsb0 : SB ⟨w.heap.size, Bx, hlt⟩ (boxOf bs) (muIn bs μ) Bx w := by
    refine ⟨fun id bx hid => ?_, fun id id' b1 b2 b o n o' n' h1 h2 h3 h4 h5 h6 => ?_, fun id b1 b o n h1 h2 h3 h4 => ?_, hsb.bx, hsb.sz, hsb.blt⟩
    · have hm := hin id (by rw [hid]; rfl)
      have hbox := hsb.box id bx hid
      cases bx with
      | st cl =>
        obtain ⟨b, o, k1, ⟨us, k2, k2'⟩, k3⟩ := hbox
        exact ⟨b, o, by rw [hm]; exact k1, ⟨us, k2.on (hcell id cl hid), k2'⟩, k3⟩
      | ar cl => simpa only [BoxR, hm] using hbox
      | fz cl => simpa only [BoxR, hm] using hbox
    · rw [hin id (by rw [h1]; rfl)] at h5
      rw [hin id' (by rw [h2]; rfl)] at h6
      exact hsb.sep id id' b1 b2 b o n o' n' h1 h2 h3 h4 h5 h6
    · rw [hin id (by rw [h1]; rfl)] at h4
      exact hsb.loc id b1 b o n h1 h2 h3 h4
  have hlen : vs.length = cs.length := hr.1.symm
  have hle : vs.length ≤ G.N := by rw [hlen]; exact Nat.le_of_ble_eq_true e1
  have hinv : Inv ⟨w.heap.size, Bx, hlt⟩ G.N w (muIn bs μ) ⟨envOf cs 0, bs⟩ { tmps := (⟨vs⟩ : Array Value) ++ Array.replicate (fn.ntmps - (⟨vs⟩ : Array Value).size) undef, defers := [] } w := by
    refine ⟨muIn bs μ, Bx, ⟨hsb0, fun t => ?_, by simp [hN]; omega, rfl⟩, ⟨rfl, fun _ _ _ => rfl, rfl, rfl, rfl, fun _ _ => rfl, fun _ h => h⟩, fun id hid => ?_⟩
    · rw [lookE_envOf]
      simp only [Nat.zero_le, if_true, Nat.sub_zero]
      cases hc : cs[t]? with
      | none => exact RelL.u
      | some c =>
        have ht : t < vs.length := by rw [hlen]; exact (List.getElem?_eq_some_iff.1 hc).1
        have hv : vs[t]? = some vs[t] := List.getElem?_eq_getElem ht
        have hval : ((⟨vs⟩ : Array Value) ++ Array.replicate (fn.ntmps - (⟨vs⟩ : Array Value).size) undef).getD t undef = vs[t] := by
          rw [Array.getD_eq_getD_getElem?, Array.getElem?_append_left (by simpa using ht)]
          simp [hv]
        rw [hval]
        refine RelC.on (hr.2 t c vs[t] hc hv) fun id hid => hin id ?_
        exact List.all_eq_true.1 e4 id (List.mem_flatMap.2 ⟨c, List.mem_of_getElem? hc, hid⟩)
    · unfold muIn at hid
      split at hid
      · exact .inl (hdom id hid)
      · exact absurd rfl hid
  refine calls_of_wp hf hb (wp_mono (awp_sound hg c _ _ _ _ hinv h) ?_)
  have fin : ∀ (a : Act) (w' : World) (st : St), finK G.T fn.results.toList bs res bs' st → Inv ⟨w.heap.size, Bx, hlt⟩ G.N w (muIn bs μ) st a w' →
      a.defers = [] ∧ ∃ v, (results fn a.tmps).run P w' = .ok v w' ∧ ∃ v', Ending.returned v = .returned v' ∧ FnPost w Bx μ bs bs' res v' w' := by
    intro a w' st hk hi
    obtain ⟨μ1, B, hs, hh, _⟩ := hi
    refine ⟨hs.dfr, ?_⟩
    obtain ⟨ovs, us, hk, hrun, hul, hvl, hrel⟩ := resV_sound hg.T hs _ hk
    rw [lookK_eq] at hk
    obtain ⟨fz, fr, hk, ho⟩ := outs_sound hs.sb _ hk hvl hrel
    obtain ⟨fz', hk, hz', hbx⟩ := boxes_sound hs.sb _ hk
    obtain ⟨hc, hkeys⟩ := cond_true hk
    simp only [Bool.and_eq_true] at hc
    obtain ⟨c1, c2, c3⟩ := hc
    have hfrn : fr.Nodup := (nodupB_iff _).1 c1
    have hdis : ∀ id ∈ fr, id ∉ fz ++ fz' := fun id hid hm => by
      have := List.all_eq_true.1 c2 id hid
      rw [List.elem_eq_true_of_mem hm] at this
      cases this
    have hFZ : ∀ id ∈ fz ++ fz', ∃ cs, boxOf st.x id = some (.ar cs) ∧ isPar id = false := fun id hid => by
      rcases List.mem_append.1 hid with h1 | h1
      · exact ho.fz id h1
      · exact hz' id h1
    have hru : (results fn a.tmps).run P w' = .ok (if h : us.length = 1 then us[0] else .tuple ⟨us⟩) w' := by
      have hm : (fn.results.mapM (resRun a.tmps)).run P w' = .ok ⟨us⟩ w' := by
        rw [Array.mapM_eq_mapM_toList]
        change Sem.run P ((List.mapM (resRun a.tmps) fn.results.toList) >>= fun l => pure l.toArray) w' = _
        simp only [Sem.run_bind, hrun, Result.andThen_ok, Sem.run_pure]
      rw [results_eq]
      simp only [Sem.run_bind, hm, Result.andThen_ok, Sem.run_pure]
      rfl
    let B' : Nat → Prop := fun b => B b ∧ (b < w.heap.size → Bx b) ∧ ∀ id ∈ fz ++ fz', ∀ o n, μ1 id ≠ some (some (b, o, n))
    have hbk : BkOk (fz ++ fz') μ1 B B' := ⟨fun b h => h.1, fun id hid b o n hm hb => hb.2.2 id hid o n hm⟩
    let μ' : Mu := fun i => match ovs[i - 2000]? with
      | some (.c (.o (.gw id _ _))) => μ1 id
      | _ => some none
    have hparmu : ∀ k, k ∈ bs.map (·.1) → μ1 k = μ k := by
      intro k hk
      obtain ⟨q, hq, rfl⟩ := List.mem_map.1 hk
      have := List.all_eq_true.1 e3 q hq
      simp only [Bool.and_eq_true] at this
      rw [hh.par q.1 this.2]
      exact hin q.1 (by rw [boxOf_of_mem hnd hq]; rfl)
    have hwr : ∀ b, b < w.heap.size → ¬ Wr (boxOf bs) μ b → w'.heap[b]? = w.heap[b]? := by
      intro b hb hn
      refine hh.blk b hb fun id o n hp hm => hn ?_
      unfold muIn at hm
      split at hm
      · rename_i hs
        obtain ⟨bx, hbx⟩ := Option.isSome_iff_exists.1 hs
        have := List.all_eq_true.1 e3 _ (mem_of_boxOf hbx)
        simp only [Bool.and_eq_true] at this
        exact ⟨id, bx, o, n, hbx, this.1, hm⟩
      · cases hm
    have frAt : ∀ (j : Nat) cl n sz, (resList res)[j]? = some (.fr cl n sz) →
        (∃ id v u, μ' (2000 + j) = μ1 id ∧ boxOf st.x id = some (.ar cl) ∧ isPar id = false ∧ id ∈ fr ∧ ovs[j]? = some v ∧ us[j]? = some u ∧ OutR (boxOf st.x) μ1 B w' (.fr cl n sz) v u [] [id]) ∨ (μ' (2000 + j) = some none ∧ cl = []) := by
      intro j cl n sz h1
      have hj : j < us.length := by rw [← ho.len.1]; exact (List.getElem?_eq_some_iff.1 h1).1
      have h2 : us[j]? = some us[j] := List.getElem?_eq_getElem hj
      have hj' : j < ovs.length := by rw [hvl]; exact hj
      have h3 : ovs[j]? = some ovs[j] := List.getElem?_eq_getElem hj'
      obtain ⟨f', g', k1, k2, k3⟩ := ho.at_ j _ _ _ h1 h3 h2
      have hmu : μ' (2000 + j) = match ovs[j]? with
        | some (.c (.o (.gw id _ _))) => μ1 id
        | _ => some none := by simp only [μ', Nat.add_sub_cancel_left]
      rw [h3] at hmu
      generalize ovs[j] = v at *
      generalize us[j] = u at *
      cases k1 with
      | gw g1 g2 g3 => exact .inl ⟨_, _, _, hmu, g1, g2, k3 _ (by simp), h3, h2, .gw g1 g2 g3⟩
      | nl => exact .inr ⟨hmu, rfl⟩
    refine ⟨_, hru, _, rfl, us, μ', B', ?_, ⟨ho.len.1, ?_, ?_, ?_, ?_, hkeys, ?_, ?_, ⟨hwr, hh.os, hh.tape, hh.output⟩, fun b hb => hs.sb.blt b hb.1⟩⟩
    · cases res with
      | one r =>
        have h1 : us.length = 1 := by rw [hul]; exact Nat.eq_of_beq_eq_true c3
        simp only [ResV, h1, dite_true]
        refine List.ext_getElem (by simp [h1]) fun i a b => ?_
        simp only [List.length_singleton] at b
        have : i = 0 := by omega
        subst this; rfl
      | tup rs =>
        have h1 : us.length ≠ 1 := by
          rw [hul]
          intro he
          simp [shapeOk, he] at c3
        simp only [ResV, h1, dite_false]
    · intro j r u h1 h2
      have h3 : ∃ v, ovs[j]? = some v := ⟨ovs[j]'(by rw [hvl]; exact (List.getElem?_eq_some_iff.1 h2).1), List.getElem?_eq_getElem _⟩
      obtain ⟨v, h3⟩ := h3
      obtain ⟨f', g', k1, k2, k3⟩ := ho.at_ j r v u h1 h3 h2
      have hmu : μ' (2000 + j) = match ovs[j]? with
        | some (.c (.o (.gw id _ _))) => μ1 id
        | _ => some none := by simp only [μ', Nat.add_sub_cancel_left]
      rw [h3] at hmu
      cases k1 with
      | gw g1 g2 g3 => exact (g3.grow hbk.grow (fun _ _ h => h)).on' hmu
      | nl => exact .gw0 hmu
      | c g1 g2 => exact g2 _ _ (fun id hid => List.mem_append_left _ (k2 id hid)) hbk
    · intro j cl n sz h1
      rcases frAt j cl n sz h1 with ⟨id, _, _, hmu, hm, hp, hfr, _⟩ | ⟨hm, rfl⟩
      · have hbox := hs.sb.box id _ hm
        refine ⟨?_, fun b o k h2 => ?_⟩
        · rcases hbox with ⟨k1, k2⟩ | ⟨b, o, k1, k2, k3, k4, k5⟩
          · exact .inl ⟨by rw [hmu, k1], k2⟩
          · refine .inr ⟨b, o, by rw [hmu, k1], k2.grow hbk.grow (noMu_le _) fun _ => rfl, k3, ⟨k4, fun hb => ?_, fun id' hid' o' n' hm' => ?_⟩, k5⟩
            · have := hs.sb.loc id _ b o _ hm rfl hp k1
              simp only at this
              omega
            · obtain ⟨cl', f1, f2⟩ := hFZ id' hid'
              have := hs.sb.sep id id' _ _ b _ _ _ _ hm f1 rfl rfl k1 hm'
              subst this
              exact hdis id hfr hid'
        · rw [hmu] at h2
          exact hs.sb.loc id _ b o k hm rfl hp h2
      · refine ⟨.inl ⟨hm, rfl⟩, fun b o k h2 => ?_⟩
        rw [hm] at h2; cases h2
    · intro j j' cl n sz cl' n' sz' b o k o' k' h1 h2 h3 h4
      rcases frAt j cl n sz h1 with ⟨id, v, u, hmu, hm, hp, hfr, g1, g2, g3⟩ | ⟨hm, rfl⟩
      · rcases frAt j' cl' n' sz' h2 with ⟨id', v', u', hmu', hm', hp', hfr', g1', g2', g3'⟩ | ⟨hm', rfl⟩
        · rw [hmu] at h3
          rw [hmu'] at h4
          have := hs.sb.sep id id' _ _ b _ _ _ _ hm hm' rfl rfl h3 h4
          subst this
          exact ho.inj hfrn j j' _ _ _ _ _ _ _ _ id h1 h2 g1 g1' g2 g2' g3 g3'
        · rw [hm'] at h4; cases h4
      · rw [hm] at h3; cases h3
    · intro k bx hkb
      have := hbx k bx hkb (fz ++ fz') B' (fun id h => List.mem_append_right _ h) hbk
      have hk' : μ1 k = μ k := hparmu k (by rw [← hkeys]; exact List.mem_map.2 ⟨_, hkb, rfl⟩)
      cases bx <;> simpa only [BoxC, hk'] using this
    · refine ⟨hs.sb.sz, fun b hb hn => hwr b hb fun hw => hn (hsb.wrB hw).1, hh.ex, fun b hb hb' => hb'.2.1 hb⟩
    · intro b hb
      refine ⟨hs.sb.bx b hb, fun _ => hb, fun id hid o n hm => ?_⟩
      obtain ⟨cl, h1, h2⟩ := hFZ id hid
      have := hs.sb.loc id _ b o n h1 rfl h2 hm
      have := hlt b hb
      simp only at *
      omega
  rintro e a w' ⟨ex, st, rfl, hk, hi⟩
  cases ex with
  | normal => exact fin a w' st hk hi
  | ret => exact fin a w' st hk hi
  | exit id => exact hk.elim

end
end Go.Sx

/-
  Cuts and loops.
-/
namespace Go.Sx

theorem awp_lin (G : Par) (c : Code) : ∀ st, Lin2 (awp G c st) := by
  induction c with
  | skip => exact fun st => Lin.pure (Ex.normal, st)
  | region id ops draw =>
    intro st
    cases draw with
    | true =>
      show Lin2 fun K : Ex → St → Prop => bif !okStart ops.toList st.x || !(ops.toList.all fun o => dstOk G.N o.dst) then False else opsK G ops.toList ops.toList st [] fun st' inf => drawK (statB ops.toList (G.mask id)) (dynB inf (G.mask id)) (canonK (G.live id) G.mv st' fun st'' => K Ex.normal st'')
      exact Lin.bif (fun _ => Lin.ff) fun _ => Lin.bind2 (opsK_lin G _ _ st []) fun st' inf => Lin.draw (Lin.bind (canonK_lin _ _ _) fun _ => Lin.pure (_, _))
    | false =>
      show Lin2 fun K : Ex → St → Prop => bif !okStart ops.toList st.x || !(ops.toList.all fun o => dstOk G.N o.dst) then False else opsK G ops.toList ops.toList st [] fun st' inf => canonK (G.live id) G.mv st' fun st'' => K Ex.normal st''
      exact Lin.bif (fun _ => Lin.ff) fun _ => Lin.bind2 (opsK_lin G _ _ st []) fun st' inf => Lin.bind (canonK_lin _ _ _) fun _ => Lin.pure (_, _)
  | seq a b iha ihb =>
    intro st
    show Lin2 fun K : Ex → St → Prop => awp G a st fun ex st' => match ex with
      | .normal => awp G b st' K
      | .exit id => K (.exit id) st'
      | .ret => K .ret st'
    refine Lin.bind2 (iha st) fun ex st' => ?_
    cases ex with
    | normal => exact ihb st'
    | exit id => exact Lin.pure (_, _)
    | ret => exact Lin.pure (_, _)
  | cond c a b iha ihb =>
    intro st
    show Lin2 fun K : Ex → St → Prop => operandK st.e c fun v => match v with
      | .c (.o l) => match l with
        | .tt => awp G a st K
        | .ff => awp G b st K
        | .b x => boolK x (awp G a st K) (awp G b st K)
        | _ => False
      | _ => False
    refine Lin.bind (operandK_lin _ _) fun v => ?_
    match v with
    | .t _ => exact Lin.ff
    | .c (.a _) => exact Lin.ff
    | .c (.o l) =>
      cases l <;> first | exact Lin.ff | exact iha st | exact ihb st | exact Lin.bool (iha st) (ihb st)
  | block id body ih =>
    intro st
    show Lin2 fun K : Ex → St → Prop => awp G body st fun ex st' => match ex with
      | .exit j => bif Nat.beq j id then K .normal st' else K (.exit j) st'
      | .normal => K .normal st'
      | .ret => K .ret st'
    refine Lin.bind2 (ih st) fun ex st' => ?_
    cases ex with
    | normal => exact Lin.pure (_, _)
    | exit j => exact Lin.bif (fun _ => Lin.pure (_, _)) fun _ => Lin.pure (_, _)
    | ret => exact Lin.pure (_, _)
  | loop body ih =>
    intro st
    have key : ∀ n : Nat, ∀ st : St, Lin fun K : Ex × St → Prop => Nat.rec (motive := fun _ => St → Prop) (fun _ => False) (fun _ ihn st => awp G body st fun ex st' => match ex with
      | .normal => ihn st'
      | .exit id => K (.exit id, st')
      | .ret => K (.ret, st')) n st := by
      intro n
      induction n with
      | zero => exact fun st => Lin.ff
      | succ n ihn =>
        intro st
        refine Lin.of (Lin.bind2 (ih st) (Y := fun ex st' K => match ex with
          | .normal => Nat.rec (motive := fun _ => St → Prop) (fun _ => False) (fun _ ihn st => awp G body st fun ex st' => match ex with
              | .normal => ihn st'
              | .exit id => K (.exit id, st')
              | .ret => K (.ret, st')) n st'
          | .exit id => K (.exit id, st')
          | .ret => K (.ret, st')) fun ex st' => ?_) fun _ => rfl
        cases ex with
        | normal => exact ihn st'
        | exit id => exact Lin.pure (_, _)
        | ret => exact Lin.pure (_, _)
    intro K
    constructor
    · rintro ⟨n, h⟩
      obtain ⟨p, h1, h2⟩ := (key n st K).1 h
      exact ⟨p, ⟨n, h1⟩, h2⟩
    · rintro ⟨p, ⟨n, h1⟩, h2⟩
      exact ⟨n, (key n st K).2 ⟨p, h1, h2⟩⟩
  | exit id => exact fun st => Lin.pure (Ex.exit id, st)
  | ret => exact fun st => Lin.pure (Ex.ret, st)
  | rangeFunc f ps as b _ _ => exact fun st => Lin.ff
  | scope b _ => exact fun st => Lin.ff
  | label l => exact fun st => Lin.ff
  | goto l => exact fun st => Lin.ff
  | refuse y => exact fun st => Lin.ff

theorem awp_mono {G : Par} {c : Code} {st : St} {K K' : Ex → St → Prop} (h : awp G c st K) (hk : ∀ ex st', K ex st' → K' ex st') : awp G c st K' :=
  Lin.mono (K := fun p : Ex × St => K p.1 p.2) (K' := fun p => K' p.1 p.2) (awp_lin G c st) (fun p hp => hk p.1 p.2 hp) h

/-- a loop, by what holds at the head of each round; n falls -/
theorem loop_inv {G : Par} {body : Code} {K : Ex → St → Prop} (I : Nat → St → Prop) {n : Nat} {st : St} (h0 : I n st)
    (h : ∀ n st, I n st → awp G body st fun ex st' => match ex with
      | .normal => ∃ m, m < n ∧ I m st'
      | .exit id => K (.exit id) st'
      | .ret => K .ret st') : awp G (.loop body) st K := by
  refine ⟨n + 1, ?_⟩
  have : ∀ k n st, n < k → I n st → Nat.rec (motive := fun _ => St → Prop) (fun _ => False) (fun _ ihn st => awp G body st fun ex st' => match ex with
      | .normal => ihn st'
      | .exit id => K (.exit id) st'
      | .ret => K .ret st') k st := by
    intro k
    induction k with
    | zero => intro n st hn; omega
    | succ k ih =>
      intro n st hn hi
      refine awp_mono (h n st hi) fun ex st' hk => ?_
      cases ex with
      | normal => obtain ⟨m, hm, hi'⟩ := hk; exact ih m st' (by omega) hi'
      | exit id => exact hk
      | ret => exact hk
  exact this (n + 1) n st (by omega) h0

/-- one round more -/
theorem loop_step {G : Par} {body : Code} {K : Ex → St → Prop} {st : St} (h : awp G body st fun ex st' => match ex with
      | .normal => awp G (.loop body) st' K
      | .exit id => K (.exit id) st'
      | .ret => K .ret st') : awp G (.loop body) st K := by
  obtain ⟨⟨ex, st'⟩, h1, h2⟩ := (awp_lin G body st (fun p => match p.1 with
      | .normal => awp G (.loop body) p.2 K
      | .exit id => K (.exit id) p.2
      | .ret => K .ret p.2)).1 h
  cases ex with
  | normal =>
    obtain ⟨n, h2⟩ := h2
    refine ⟨n + 1, Lin.mono (K := fun p : Ex × St => p = (.normal, st')) (K' := fun p => match p.1 with
      | .normal => Nat.rec (motive := fun _ => St → Prop) (fun _ => False) (fun _ ihn st => awp G body st fun ex st' => match ex with
            | .normal => ihn st'
            | .exit id => K (.exit id) st'
            | .ret => K .ret st') n p.2
      | .exit id => K (.exit id) p.2
      | .ret => K .ret p.2) (awp_lin G body st) (fun p hp => by subst hp; exact h2) h1⟩
  | exit id =>
    refine ⟨1, Lin.mono (K := fun p : Ex × St => p = (.exit id, st')) (K' := fun p => match p.1 with
      | .normal => False
      | .exit id => K (.exit id) p.2
      | .ret => K .ret p.2) (awp_lin G body st) (fun p hp => by subst hp; exact h2) h1⟩
  | ret =>
    refine ⟨1, Lin.mono (K := fun p : Ex × St => p = (.ret, st')) (K' := fun p => match p.1 with
      | .normal => False
      | .exit id => K (.exit id) p.2
      | .ret => K .ret p.2) (awp_lin G body st) (fun p hp => by subst hp; exact h2) h1⟩

end Go.Sx

/-
  Tables of types, checked by evaluation; '==' on structs.
-/
namespace Go.Sx

def tabF : List (Nat × TI) → TypeId → TI
  | [], _ => ⟨0, 0, false, [], .other, false⟩
  | (k, v) :: r, t => bif Nat.beq k t then v else tabF r t

def zeroLB : Value → L → Bool
  | .int k n, .i k' m => kindEq k k' && decide (n = m)
  | .bool false, .ff => true
  | .string s, .s l => s.data.toList.isEmpty && l.isEmpty
  | .slice none 0 0, .nl => true
  | .pointer none, .np => true
  | _, _ => false

def zeroB : List Value → List L → Bool
  | [], [] => true
  | v :: vs, l :: ls => zeroLB v l && zeroB vs ls
  | _, _ => false

theorem zeroLB_spec {v : Value} {l : L} (h : zeroLB v l = true) : v = zval l ∧ isZero l = true := by
  unfold zeroLB at h
  split at h
  · simp only [Bool.and_eq_true, decide_eq_true_eq] at h
    obtain ⟨h1, rfl⟩ := h
    rw [kindEq_iff] at h1
    subst h1
    exact ⟨rfl, rfl⟩
  · exact ⟨rfl, rfl⟩
  · rename_i s l
    simp only [Bool.and_eq_true, List.isEmpty_iff] at h
    obtain ⟨h1, rfl⟩ := h
    refine ⟨?_, rfl⟩
    obtain ⟨⟨x⟩⟩ := s
    simp only at h1
    subst h1
    rfl
  · exact ⟨rfl, rfl⟩
  · exact ⟨rfl, rfl⟩
  · cases h

theorem zeroB_spec : ∀ {vs : List Value} {ls : List L}, zeroB vs ls = true → vs = ls.map zval ∧ ∀ l ∈ ls, isZero l = true
  | [], [], _ => ⟨rfl, by simp⟩
  | v :: vs, l :: ls, h => by
    simp only [zeroB, Bool.and_eq_true] at h
    obtain ⟨h1, h2⟩ := zeroLB_spec h.1
    obtain ⟨h3, h4⟩ := zeroB_spec h.2
    refine ⟨by simp [h1, ← h3], fun q hq => ?_⟩
    rcases List.mem_cons.1 hq with rfl | hq
    · exact h2
    · exact h4 q hq
  | [], _ :: _, h => by cases h
  | _ :: _, [], h => by cases h

def sameFs : List Field → List (Nat × TypeId) → Bool
  | [], [] => true
  | f :: fs, q :: qs => Nat.beq f.offset q.1 && (Nat.beq f.type q.2 && sameFs fs qs)
  | _, _ => false

theorem sameFs_spec : ∀ {fs : List Field} {qs : List (Nat × TypeId)}, sameFs fs qs = true → fs.map (fun f => (f.offset, f.type)) = qs
  | [], [], _ => rfl
  | f :: fs, (a, b) :: qs, h => by
    simp only [sameFs, Bool.and_eq_true] at h
    simp only [List.map_cons, sameFs_spec h.2.2, Nat.eq_of_beq_eq_true h.1, Nat.eq_of_beq_eq_true h.2.1]
  | [], _ :: _, h => by cases h
  | _ :: _, [], h => by cases h

def undB (P : Program) (T : TypeId → TI) (t : TypeId) (d : D) : Bool :=
  match d with
  | .int k => match P.underlying t with
    | some (.int k') => kindEq k k'
    | _ => false
  | .bool => match P.underlying t with
    | some .bool => true
    | _ => false
  | .str => match P.underlying t with
    | some .string => true
    | _ => false
  | .slice e => match P.underlying t with
    | some (.slice e') => Nat.beq e e' && !isOther (T e).d
    | _ => false
  | .ptr e => match P.underlying t with
    | some (.pointer e') => Nat.beq e e'
    | _ => false
  | .struct qs => match P.underlying t with
    | some (.struct fs) => sameFs fs.toList qs && qs.all fun q => !isOther (T q.2).d && Nat.blt 0 (T q.2).size
    | _ => false
  | .array n e => match P.underlying t with
    | some (.array n' e') => Nat.beq n n' && (Nat.beq e e' && !isOther (T e).d)
    | _ => false
  | .other => true

def tyB (P : Program) (T : TypeId → TI) (t : TypeId) : Bool :=
  match P.info? t with
  | none => false
  | some i => (Nat.beq i.size (T t).size && Nat.beq i.bytes (T t).bytes) && ((match i.zero with
      | some z => zeroB z.cells.toList (T t).zero
      | none => false) && (Nat.beq (T t).zero.length (T t).size && (((T t).agg == isAgg (T t).d) && (Nat.blt 0 (T t).bytes && undB P T t (T t).d))))

section
variable {P : Program} {T : TypeId → TI}

theorem undB_spec {t : TypeId} {d : D} (h : undB P T t d = true) : UndOk P T t d := by
  unfold undB at h
  cases d <;> simp only at h
  case int k =>
    split at h
    · rename_i k' hk; rw [kindEq_iff] at h; subst h; exact hk
    · cases h
  case bool =>
    split at h
    · assumption
    · cases h
  case str =>
    split at h
    · assumption
    · cases h
  case slice e =>
    split at h
    · rename_i e' he
      simp only [Bool.and_eq_true, Bool.not_eq_true'] at h
      have := Nat.eq_of_beq_eq_true h.1
      subst this
      exact ⟨he, h.2⟩
    · cases h
  case ptr e =>
    split at h
    · rename_i e' he
      have := Nat.eq_of_beq_eq_true h
      subst this
      exact he
    · cases h
  case struct qs =>
    split at h
    · rename_i fs hf
      simp only [Bool.and_eq_true] at h
      refine ⟨⟨fs, hf, sameFs_spec h.1⟩, fun q hq => ?_⟩
      have := List.all_eq_true.1 h.2 q hq
      simp only [Bool.and_eq_true, Bool.not_eq_true'] at this
      exact ⟨this.1, by have : 0 + 1 ≤ (T q.2).size := Nat.le_of_ble_eq_true this.2; omega⟩
    · cases h
  case array n e =>
    split at h
    · rename_i n' e' he
      simp only [Bool.and_eq_true, Bool.not_eq_true'] at h
      have h1 := Nat.eq_of_beq_eq_true h.1
      have h2 := Nat.eq_of_beq_eq_true h.2.1
      subst h1; subst h2
      exact ⟨he, h.2.2⟩
    · cases h
  case other => trivial

theorem tyB_spec {t : TypeId} (h : tyB P T t = true) : TyOk P T t := by
  unfold tyB at h
  split at h
  · cases h
  · rename_i i hi
    simp only [Bool.and_eq_true, beq_iff_eq] at h
    obtain ⟨⟨h1, h2⟩, h3, h4, h5, h6, h7⟩ := h
    cases hz : i.zero with
    | none => rw [hz] at h3; cases h3
    | some z =>
      rw [hz] at h3
      obtain ⟨k1, k2⟩ := zeroB_spec h3
      exact ⟨⟨i, hi, Nat.eq_of_beq_eq_true h1, Nat.eq_of_beq_eq_true h2, z, hz, k1⟩, Nat.eq_of_beq_eq_true h4, k2, h5, by have : 0 + 1 ≤ (T t).bytes := Nat.le_of_ble_eq_true h6; omega, undB_spec h7⟩

theorem tabF_mem (tab : List (Nat × TI)) (t : TypeId) : isOther (tabF tab t).d = true ∨ ∃ q ∈ tab, q.1 = t := by
  induction tab with
  | nil => exact .inl rfl
  | cons q r ih =>
    obtain ⟨k, v⟩ := q
    by_cases hk : k = t
    · exact .inr ⟨(k, v), List.mem_cons_self .., hk⟩
    · have : tabF ((k, v) :: r) t = tabF r t := by simp [tabF, beq_ne hk]
      rw [this]
      rcases ih with h | ⟨q, hq, h⟩
      · exact .inl h
      · exact .inr ⟨q, List.mem_cons_of_mem _ hq, h⟩

theorem tok_of {tab : List (Nat × TI)} (h : (tab.all fun q => tyB P (tabF tab) q.1) = true) : TOk P (tabF tab) := by
  intro t ht
  rcases tabF_mem tab t with h1 | ⟨q, hq, rfl⟩
  · rw [h1] at ht; cases ht
  · exact tyB_spec (List.all_eq_true.1 h q hq)

/-- which kinds of cells can be compared -/
def sameK : L → L → Bool
  | .i k _, .i k' _ => kindEq k k'
  | .ff, .ff => true
  | .s _, .s _ => true
  | _, _ => false

def layB (T : TypeId → TI) : List (Nat × TypeId) → Nat → List L → Bool
  | [], _, zs => zs.isEmpty
  | q :: r, off, zs => Nat.beq q.1 off && (headB (T q.2).zero zs && layB T r (off + (T q.2).zero.length) (zs.drop (T q.2).zero.length))
where
  headB : List L → List L → Bool
    | [], _ => true
    | a :: r, b :: s => sameK a b && headB r s
    | _ :: _, [] => false

def eqB (P : Program) (T : TypeId → TI) : Nat → TypeId → Bool
  | 0, _ => false
  | d + 1, t => match (T t).d with
    | .int k => match (T t).zero with
      | [.i k' _] => kindEq k k'
      | _ => false
    | .bool => match (T t).zero with
      | [.ff] => true
      | _ => false
    | .str => match (T t).zero with
      | [.s _] => true
      | _ => false
    | .struct fs => ((P.fieldsOf t).toList.all fun f => f.name != "_") && (!P.stoodInHeld t && (layB T fs 0 (T t).zero && fs.all fun q => eqB P T d q.2))
    | _ => false

theorem headB_spec {r : Bool} : ∀ {a zs : List L} {vs us : List Value}, layB.headB a zs = true → EqVals zs vs us r →
    ∃ r1 r2, EqVals a (vs.take a.length) (us.take a.length) r1 ∧ EqVals (zs.drop a.length) (vs.drop a.length) (us.drop a.length) r2 ∧ r = (r1 && r2)
  | [], zs, vs, us, _, h => ⟨true, r, ⟨rfl, rfl, rfl⟩, by simpa using h, by simp⟩
  | x :: a, [], vs, us, h, _ => by cases h
  | x :: a, z :: zs, vs, us, h, he => by
    simp only [layB.headB, Bool.and_eq_true] at h
    obtain ⟨v, u, vs', us', r', rfl, rfl, h1, h2⟩ := he
    obtain ⟨r1, r2, k1, k2, k3⟩ := headB_spec h.2 h1
    unfold sameK at h
    split at h
    · obtain ⟨h, _⟩ := h
      rw [kindEq_iff] at h; subst h
      obtain ⟨p, q, e1, e2, e3⟩ := h2
      exact ⟨(p == q && r1), r2, ⟨v, u, _, _, r1, rfl, rfl, k1, p, q, e1, e2, rfl⟩, k2, by rw [e3, k3, Bool.and_assoc]⟩
    · obtain ⟨p, q, e1, e2, e3⟩ := h2
      exact ⟨(p == q && r1), r2, ⟨v, u, _, _, r1, rfl, rfl, k1, p, q, e1, e2, rfl⟩, k2, by rw [e3, k3, Bool.and_assoc]⟩
    · obtain ⟨p, q, e1, e2, e3⟩ := h2
      exact ⟨(p == q && r1), r2, ⟨v, u, _, _, r1, rfl, rfl, k1, p, q, e1, e2, rfl⟩, k2, by rw [e3, k3, Bool.and_assoc]⟩
    · cases h.1

/-- the value that some cells are, at a type -/
def mkVal (agg : Bool) (vs : List Value) : Value := if agg then .agg ⟨vs⟩ else vs.headD undef

theorem EqVals.len : ∀ {zs : List L} {vs us : List Value} {r : Bool}, EqVals zs vs us r → vs.length = zs.length ∧ us.length = zs.length
  | [], _, _, _, ⟨h1, h2, _⟩ => by subst h1; subst h2; exact ⟨rfl, rfl⟩
  | z :: zs, _, _, _, ⟨v, u, vs', us', r', h1, h2, h3, _⟩ => by
    subst h1; subst h2
    have := EqVals.len h3
    simp [this.1, this.2]

theorem run_part' {w : World} {t : TypeId} (hT : TOk P T) (ho : isOther (T t).d = false) {vs : List Value} {off : Nat} (h : off + (T t).zero.length ≤ vs.length) (hpos : 0 < (T t).size) : (part t ⟨vs⟩ off).run P w = .ok (mkVal (T t).agg ((vs.drop off).take (T t).zero.length)) w := by
  have ht := hT t ho
  simp only [part, Sem.run_bind, run_isAgg' ht ho, Result.andThen_ok]
  cases ha : (T t).agg with
  | true =>
    simp only [if_true, Sem.run_bind, run_sizeOf' ht, Result.andThen_ok, Sem.run_pure, mkVal]
    congr 2
    rw [ht.len]
    apply Array.ext'
    simp [List.extract_eq_drop_take]
  | false =>
    simp only [Bool.false_eq_true, if_false, mkVal]
    have hp : 0 < (T t).zero.length := by rw [ht.len]; exact hpos
    have hlt : off < vs.length := by omega
    have : (⟨vs⟩ : Array Value)[off]? = some vs[off] := by
      rw [List.getElem?_toArray]; exact List.getElem?_eq_getElem hlt
    rw [this]
    simp only [Sem.run_pure]
    congr 1
    rw [List.drop_eq_getElem_cons hlt]
    cases hz : (T t).zero.length with
    | zero => omega
    | succ n => rfl

theorem eqB_spec (hT : TOk P T) : ∀ (d : Nat) (t : TypeId), eqB P T d t = true → ∀ (k : Nat) vs us r (w : World), EqVals (T t).zero vs us r → (Op.equalIn (d + k) t (mkVal (T t).agg vs) (mkVal (T t).agg us)).run P w = .ok r w := by
  intro d
  induction d with
  | zero => intro t h; cases h
  | succ d ih =>
    intro t h k vs us r w he
    rw [show d + 1 + k = (d + k) + 1 by omega]
    unfold eqB at h
    have hne : isOther (T t).d = false := by
      cases hd : (T t).d <;> first | rfl | (rw [hd] at h; cases h)
    have ht := hT t hne
    have hu := ht.und
    have hag := ht.agg
    cases hd : (T t).d <;> rw [hd] at h hu hag <;> simp only [Bool.false_eq_true] at h
    case int kk =>
      split at h
      · rename_i k' n hz
        rw [kindEq_iff] at h; subst h
        rw [hz] at he
        obtain ⟨v, u, vs', us', r', rfl, rfl, ⟨rfl, rfl, rfl⟩, a, b, rfl, rfl, rfl⟩ := he
        simp only [mkVal, hag, isAgg, Bool.false_eq_true, if_false, List.headD_cons, Bool.and_true]
        exact run_equalIn_int w _ t kk kk a b hu
      · cases h
    case bool =>
      split at h
      · rename_i hz
        rw [hz] at he
        obtain ⟨v, u, vs', us', r', rfl, rfl, ⟨rfl, rfl, rfl⟩, a, b, rfl, rfl, rfl⟩ := he
        simp only [mkVal, hag, isAgg, Bool.false_eq_true, if_false, List.headD_cons, Bool.and_true]
        exact run_equalIn_bool' w _ t a b hu
      · cases h
    case str =>
      split at h
      · rename_i hz
        rw [hz] at he
        obtain ⟨v, u, vs', us', r', rfl, rfl, ⟨rfl, rfl, rfl⟩, a, b, rfl, rfl, rfl⟩ := he
        simp only [mkVal, hag, isAgg, Bool.false_eq_true, if_false, List.headD_cons, Bool.and_true]
        rw [run_equalIn_string w _ t _ _ hu, ByteArray.toList_eq, ByteArray.toList_eq]
      · cases h
    case struct fs =>
      simp only [Bool.and_eq_true, Bool.not_eq_true'] at h
      obtain ⟨h1, h2, h3, h4⟩ := h
      obtain ⟨⟨fields, hf1, hf2⟩, hok⟩ := hu
      have hfo : P.fieldsOf t = fields := by simp [Program.fieldsOf, hf1]
      simp only [mkVal, hag, isAgg, if_true]
      rw [run_equalIn_struct w _ t _ _ (by rw [hfo]; exact hf1) h2, hfo]
      rw [hfo] at h1
      have hl := he.len
      -- the fields one by one
      have go : ∀ (fl : List Field) (off : Nat) (zs : List L) (r : Bool), (∀ f ∈ fl, (f.name != "_") = true) → layB T (fl.map fun f => (f.offset, f.type)) off zs = true → (∀ q ∈ fl.map (fun f => (f.offset, f.type)), eqB P T d q.2 = true ∧ isOther (T q.2).d = false ∧ 0 < (T q.2).size) →
          EqVals zs (vs.drop off) (us.drop off) r → (Op.eqFields (d + k) ⟨vs⟩ ⟨us⟩ fl).run P w = .ok r w := by
        intro fl
        induction fl with
        | nil =>
          intro off zs r _ hlay _ hev
          simp only [List.map_nil, layB, List.isEmpty_iff] at hlay
          subst hlay
          obtain ⟨_, _, rfl⟩ := hev
          simp [Op.eqFields]
        | cons f fl ihf =>
          intro off zs r hnm hlay hq hev
          simp only [List.map_cons, layB, Bool.and_eq_true] at hlay
          obtain ⟨l1, l2, l3⟩ := hlay
          have l1 := Nat.eq_of_beq_eq_true l1
          obtain ⟨r1, r2, e1, e2, rfl⟩ := headB_spec l2 hev
          obtain ⟨q1, q2, q3⟩ : eqB P T d f.type = true ∧ isOther (T f.type).d = false ∧ 0 < (T f.type).size := hq (f.offset, f.type) (by simp)
          have hlen := e1.len
          have hn : f.name ≠ "_" := by simpa using hnm f (by simp)
          have hlen : min (T f.type).zero.length (vs.length - off) = (T f.type).zero.length ∧ min (T f.type).zero.length (us.length - off) = (T f.type).zero.length := by simpa only [List.length_take, List.length_drop] using hlen
          have hpos : 0 < (T f.type).zero.length := by rw [(hT f.type q2).len]; exact q3
          have ev := ih f.type q1 k _ _ r1 w e1
          have p1 := run_part' (w := w) hT q2 (vs := vs) (off := f.offset) (by have : f.offset = off := l1; omega) q3
          have p2 := run_part' (w := w) hT q2 (vs := us) (off := f.offset) (by have : f.offset = off := l1; omega) q3
          simp only [l1] at p1 p2 l2
          simp only [Op.eqFields, hn, ne_eq, not_false_eq_true, if_true, Sem.run_bind, l1, p1, p2, ev, Result.andThen_ok, Sem.run_ite]
          cases r1 with
          | false => simp
          | true =>
            simp only [Bool.not_true, Bool.false_eq_true, if_false, Bool.true_and]
            refine ihf (off + (T f.type).zero.length) _ r2 (fun f' hf' => hnm f' (List.mem_cons_of_mem _ hf')) l3 (fun q hq' => hq q (by simp only [List.map_cons]; exact List.mem_cons_of_mem _ hq')) ?_
            rw [List.drop_drop, List.drop_drop] at e2
            exact e2
      exact go fields.toList 0 (T t).zero r (List.all_eq_true.1 h1) (by rw [hf2]; exact h3) (fun q hq => by rw [hf2] at hq; exact ⟨List.all_eq_true.1 h4 q hq, hok q hq⟩) (by simpa using he)

def eqsB (P : Program) (tab : List (Nat × TI)) : Bool := tab.all fun q => !(tabF tab q.1).eq || ((tabF tab q.1).agg && (!P.eqGuardType P.depth q.1 && eqB P (tabF tab) 6 q.1))

theorem eq_of {tab : List (Nat × TI)} (hT : TOk P (tabF tab)) (h : eqsB P tab = true) : ∀ t, (tabF tab t).eq = true → EqTy P t (tabF tab t).zero := by
  intro t ht
  have hq : ∃ q ∈ tab, q.1 = t := by
    clear hT h
    induction tab with
    | nil => cases ht
    | cons q r ih =>
      obtain ⟨k, v⟩ := q
      by_cases hk : k = t
      · exact ⟨(k, v), List.mem_cons_self .., hk⟩
      · have : tabF ((k, v) :: r) t = tabF r t := by simp [tabF, beq_ne hk]
        rw [this] at ht
        obtain ⟨q, hq, e⟩ := ih ht
        exact ⟨q, List.mem_cons_of_mem _ hq, e⟩
  obtain ⟨q, hq, rfl⟩ := hq
  have := List.all_eq_true.1 h q hq
  simp only [ht, Bool.not_true, Bool.false_or, Bool.and_eq_true, Bool.not_eq_true'] at this
  refine ⟨this.2.1, fun vs us r w he => ?_⟩
  have e := eqB_spec hT 6 q.1 this.2.2 9994 vs us r w he
  simp only [mkVal, this.1, if_true] at e
  exact e

def zsB (tab : List (Nat × TI)) : Bool := tab.all fun q => (idsLs q.2.zero).isEmpty

theorem zs_all {tab : List (Nat × TI)} (h : zsB tab = true) (e : TypeId) : idsLs (tabF tab e).zero = [] := by
  induction tab with
  | nil => rfl
  | cons q r ih =>
    obtain ⟨k, v⟩ := q
    simp only [zsB, List.all_cons, Bool.and_eq_true, List.isEmpty_iff] at h
    by_cases hk : k = e
    · have : tabF ((k, v) :: r) e = v := by simp [tabF, hk]
      rw [this]; exact h.1
    · have : tabF ((k, v) :: r) e = tabF r e := by simp [tabF, beq_ne hk]
      rw [this]; exact ih h.2

theorem zs_of {tab : List (Nat × TI)} (h : zsB tab = true) : ∀ t e, (tabF tab t).d = .slice e → idsLs (tabF tab e).zero = [] := fun _ e _ => zs_all h e

end
end Go.Sx

/-
  The steps of a walk.
-/
namespace Go.Sx

theorem loopK_inv {G : Par} {body : Code} {K : Ex → St → Prop} (I : Nat → St → Prop) {n : Nat} {st : St} (h0 : I n st)
    (h : ∀ n st, I n st → awp G body st fun ex st' => match ex with
      | .normal => ∃ m, m < n ∧ I m st'
      | .exit id => K (.exit id) st'
      | .ret => K .ret st') : loopK body (awp G body) st K := loop_inv I h0 h

theorem loopK_step {G : Par} {body : Code} {K : Ex → St → Prop} {st : St} (h : awp G body st fun ex st' => match ex with
      | .normal => loopK body (awp G body) st' K
      | .exit id => K (.exit id) st'
      | .ret => K .ret st') : loopK body (awp G body) st K := loop_step h

theorem boolK_intro {x : Bool} {A B : Prop} (h1 : x = true → A) (h2 : x = false → B) : boolK x A B := ⟨h1, h2⟩
theorem boolK_dec {p : Prop} [Decidable p] {A B : Prop} (h1 : p → A) (h2 : ¬ p → B) : boolK (decide p) A B := ⟨fun h => h1 (of_decide_eq_true h), fun h => h2 (of_decide_eq_false h)⟩
theorem boolK_beq {α : Type} [BEq α] [LawfulBEq α] {a b : α} {A B : Prop} (h1 : a = b → A) (h2 : ¬ a = b → B) : boolK (a == b) A B := ⟨fun h => h1 (eq_of_beq h), fun h => h2 (ne_of_beq_false h)⟩
theorem boolK_bne {α : Type} [BEq α] [LawfulBEq α] {a b : α} {A B : Prop} (h1 : ¬ a = b → A) (h2 : a = b → B) : boolK (a != b) A B := by
  refine ⟨fun h => h1 ?_, fun h => h2 ?_⟩
  · intro e; subst e; simp at h
  · simpa using h
theorem boolK_not {x : Bool} {A B : Prop} (h : boolK x B A) : boolK (!x) A B := by
  cases x
  · exact ⟨fun _ => h.no rfl, fun h => Bool.noConfusion h⟩
  · exact ⟨fun h => Bool.noConfusion h, fun _ => h.yes rfl⟩
theorem boolK_and {x y : Bool} {A B : Prop} (h : boolK x (boolK y A B) B) : boolK (x && y) A B := by
  cases x
  · exact ⟨fun h => Bool.noConfusion h, fun _ => h.no rfl⟩
  · simpa using h.yes rfl
theorem boolK_or {x y : Bool} {A B : Prop} (h : boolK x A (boolK y A B)) : boolK (x || y) A B := by
  cases x
  · simpa using h.no rfl
  · exact ⟨fun _ => h.yes rfl, fun h => Bool.noConfusion h⟩
theorem boolK_true {A B : Prop} (h : A) : boolK true A B := ⟨fun _ => h, fun h => Bool.noConfusion h⟩
theorem boolK_false {A B : Prop} (h : B) : boolK false A B := ⟨fun h => Bool.noConfusion h, fun _ => h⟩

theorem sideK_intro {p k : Prop} (h : p) (hk : k) : sideK p k := ⟨h, hk⟩
theorem drawK_intro {a b : Bool} {K : Prop} (h1 : a = true) (h2 : b = true) (h : K) : drawK a b K := ⟨⟨h1, h2⟩, h⟩
theorem callK_intro {F : FnT} {f : FuncId} {cs : List C} {bs : Bxs} {K : Res → Bxs → Prop} {res : Res} {bs' : Bxs} (h : F f cs bs res bs') (hk : K res bs') : callK F f cs bs K := ⟨res, bs', h, hk⟩

theorem wrap_i64 {n : Int} (h : -9223372036854775808 ≤ n ∧ n ≤ 9223372036854775807) : IntKind.i64.wrap n = n := by
  have : IntKind.i64.wrap n = if n % 18446744073709551616 ≥ 9223372036854775808 then n % 18446744073709551616 - 18446744073709551616 else n % 18446744073709551616 := by
    simp [IntKind.wrap, IntKind.bits, IntKind.signed]
  rw [this]
  split <;> omega
theorem wrap_u64 {n : Int} (h : 0 ≤ n ∧ n ≤ 18446744073709551615) : IntKind.u64.wrap n = n := by
  have : IntKind.u64.wrap n = n % 18446744073709551616 := by simp [IntKind.wrap, IntKind.bits, IntKind.signed]
  omega
theorem wrap_u32 {n : Int} (h : 0 ≤ n ∧ n ≤ 4294967295) : IntKind.u32.wrap n = n := by
  have : IntKind.u32.wrap n = n % 4294967296 := by simp [IntKind.wrap, IntKind.bits, IntKind.signed]
  omega
theorem wrap_u16 {n : Int} (h : 0 ≤ n ∧ n ≤ 65535) : IntKind.u16.wrap n = n := by
  have : IntKind.u16.wrap n = n % 65536 := by simp [IntKind.wrap, IntKind.bits, IntKind.signed]
  omega
theorem wrap_u8 {n : Int} (h : 0 ≤ n ∧ n ≤ 255) : IntKind.u8.wrap n = n := by
  have : IntKind.u8.wrap n = n % 256 := by simp [IntKind.wrap, IntKind.bits, IntKind.signed]
  omega

theorem wrapK_i64 {n : Int} {K : Int → Prop} (h : -9223372036854775808 ≤ n ∧ n ≤ 9223372036854775807) (hk : K n) : wrapK .i64 n K := ⟨by rw [wrap_i64 h]; exact hk⟩
theorem wrapK_u64 {n : Int} {K : Int → Prop} (h : 0 ≤ n ∧ n ≤ 18446744073709551615) (hk : K n) : wrapK .u64 n K := ⟨by rw [wrap_u64 h]; exact hk⟩
theorem wrapK_u32 {n : Int} {K : Int → Prop} (h : 0 ≤ n ∧ n ≤ 4294967295) (hk : K n) : wrapK .u32 n K := ⟨by rw [wrap_u32 h]; exact hk⟩
theorem wrapK_u16 {n : Int} {K : Int → Prop} (h : 0 ≤ n ∧ n ≤ 65535) (hk : K n) : wrapK .u16 n K := ⟨by rw [wrap_u16 h]; exact hk⟩
theorem wrapK_u8 {n : Int} {K : Int → Prop} (h : 0 ≤ n ∧ n ≤ 255) (hk : K n) : wrapK .u8 n K := ⟨by rw [wrap_u8 h]; exact hk⟩
theorem wrapK_any {k : IntKind} {n : Int} {K : Int → Prop} (hk : K (k.wrap n)) : wrapK k n K := ⟨hk⟩

/-- a byte that came out of a number -/
def byteOf (n : Int) : UInt8 := UInt8.ofNat (n % 256).toNat
theorem byteOf_toNat (n : Int) : ((byteOf n).toNat : Int) = IntKind.u8.wrap n := by
  have h1 : (byteOf n).toNat = (n % 256).toNat % 256 := by simp [byteOf]
  rw [h1]
  have h2 : IntKind.u8.wrap n = n % 256 := by simp [IntKind.wrap, IntKind.bits, IntKind.signed]
  have : (0 : Int) ≤ n % 256 := Int.emod_nonneg _ (by omega)
  have : n % 256 < 256 := Int.emod_lt_of_pos _ (by omega)
  omega
/-- a byte out of a number: it is a byte's number again -/
theorem convK_i64 {n : Int} {K : Int → Prop} (h : -9223372036854775808 ≤ n ∧ n ≤ 9223372036854775807) (hk : K n) : convK .i64 n K := ⟨by rw [wrap_i64 h]; exact hk⟩
theorem convK_u64 {n : Int} {K : Int → Prop} (h : 0 ≤ n ∧ n ≤ 18446744073709551615) (hk : K n) : convK .u64 n K := ⟨by rw [wrap_u64 h]; exact hk⟩
theorem convK_u32 {n : Int} {K : Int → Prop} (h : 0 ≤ n ∧ n ≤ 4294967295) (hk : K n) : convK .u32 n K := ⟨by rw [wrap_u32 h]; exact hk⟩
theorem convK_u16 {n : Int} {K : Int → Prop} (h : 0 ≤ n ∧ n ≤ 65535) (hk : K n) : convK .u16 n K := ⟨by rw [wrap_u16 h]; exact hk⟩
theorem convK_any {k : IntKind} {n : Int} {K : Int → Prop} (hk : K (k.wrap n)) : convK k n K := ⟨hk⟩
theorem convK_byte {n : Int} {K : Int → Prop} (hk : K ((byteOf n).toNat : Int)) : convK .u8 n K := ⟨by rw [← byteOf_toNat]; exact hk⟩
theorem shlK_intro {k : IntKind} {a b m : Int} {K : Int → Prop} (h : 0 ≤ b) (hm : a * 2 ^ (min b.toNat k.bits) = m) (hk : wrapK k m K) : shlK k a b K := ⟨h, by rw [hm]; exact hk.1⟩
theorem shrK_intro {k : IntKind} {a b m : Int} {K : Int → Prop} (h : 0 ≤ b) (hm : (2 : Int) ^ (min b.toNat k.bits) = m) (hk : K (a.fdiv m)) : shrK k a b K := ⟨h, by rw [hm]; exact hk⟩
theorem quoK_i64 {a b : Int} {K : Int → Prop} (h : 0 ≤ a ∧ 0 < b ∧ a ≤ 9223372036854775807) (hk : K (a / b)) : quoK .i64 a b K := by
  refine ⟨by omega, ?_⟩
  rw [Int.tdiv_eq_ediv_of_nonneg h.1, wrap_i64]
  · exact hk
  · have h1 : 0 ≤ a / b := Int.ediv_nonneg h.1 (by omega)
    have h2 : a / b ≤ a := Int.ediv_le_self b h.1
    omega
theorem quoK_u8 {a b : Int} {K : Int → Prop} (h : 0 ≤ a ∧ 0 < b ∧ a ≤ 255) (hk : K (a / b)) : quoK .u8 a b K := by
  refine ⟨by omega, ?_⟩
  rw [Int.tdiv_eq_ediv_of_nonneg h.1, wrap_u8]
  · exact hk
  · have h1 : 0 ≤ a / b := Int.ediv_nonneg h.1 (by omega)
    have h2 : a / b ≤ a := Int.ediv_le_self b h.1
    omega
theorem quoK_u16 {a b : Int} {K : Int → Prop} (h : 0 ≤ a ∧ 0 < b ∧ a ≤ 65535) (hk : K (a / b)) : quoK .u16 a b K := by
  refine ⟨by omega, ?_⟩
  rw [Int.tdiv_eq_ediv_of_nonneg h.1, wrap_u16]
  · exact hk
  · have h1 : 0 ≤ a / b := Int.ediv_nonneg h.1 (by omega)
    have h2 : a / b ≤ a := Int.ediv_le_self b h.1
    omega
theorem remK_pos {a b : Int} {K : Int → Prop} (h : 0 ≤ a ∧ 0 < b) (hk : K (a % b)) : remK a b K := by
  refine ⟨by omega, ?_⟩
  rw [Int.tmod_eq_emod_of_nonneg h.1]; exact hk
theorem natK_of {i : Int} {j : Nat} {K : Nat → Prop} (h : i = (j : Int)) (hk : K j) : natK i K := ⟨by rw [h, Int.toNat_natCast]; exact hk⟩
theorem natK_any {i : Int} {K : Nat → Prop} (hk : K i.toNat) : natK i K := ⟨hk⟩
theorem wrapK_byte {n : Int} {K : Int → Prop} (hk : K ((byteOf n).toNat : Int)) : wrapK .u8 n K := ⟨by rw [← byteOf_toNat]; exact hk⟩

theorem bytesK_map {l : List UInt8} {K : List UInt8 → Prop} (h : K l) : bytesK (l.map u8) K := ⟨l, rfl, h⟩
theorem bytesK_of {cs : List L} {l : List UInt8} {K : List UInt8 → Prop} (h : cs = l.map u8) (hk : K l) : bytesK cs K := ⟨l, h, hk⟩

theorem byte_lt (x : UInt8) : x.toNat < 256 := UInt8.toNat_lt x

/-- a byte of a slice of bytes -/
theorem headI_u8 {l : List UInt8} {j : Nat} {K : Int → List L → Prop} (h : j < l.length) (hk : (l.getD j 0).toNat < 256 → K ((l.getD j 0).toNat : Int) ((l.drop (j + 1)).map u8)) : headI .u8 ((l.map u8).drop (j * 1)) K := by
  refine ⟨_, _, ?_, hk (byte_lt _)⟩
  rw [Nat.mul_one, ← List.map_drop, List.drop_eq_getElem_cons h, List.map_cons]
  simp [u8, List.getD_eq_getElem?_getD, h]
theorem headI_u8' {l : List UInt8} {K : Int → List L → Prop} (h : 0 < l.length) (hk : (l.getD 0 0).toNat < 256 → K ((l.getD 0 0).toNat : Int) ((l.drop 1).map u8)) : headI .u8 (l.map u8) K := by
  have := headI_u8 (j := 0) h hk
  simpa using this
theorem headI_cons {k : IntKind} {n : Int} {r : List L} {K : Int → List L → Prop} (hk : K n r) : headI k (.i k n :: r) K := ⟨n, r, rfl, hk⟩
theorem headB_cons {n : Bool} {r : List L} {K : Bool → List L → Prop} (hk : K n r) : headB (.b n :: r) K := ⟨n, r, rfl, hk⟩
theorem headS_cons {n : List UInt8} {r : List L} {K : List UInt8 → List L → Prop} (hk : K n r) : headS (.s n :: r) K := ⟨n, r, rfl, hk⟩
theorem headV_cons {x : List L} {n : Nat} {r : List L} {K : List L → Nat → List L → Prop} (hk : K x n r) : headV (.sl x n :: r) K := ⟨x, n, r, rfl, hk⟩
theorem headX_cons {x : L} {r : List L} {K : L → List L → Prop} (hk : K x r) : headX (x :: r) K := ⟨x, r, rfl, hk⟩

theorem u8_of {n : Int} (h : 0 ≤ n ∧ n ≤ 255) : L.i .u8 n = u8 (byteOf n) := by
  unfold u8
  rw [byteOf_toNat, wrap_u8 h]

theorem catK_nil {b : List L} {K : List L → Prop} (hk : K b) : catK [] b K := ⟨hk⟩
theorem catK_nil' {a : List L} {K : List L → Prop} (hk : K a) : catK a [] K := ⟨by rw [List.append_nil]; exact hk⟩
theorem catK_u8 {a b : List UInt8} {K : List L → Prop} (hk : K ((a ++ b).map u8)) : catK (a.map u8) (b.map u8) K := ⟨by rw [← List.map_append]; exact hk⟩
theorem catK_one {a : List UInt8} {x : UInt8} {K : List L → Prop} (hk : K ((a ++ [x]).map u8)) : catK (a.map u8) [.i .u8 (x.toNat : Int)] K := ⟨by rw [List.map_append] at hk; exact hk⟩
theorem catK_lit {a : List UInt8} {n : Int} {K : List L → Prop} (h : 0 ≤ n ∧ n ≤ 255) (hk : K ((a ++ [byteOf n]).map u8)) : catK (a.map u8) [.i .u8 n] K := ⟨by rw [List.map_append] at hk; rw [u8_of h]; exact hk⟩
theorem catK_lit1 {x : UInt8} {b : List UInt8} {K : List L → Prop} (hk : K ((x :: b).map u8)) : catK [.i .u8 (x.toNat : Int)] (b.map u8) K := ⟨hk⟩
theorem catK_of {a b c : List L} {K : List L → Prop} (h : a ++ b = c) (hk : K c) : catK a b K := ⟨by rw [h]; exact hk⟩
theorem catK_any {a b : List L} {K : List L → Prop} (hk : K (a ++ b)) : catK a b K := ⟨hk⟩
theorem takeC_u8 {a : List UInt8} {n : Nat} {K : List L → Prop} (hk : K ((a.take n).map u8)) : takeC (a.map u8) (n * 1) K := ⟨by rw [Nat.mul_one, ← List.map_take]; exact hk⟩
theorem dropC_u8 {a : List UInt8} {n : Nat} {K : List L → Prop} (hk : K ((a.drop n).map u8)) : dropC (a.map u8) (n * 1) K := ⟨by rw [Nat.mul_one, ← List.map_drop]; exact hk⟩
theorem dropC_zero {a : List L} {K : List L → Prop} (hk : K a) : dropC a 0 K := ⟨hk⟩
theorem takeC_of {a c : List L} {n : Nat} {K : List L → Prop} (h : a.take n = c) (hk : K c) : takeC a n K := ⟨by rw [h]; exact hk⟩
theorem dropC_of {a c : List L} {n : Nat} {K : List L → Prop} (h : a.drop n = c) (hk : K c) : dropC a n K := ⟨by rw [h]; exact hk⟩
theorem takeC_any {a : List L} {n : Nat} {K : List L → Prop} (hk : K (a.take n)) : takeC a n K := ⟨hk⟩
theorem dropC_any {a : List L} {n : Nat} {K : List L → Prop} (hk : K (a.drop n)) : dropC a n K := ⟨hk⟩
theorem callK_at {F : FnT} {f : FuncId} {cs cs' : List C} {bs : Bxs} {K : Res → Bxs → Prop} {res : Res} {bs' : Bxs} (h : F f cs' bs res bs') (e : cs = cs') (hk : K res bs') : callK F f cs bs K := ⟨res, bs', by rw [e]; exact h, hk⟩

end Go.Sx

/-
  From what a row tells of the arguments to a contract's values.
-/
namespace Go.Sx
open Go.RowKit

/-- leaves of a type -/
inductive Typ (T : TypeId → TI) : TypeId → List L → Prop where
  | int {t k n} (h : (T t).d = .int k) (hr : (Lit.int k n).wf = true) : Typ T t [.i k n]
  | bool {t x} (h : (T t).d = .bool) : Typ T t [.b x]
  | str {t x} (h : (T t).d = .str) : Typ T t [.s x]
  | slice {t e} {rows : List (List L)} (h : (T t).d = .slice e) (hr : ∀ r ∈ rows, Typ T e r) : Typ T t [.sl rows.flatten rows.length]
  | struct {t fs} {parts : List (List L)} (h : (T t).d = .struct fs) (hl : parts.length = fs.length) (hp : ∀ (j : Nat) q r, fs[j]? = some q → parts[j]? = some r → Typ T q.2 r) : Typ T t parts.flatten

def layN (T : TypeId → TI) : List (Nat × TypeId) → Nat → Nat → Bool
  | [], off, n => Nat.beq off n
  | q :: r, off, n => Nat.beq q.1 off && layN T r (off + (T q.2).size) n

def typB (T : TypeId → TI) : Nat → TypeId → Bool
  | 0, _ => false
  | d + 1, t => match (T t).d with
    | .int _ => true
    | .bool => true
    | .str => true
    | .slice e => typB T d e && Nat.blt 0 (T e).size
    | .struct fs => layN T fs 0 (T t).size && fs.all fun q => typB T d q.2
    | _ => false

section
variable {P : Program} {T : TypeId → TI} {w : World} {H : Type} {enc : TypeId × Value → H}

theorem cellsOf_eq (hT : TOk P T) {t : TypeId} (h : isOther (T t).d = false) : P.cellsOf t = (T t).size := by
  obtain ⟨i, h1, h2, _⟩ := (hT t h).info
  simp [Program.cellsOf, h1, h2]

theorem typB_ok {d : Nat} {t : TypeId} (h : typB T d t = true) : isOther (T t).d = false := by
  cases d with
  | zero => cases h
  | succ d =>
    unfold typB at h
    cases hd : (T t).d <;> first | rfl | (rw [hd] at h; cases h)

theorem mapM_some {α β : Type} {f : α → Option β} : ∀ {l : List α} {r : List β}, l.mapM f = some r → l.length = r.length ∧ ∀ (j : Nat) a b, l[j]? = some a → r[j]? = some b → f a = some b
  | [], r, h => by simp at h; subst h; simp
  | a :: l, r, h => by
    rw [List.mapM_cons] at h
    simp only [bind, Option.bind_eq_some_iff, pure, Option.some.injEq] at h
    obtain ⟨b, h1, r', h2, rfl⟩ := h
    obtain ⟨k1, k2⟩ := mapM_some h2
    refine ⟨by simp [k1], fun j x y hx hy => ?_⟩
    cases j with
    | zero => simp at hx hy; subst hx; subst hy; exact h1
    | succ j => exact k2 j x y (by simpa using hx) (by simpa using hy)

theorem rels_append {B : Nat → Prop} {μ : Mu} {a b : List L} {u v : List Value} (h : Rels B w μ a u) (k : Rels B w μ b v) : Rels B w μ (a ++ b) (u ++ v) := by
  refine ⟨by simp [h.1, k.1], fun j l x h1 h2 => ?_⟩
  by_cases hj : j < a.length
  · rw [List.getElem?_append_left hj] at h1
    rw [List.getElem?_append_left (by rw [← h.1]; exact hj)] at h2
    exact h.2 j l x h1 h2
  · rw [List.getElem?_append_right (by omega)] at h1
    rw [List.getElem?_append_right (by rw [← h.1]; omega)] at h2
    rw [← h.1] at h2
    exact k.2 _ l x h1 h2

theorem Typ.leaf {t : TypeId} {ls : List L} (h : Typ T t ls) : ∀ {B : Nat → Prop} {μ : Mu} {l : L} {v : Value}, l ∈ ls → RelL B w μ l v → v.oneCell' = true := by
  induction h with
  | int h hr => intro B μ l v hl hr; simp at hl; subst hl; cases hr; rfl
  | bool h => intro B μ l v hl hr; simp at hl; subst hl; cases hr; rfl
  | str h => intro B μ l v hl hr; simp at hl; subst hl; cases hr; rfl
  | @slice t e rows h hr ih =>
    intro B μ l v hl hr
    simp only [List.mem_singleton] at hl
    subst hl
    generalize rows.flatten = cs at hr
    generalize rows.length = n at hr
    cases hr <;> rfl
  | @struct t fs parts h hl hp ih =>
    intro B μ l v hm hr
    obtain ⟨r, hr1, hr2⟩ := List.mem_flatten.1 hm
    obtain ⟨j, hj⟩ := List.getElem?_of_mem hr1
    have hjl : j < fs.length := by rw [← hl]; exact (List.getElem?_eq_some_iff.1 hj).1
    exact ih j _ r (List.getElem?_eq_getElem hjl) hj hr2 hr

theorem add_at {w : World} {a : Addr} {j : Nat} {v : Value} (h : w.cell? (a.add j) = some v) : w.cell? ⟨a.block, a.off + j, none⟩ = some v := by
  unfold Addr.add at h
  split at h
  · rename_i hj
    subst hj
    have : a.spot = none := by
      unfold World.cell? at h
      split at h
      · split at h
        · cases h
        · rename_i h2; simpa using h2
      · cases h
    obtain ⟨b, o, sp⟩ := a
    simp only at this
    subst this
    exact h
  · exact h

theorem add_add (a : Addr) (i j : Nat) (w : World) (v : Value) (h : w.cell? ((a.add i).add j) = some v) : w.cell? ⟨a.block, a.off + (i + j), none⟩ = some v := by
  have := add_at h
  unfold Addr.add at this
  split at this
  · rename_i hi; subst hi; simpa using this
  · simpa [Nat.add_assoc] using this

theorem cells_rows {w : World} {a : Addr} {k : Nat} (rows : List (List Value)) : ∀ (i0 : Nat), (∀ (i : Nat) r, rows[i]? = some r → w.cells? 0 (a.add ((i0 + i) * k)) k = some r) →
    ∀ (j : Nat) v, rows.flatten[j]? = some v → w.cell? ⟨a.block, a.off + (i0 * k + j), none⟩ = some v := by
  induction rows with
  | nil => intro i0 _ j v h; simp at h
  | cons r rows ih =>
    intro i0 hr j v h
    have h0 := hr 0 r rfl
    simp only [World.cells?, Nat.zero_le, if_true, Nat.add_zero] at h0
    obtain ⟨k1, k2⟩ := mapM_some h0
    simp only [List.length_range] at k1
    rw [List.flatten_cons] at h
    by_cases hj : j < r.length
    · rw [List.getElem?_append_left hj] at h
      have := k2 j j v (by rw [List.getElem?_range (by omega)]) h
      exact add_add a (i0 * k) j w v this
    · rw [List.getElem?_append_right (by omega)] at h
      have := ih (i0 + 1) (fun i r' hi => by
        have := hr (i + 1) r' (by simpa using hi)
        rwa [show i0 + (i + 1) = i0 + 1 + i by omega] at this) (j - r.length) v h
      rw [show i0 * k + j = (i0 + 1) * k + (j - r.length) by rw [Nat.succ_mul]; omega]
      exact this

theorem typ_of_trod (hT : TOk P T) : ∀ (d fuel : Nat) (t : TypeId) (cs : List Value) (x : DataW H × List MemPlace), typB T d t = true → DataW.trod enc P w 0 (fun _ => true) true fuel t cs = some x →
    ∃ ls, Rels (fun _ => False) w noMu ls cs ∧ Typ T t ls := by
  intro d
  induction d with
  | zero => intro fuel t cs x h; cases h
  | succ d ih =>
    intro fuel t cs x htb h
    cases fuel with
    | zero => simp [DataW.trod] at h
    | succ fuel =>
      have ho := typB_ok htb
      have hty := hT t ho
      have hu := hty.und
      have one : ∀ (l : L) (v : Value), RelL (fun _ => False) w noMu l v → Rels (fun _ => False) w noMu [l] [v] := fun l v hl => ⟨rfl, fun j a b h1 h2 => by
        cases j with
        | zero => simp at h1 h2; subst h1; subst h2; exact hl
        | succ j => simp at h1⟩
      unfold typB at htb
      cases hd : (T t).d <;> rw [hd] at htb hu <;> simp only [Bool.false_eq_true] at htb
      case int k =>
        have hu : P.underlying t = some (.int k) := hu
        unfold DataW.trod at h
        rw [hu] at h
        match cs, h with
        | [.int k' n], h =>
          simp only at h
          split at h
          · rename_i hk
            obtain ⟨rfl, hw⟩ := hk
            exact ⟨[.i k' n], one _ _ .i, .int hd hw⟩
          · cases h
      case bool =>
        have hu : P.underlying t = some .bool := hu
        unfold DataW.trod at h
        rw [hu] at h
        match cs, h with
        | [.bool b], h => exact ⟨[.b b], one _ _ .b, .bool hd⟩
      case str =>
        have hu : P.underlying t = some .string := hu
        unfold DataW.trod at h
        rw [hu] at h
        match cs, h with
        | [.string s], h => obtain ⟨⟨l⟩⟩ := s; exact ⟨[.s l], one _ _ .s, .str hd⟩
      case slice e =>
        simp only [Bool.and_eq_true] at htb
        obtain ⟨hte, hpos⟩ := htb
        have hpos : 0 < (T e).size := by have : 0 + 1 ≤ (T e).size := Nat.le_of_ble_eq_true hpos; omega
        have hce := cellsOf_eq hT (typB_ok hte)
        unfold DataW.trod at h
        rw [hu.1] at h
        match cs, h with
        | [.slice none 0 0], h => exact ⟨[.sl [] 0], one _ _ .sl0, .slice (rows := []) hd (by simp)⟩
        | [.slice (some a) len cap], h =>
          simp only at h
          split at h
          · rename_i hc
            simp only [Option.bind_eq_some_iff] at h
            obtain ⟨elems, h1, h2⟩ := h
            obtain ⟨k1, k2⟩ := mapM_some h1
            simp only [List.length_range] at k1
            -- the rows
            have hrow : ∀ i, i < len → ∃ vs ls, w.cells? 0 (a.add (i * (T e).size)) (T e).size = some vs ∧ Rels (fun _ => False) w noMu ls vs ∧ Typ T e ls := by
              intro i hi
              have h3 := k2 i i (elems[i]'(by omega)) (by simp [List.getElem?_range, hi]) (List.getElem?_eq_getElem _)
              simp only [Option.bind_eq_some_iff] at h3
              obtain ⟨vs, h4, h5⟩ := h3
              obtain ⟨ls, h6, h7⟩ := ih fuel e vs _ hte h5
              rw [hce] at h4
              exact ⟨vs, ls, h4, h6, h7⟩
            have hrows : ∀ n, n ≤ len → ∃ (vss : List (List Value)) (lss : List (List L)), vss.length = n ∧ lss.length = n ∧ (∀ (i : Nat) r, vss[i]? = some r → w.cells? 0 (a.add ((0 + i) * (T e).size)) (T e).size = some r) ∧ Rels (fun _ => False) w noMu lss.flatten vss.flatten ∧ ∀ r ∈ lss, Typ T e r := by
              intro n
              induction n with
              | zero => intro _; exact ⟨[], [], rfl, rfl, by simp, ⟨rfl, by simp⟩, by simp⟩
              | succ n ihn =>
                intro hn
                obtain ⟨vss, lss, g1, g2, g3, g4, g5⟩ := ihn (by omega)
                obtain ⟨vs, ls, f1, f2, f3⟩ := hrow n (by omega)
                refine ⟨vss ++ [vs], lss ++ [ls], by simp [g1], by simp [g2], fun i r hi => ?_, ?_, fun r hr => ?_⟩
                · by_cases hin : i < vss.length
                  · rw [List.getElem?_append_left hin] at hi; exact g3 i r hi
                  · rw [List.getElem?_append_right (by omega)] at hi
                    have : i - vss.length = 0 := by
                      rcases Nat.eq_zero_or_pos (i - vss.length) with h | h
                      · exact h
                      · rw [List.getElem?_eq_none (by simp; omega)] at hi; cases hi
                    rw [this] at hi
                    simp at hi
                    subst hi
                    have : i = n := by omega
                    rw [this, Nat.zero_add]; exact f1
                · simp only [List.flatten_append, List.flatten_cons, List.flatten_nil, List.append_nil]
                  exact rels_append g4 f2
                · rcases List.mem_append.1 hr with hr | hr
                  · exact g5 r hr
                  · simp at hr; subst hr; exact f3
            obtain ⟨vss, lss, g1, g2, g3, g4, g5⟩ := hrows len (Nat.le_refl _)
            have hcells : Cells w a.block a.off vss.flatten := by
              intro j v hj
              refine ⟨?_, ?_⟩
              · have := cells_rows vss 0 g3 j v hj
                simpa using this
              · have hmem : ∀ (lss : List (List L)) (vss : List (List Value)), True := fun _ _ => trivial
                -- each cell is one of a typed row
                obtain ⟨l, hl⟩ : ∃ l, lss.flatten[j]? = some l := ⟨lss.flatten[j]'(by rw [g4.1]; exact (List.getElem?_eq_some_iff.1 hj).1), List.getElem?_eq_getElem _⟩
                have hrel := g4.2 j l v hl hj
                have hlm : l ∈ lss.flatten := List.mem_of_getElem? hl
                obtain ⟨r, hr, hlr⟩ := List.mem_flatten.1 hlm
                exact (g5 r hr).leaf hlr hrel
            refine ⟨[.sl lss.flatten len], one _ _ ?_, ?_⟩
            · by_cases hz : a.spot = none
              · obtain ⟨b, o, sp⟩ := a
                simp only at hz
                subst hz
                exact .sl (fun _ h => h) g4.1 hcells (fun j l v h1 h2 => g4.2 j l v h1 h2) hc.2.1
              · have hl0 : len = 0 := by
                  rcases Nat.eq_zero_or_pos len with h | h
                  · exact h
                  · exfalso
                    obtain ⟨vs, ls, f1, f2, f3⟩ := hrow 0 h
                    simp only [World.cells?, Nat.zero_le, if_true, Nat.zero_mul] at f1
                    obtain ⟨m1, m2⟩ := mapM_some f1
                    simp only [List.length_range] at m1
                    have := m2 0 0 (vs[0]'(by omega)) (by simp [List.getElem?_range, hpos]) (List.getElem?_eq_getElem _)
                    simp only [Addr.add, if_true] at this
                    unfold World.cell? at this
                    split at this
                    · split at this
                      · cases this
                      · rename_i h2; exact hz (by simpa using h2)
                    · cases this
                subst hl0
                have : lss = [] := List.eq_nil_of_length_eq_zero g2
                subst this
                exact .sl0
            · have := Typ.slice (rows := lss) hd g5
              rwa [g2] at this
          · cases h
      case struct fs =>
        simp only [Bool.and_eq_true] at htb
        obtain ⟨hlay, hall⟩ := htb
        obtain ⟨⟨fields, hf1, hf2⟩, hok⟩ := hu
        have hct := cellsOf_eq hT ho
        unfold DataW.trod at h
        rw [hf1] at h
        simp only at h
        split at h
        · rename_i hlen
          simp only [Option.map_eq_some_iff] at h
          obtain ⟨xs, h1, _⟩ := h
          obtain ⟨k1, k2⟩ := mapM_some h1
          -- part by part
          have go : ∀ (fl : List Field) (off : Nat), (∀ f ∈ fl, typB T d f.type = true) → layN T (fl.map fun f => (f.offset, f.type)) off (T t).size = true →
              (∀ f ∈ fl, ∃ x, DataW.trod enc P w 0 (fun _ => true) true fuel f.type ((cs.drop f.offset).take (P.cellsOf f.type)) = some x) → off ≤ (T t).size →
              ∃ parts : List (List L), parts.length = fl.length ∧ Rels (fun _ => False) w noMu parts.flatten (cs.drop off) ∧ ∀ (j : Nat) f r, fl[j]? = some f → parts[j]? = some r → Typ T f.type r := by
            intro fl
            induction fl with
            | nil =>
              intro off _ hl _ hoff
              have : off = (T t).size := Nat.eq_of_beq_eq_true hl
              refine ⟨[], rfl, ⟨?_, by simp⟩, by simp⟩
              simp only [List.flatten_nil, List.length_nil, List.length_drop, hlen, hct]
              omega
            | cons f fl ihf =>
              intro off htf hl hx hoff
              simp only [List.map_cons, layN, Bool.and_eq_true] at hl
              obtain ⟨l1, l2⟩ := hl
              have l1 : f.offset = off := Nat.eq_of_beq_eq_true l1
              obtain ⟨x, hx0⟩ := hx f (by simp)
              have hcf := cellsOf_eq hT (typB_ok (htf f (by simp)))
              rw [l1, hcf] at hx0
              obtain ⟨ls, e1, e2⟩ := ih fuel f.type _ _ (htf f (by simp)) hx0
              have hle : ∀ (fs : List (Nat × TypeId)) (o : Nat), layN T fs o (T t).size = true → o ≤ (T t).size := by
                intro fs
                induction fs with
                | nil => intro o h; have : o = (T t).size := Nat.eq_of_beq_eq_true h; omega
                | cons q r ihq => intro o h; simp only [layN, Bool.and_eq_true] at h; have := ihq _ h.2; omega
              have hle2 := hle _ _ l2
              obtain ⟨parts, p1, p2, p3⟩ := ihf (off + (T f.type).size) (fun f' hf' => htf f' (List.mem_cons_of_mem _ hf')) l2 (fun f' hf' => hx f' (List.mem_cons_of_mem _ hf')) hle2
              refine ⟨ls :: parts, by simp [p1], ?_, fun j f' r h2 h3 => ?_⟩
              · rw [List.flatten_cons]
                have : cs.drop off = (cs.drop off).take (T f.type).size ++ cs.drop (off + (T f.type).size) := by
                  rw [← List.drop_drop, List.take_append_drop]
                rw [this]
                exact rels_append e1 p2
              · cases j with
                | zero => simp at h2 h3; subst h2; subst h3; exact e2
                | succ j => exact p3 j f' r (by simpa using h2) (by simpa using h3)
          have hx : ∀ f ∈ fields.toList, ∃ x, DataW.trod enc P w 0 (fun _ => true) true fuel f.type ((cs.drop f.offset).take (P.cellsOf f.type)) = some x := by
            intro f hf
            obtain ⟨j, hj⟩ := List.getElem?_of_mem hf
            have hjl : j < xs.length := by rw [← k1]; exact (List.getElem?_eq_some_iff.1 hj).1
            exact ⟨_, k2 j f _ hj (List.getElem?_eq_getElem hjl)⟩
          obtain ⟨parts, p1, p2, p3⟩ := go fields.toList 0 (fun f hf => by
            have := List.all_eq_true.1 hall (f.offset, f.type) (by rw [← hf2]; exact List.mem_map.2 ⟨f, hf, rfl⟩)
            exact this) (by rw [hf2]; exact hlay) hx (Nat.zero_le _)
          refine ⟨parts.flatten, by simpa using p2, .struct hd (by rw [p1, ← hf2]; simp) fun j q r h2 h3 => ?_⟩
          rw [← hf2] at h2
          simp only [List.getElem?_map, Option.map_eq_some_iff] at h2
          obtain ⟨f, hf, rfl⟩ := h2
          exact p3 j f r hf h3
        · cases h

end
end Go.Sx

namespace Go.Sx
open Go.RowKit

def argC (agg : Bool) (ls : List L) : C :=
  match agg with
  | true => .a ls
  | false => .o (ls.headD .u)

theorem calls_of_fn {P : Program} {f : FuncId} {fn : Func} {c : Code} (hf : P.funcs[f]? = some fn) (hb : fn.body = some c) (hnm : (fn.name == "runtime.NumGoroutine") = false)
    {cs : List C} (h : Fn P f cs [] (.one (.c (.o (.b true)))) []) {w : World} {vs : List Value} (hr : RelCs (fun _ => False) w noMu cs vs) :
    Calls P f ⟨vs⟩ w fun e w' => e = .returned (.bool true) ∧ Below w.heap.size w w' := by
  have hsb : SB ⟨w.heap.size, fun _ => False, fun _ h => h.elim⟩ (boxOf []) noMu (fun _ => False) w :=
    ⟨fun id bx h => by simp [boxOf] at h, fun id id' bx bx' b o n o' n' h => by simp [boxOf] at h, fun id bx b o n h => by simp [boxOf] at h, fun b h => h, Nat.le_refl _, fun b h => h.elim⟩
  have hc := h w (fun _ => False) (fun _ h => h.elim) noMu vs hsb (fun id h => absurd rfl h) hr
  have hne : fn.name ≠ "runtime.NumGoroutine" := by simpa using hnm
  have hcall : (callFunc f ⟨vs⟩).run P w = .ok (.enter f ⟨vs⟩) w := by simp [callFunc, hf, hne, hb]
  unfold CallsV at hc
  rw [hcall] at hc
  refine Calls.mono hc ?_
  rintro e w' ⟨v, rfl, us, μ', B', hv, hp⟩
  have hus : us = [v] := hv
  subst hus
  have hrel := hp.rel 0 _ v rfl rfl
  have hrel : RelL B' w' noMu (.b true) v := hrel
  cases hrel
  exact ⟨rfl, hp.fm.os, hp.fm.tape, hp.fm.output, hp.gr.size, fun k hk => hp.fm.wr k hk (by rintro ⟨id, bx, o, n, h1, _⟩; simp [boxOf] at h1)⟩

theorem rel_arg {P : Program} {T : TypeId → TI} {w : World} {H : Type} {enc : TypeId × Value → H} (hT : TOk P T) {n base : Nat} {t : TypeId} {v : Value} {d : DataW H} {p : List MemPlace} (htb : typB T n t = true)
    (h : DataW.Trod enc P w 0 (fun _ => true) true t v d p) (hok : Value.okWide P w .any base t v) : ∃ ls, Typ T t ls ∧ RelC (fun _ => False) w noMu (argC (T t).agg ls) v := by
  obtain ⟨fuel, h⟩ := h
  obtain ⟨ls, hr, ht⟩ := typ_of_trod hT n fuel t _ _ htb h
  have ho := typB_ok htb
  have hag := (hT t ho).agg
  have hu := (hT t ho).und
  refine ⟨ls, ht, ?_⟩
  -- a value of one cell
  have cell : ∀ (l : L), ls = [l] → (T t).agg = false → (∀ cs, v ≠ .agg cs) → RelC (fun _ => False) w noMu (argC (T t).agg ls) v := by
    intro l hl ha hv
    subst hl
    rw [ha]
    have hc : v.cells.toList = [v] := by
      cases v <;> first | rfl | exact absurd rfl (hv _)
    rw [hc] at hr
    exact hr.2 0 l v rfl rfl
  cases ht with
  | int hd _ =>
    rw [hd] at hag hu
    have hu : P.underlying t = some (.int _) := hu
    exact cell _ rfl hag fun cs hv => by subst hv; simp [Value.okWide, hu, Cell.okWide, Cell.ok] at hok
  | bool hd =>
    rw [hd] at hag hu
    have hu : P.underlying t = some .bool := hu
    exact cell _ rfl hag fun cs hv => by subst hv; simp [Value.okWide, hu, Cell.okWide, Cell.ok] at hok
  | str hd =>
    rw [hd] at hag hu
    have hu : P.underlying t = some .string := hu
    exact cell _ rfl hag fun cs hv => by subst hv; simp [Value.okWide, hu, Cell.okWide, Cell.ok] at hok
  | slice hd _ =>
    rw [hd] at hag hu
    have hu := hu.1
    exact cell _ rfl hag fun cs hv => by subst hv; simp [Value.okWide, hu, Cell.okWide, Cell.ok] at hok
  | struct hd _ _ =>
    rw [hd] at hag hu
    obtain ⟨⟨fields, hf1, _⟩, _⟩ := hu
    rw [hag]
    simp only [Value.okWide, hf1] at hok
    obtain ⟨cs, rfl, _⟩ := hok
    exact ⟨cs.toList, rfl, hr⟩

theorem relCs_nil {B : Nat → Prop} {w : World} {μ : Mu} : RelCs B w μ [] [] := ⟨rfl, fun j c v h => by simp at h⟩

section
variable {T : TypeId → TI} {t e : TypeId} {ls : List L}

theorem typ_int {k : IntKind} (h : Typ T t ls) (hd : (T t).d = .int k) : ∃ n, ls = [.i k n] ∧ (Lit.int k n).wf = true := by
  cases h with
  | int h hr => rw [hd] at h; cases h; exact ⟨_, rfl, hr⟩
  | bool h => rw [hd] at h; cases h
  | str h => rw [hd] at h; cases h
  | slice h _ => rw [hd] at h; cases h
  | struct h _ _ => rw [hd] at h; cases h
theorem typ_bool (h : Typ T t ls) (hd : (T t).d = .bool) : ∃ x, ls = [.b x] := by
  cases h with
  | int h hr => rw [hd] at h; cases h
  | bool h => exact ⟨_, rfl⟩
  | str h => rw [hd] at h; cases h
  | slice h _ => rw [hd] at h; cases h
  | struct h _ _ => rw [hd] at h; cases h
theorem typ_str (h : Typ T t ls) (hd : (T t).d = .str) : ∃ x, ls = [.s x] := by
  cases h with
  | int h hr => rw [hd] at h; cases h
  | bool h => rw [hd] at h; cases h
  | str h => exact ⟨_, rfl⟩
  | slice h _ => rw [hd] at h; cases h
  | struct h _ _ => rw [hd] at h; cases h
theorem typ_slice (h : Typ T t ls) (hd : (T t).d = .slice e) : ∃ rows : List (List L), ls = [.sl rows.flatten rows.length] ∧ ∀ r ∈ rows, Typ T e r := by
  cases h with
  | int h hr => rw [hd] at h; cases h
  | bool h => rw [hd] at h; cases h
  | str h => rw [hd] at h; cases h
  | slice h hr => rw [hd] at h; cases h; exact ⟨_, rfl, hr⟩
  | struct h _ _ => rw [hd] at h; cases h
theorem typ_struct {fs : List (Nat × TypeId)} (h : Typ T t ls) (hd : (T t).d = .struct fs) : ∃ parts : List (List L), ls = parts.flatten ∧ parts.length = fs.length ∧ ∀ (j : Nat) q r, fs[j]? = some q → parts[j]? = some r → Typ T q.2 r := by
  cases h with
  | int h hr => rw [hd] at h; cases h
  | bool h => rw [hd] at h; cases h
  | str h => rw [hd] at h; cases h
  | slice h _ => rw [hd] at h; cases h
  | struct h h1 h2 => rw [hd] at h; cases h; exact ⟨_, rfl, h1, h2⟩

theorem rows_of {α : Type} {f : α → List L} {Q : α → Prop} : ∀ {rows : List (List L)}, (∀ r ∈ rows, ∃ x, r = f x ∧ Q x) → ∃ l : List α, rows = l.map f ∧ ∀ x ∈ l, Q x
  | [], _ => ⟨[], rfl, by simp⟩
  | r :: rows, h => by
    obtain ⟨x, rfl, hx⟩ := h r (by simp)
    obtain ⟨l, rfl, hl⟩ := rows_of fun r hr => h r (List.mem_cons_of_mem _ hr)
    exact ⟨x :: l, rfl, fun y hy => by rcases List.mem_cons.1 hy with rfl | hy; exact hx; exact hl y hy⟩

theorem wf_i64 {n : Int} (h : (Lit.int .i64 n).wf = true) : -9223372036854775808 ≤ n ∧ n ≤ 9223372036854775807 := by
  simp [Lit.wf, IntKind.min, IntKind.max, IntKind.signed, IntKind.bits] at h
  omega
theorem wf_u8 {n : Int} (h : (Lit.int .u8 n).wf = true) : 0 ≤ n ∧ n ≤ 255 := by
  simp [Lit.wf, IntKind.min, IntKind.max, IntKind.signed, IntKind.bits] at h
  omega
theorem wf_u16 {n : Int} (h : (Lit.int .u16 n).wf = true) : 0 ≤ n ∧ n ≤ 65535 := by
  simp [Lit.wf, IntKind.min, IntKind.max, IntKind.signed, IntKind.bits] at h
  omega
theorem wf_u32 {n : Int} (h : (Lit.int .u32 n).wf = true) : 0 ≤ n ∧ n ≤ 4294967295 := by
  simp [Lit.wf, IntKind.min, IntKind.max, IntKind.signed, IntKind.bits] at h
  omega
theorem wf_u64 {n : Int} (h : (Lit.int .u64 n).wf = true) : 0 ≤ n ∧ n ≤ 18446744073709551615 := by
  simp [Lit.wf, IntKind.min, IntKind.max, IntKind.signed, IntKind.bits] at h
  omega

theorem typ_bytes (h : Typ T t ls) (hd : (T t).d = .slice e) (he : (T e).d = .int .u8) : ∃ b : List UInt8, ls = [.sl (b.map u8) b.length] := by
  obtain ⟨rows, rfl, hr⟩ := typ_slice h hd
  obtain ⟨l, rfl, _⟩ := rows_of (f := fun x : UInt8 => [u8 x]) (Q := fun _ => True) (rows := rows) fun r hr' => by
    obtain ⟨n, rfl, hw⟩ := typ_int (hr r hr') he
    exact ⟨byteOf n, by rw [u8_of (wf_u8 hw)], trivial⟩
  refine ⟨l, ?_⟩
  have : (l.map fun x : UInt8 => [u8 x]).flatten = l.map u8 := by
    clear hr h
    induction l with
    | nil => rfl
    | cons x r ih => simp [ih]
  rw [this]; simp

theorem typ_ints {k : IntKind} (h : Typ T t ls) (hd : (T t).d = .slice e) (he : (T e).d = .int k) : ∃ b : List Int, ls = [.sl (b.map (.i k)) b.length] ∧ ∀ n ∈ b, (Lit.int k n).wf = true := by
  obtain ⟨rows, rfl, hr⟩ := typ_slice h hd
  obtain ⟨l, rfl, hl⟩ := rows_of (f := fun x : Int => [L.i k x]) (Q := fun n => (Lit.int k n).wf = true) (rows := rows) fun r hr' => by
    obtain ⟨n, rfl, hw⟩ := typ_int (hr r hr') he
    exact ⟨n, rfl, hw⟩
  refine ⟨l, ?_, hl⟩
  have : (l.map fun x : Int => [L.i k x]).flatten = l.map (.i k) := by
    clear hr h hl
    induction l with
    | nil => rfl
    | cons x r ih => simp [ih]
  rw [this]; simp
end

end Go.Sx

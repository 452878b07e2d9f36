/-
  An evaluator of the model's code, proved right; an evaluator that runs, proved right by it: for every program; the conditions stand in each theorem.
-/
import Derived.Test.YtihnbghdddbimaaGreatDoorSxB
import Derived.Orders
import Derived.LoopN
set_option linter.all false
namespace Go.Sx
def OpWp (P : Program) (o : Oper) (ρ : Operand → Value) (w : World) (R : Value → World → Prop) : Prop :=
  match (execOp ρ o).run P w with
  | .ok (.value v) w' => R v w'
  | .ok .skip w' => R undef w'
  | .ok (.enter f args) w' => Calls P f args w' fun e w'' => ∃ v, e = .returned v ∧ R v w''
  | _ => False
section
variable {P : Program} [Gl P] {T : TypeId → TI} {B : Nat → Prop} {w : World} {μ : Mu} {X : Cx P} {m : Nat → Option Bx}
theorem OpWp.val {o : Oper} {ρ : Operand → Value} {R : Value → World → Prop} {s : Sem Value} {v' : Value} {w' : World} (he : execOp ρ o = (do pure (.value (← s)))) (hs : s.run P w = .ok v' w') (hr : R v' w') : OpWp P o ρ w R := by
  unfold OpWp
  rw [he]
  simp only [Sem.run_bind, hs, Result.andThen_ok, Sem.run_pure]
  exact hr
theorem field_facts (hT : TOk P T) {t : TypeId} {fs : List (Nat × TypeId)} {fl : Nat} (htd : (T t).d = .struct fs) (hlt : (!Nat.blt fl fs.length) = false) :
    ∃ f : Field, (∃ fields : Array Field, P.underlying t = some (.struct fields) ∧ fields[fl]? = some f) ∧ (f.offset = (fieldAt fs fl).1 ∧ f.type = (fieldAt fs fl).2 ∧ True) ∧ (isOther (T (fieldAt fs fl).2).d = false ∧ 0 < (T (fieldAt fs fl).2).size) := by
  have ht := hT t (by rw [htd]; rfl)
  have hu := ht.und
  rw [htd] at hu
  obtain ⟨⟨fields, hf1, hf2⟩, hok⟩ := hu
  have hlt : fl < fs.length := by simpa using hlt
  have hlt' : fl < fields.toList.length := by rw [← hf2] at hlt; simpa using hlt
  have h1 : fs[fl]? = some (fields.toList[fl].offset, fields.toList[fl].type) := by
    rw [← hf2]; simp only [List.getElem?_map, List.getElem?_eq_getElem hlt', Option.map_some]
  have h2 : fieldAt fs fl = (fields.toList[fl].offset, fields.toList[fl].type) := by simp only [fieldAt, h1, Option.getD_some]
  have h3 := hok (fieldAt fs fl) (by rw [h2]; exact List.mem_of_getElem? h1)
  refine ⟨fields.toList[fl], ⟨fields, hf1, ?_⟩, ⟨by rw [h2], by rw [h2], trivial⟩, h3⟩
  rw [← Array.getElem?_toList]
  exact List.getElem?_eq_getElem hlt'
theorem take_sound (hT : TOk P T) (hsb : SB X m μ B w) {d : Nat} (hd : μ d = none) (hp : isPar d = false) {t : TypeId} {s : V} {k : IntKind} {n : Int} {vs vn : Value} {K : V → Eff → Prop} (h : takeSem T t d s n (lkm m) K) (hs : RelV B w μ s vs) (hn : vn = .int k n) :
    ∃ v', (Instr.sliceAt t vs none (some vn) none).run P w = .ok v' w ∧ Out X m μ B w K v' w := by
  subst hn
  unfold takeSem at h
  match s, h, hs with
  | .t _, h, _ => exact h.elim
  | .c (.a _), h, _ => exact h.elim
  | .c (.o l), h, hs =>
    simp only at h
    cases htd : (T t).d <;> rw [htd] at h <;> try exact h.elim
    rename_i e
    cases l <;> try exact h.elim
    rename_i id n' sz
    obtain ⟨bx, hbx, h⟩ := h
    cases bx <;> try exact h.elim
    rename_i cs
    obtain ⟨hpz, ⟨h1, h2⟩, ⟨⟨hk⟩⟩⟩ := cond_false h
    simp only [Bool.or_eq_false_iff, Bool.not_eq_false'] at hpz
    have hsz : sz = (T e).size := Nat.eq_of_beq_eq_true hpz.2
    subst hsz
    have hu := (hT t (by rw [htd]; rfl)).und
    rw [htd] at hu
    have hse := run_sizeOf' (w := w) (hT e hu.2)
    have hs' : RelL B w μ (.gw id n' (T e).size) vs := hs
    clear hs
    cases hs' with
    | @gw0 _ _ _ ad g1 =>
      have hcs : cs = [] := by
        rcases hsb.box id _ hbx with ⟨_, h⟩ | ⟨b, o, k1, _⟩
        · exact h
        · rw [g1] at k1; cases k1
      subst hcs
      have h0 : n = 0 := by omega
      subst h0
      have hdrop := hsb.drop id
      have hst := hdrop.trans (hdrop.sb.createNil (d := d) hd hp)
      refine ⟨.slice ad 0 0, ?_, _, _, upd μ d none, B, hk, ?_, ?_⟩
      · simp [Instr.sliceAt, Instr.slice, run_underlying hu.1, Instr.sliceBounds, run_sliceBound (P := P) (w := w) (k := k) (i := 0) (y := 0) (by omega) (by omega), hse]
      · simpa using hst
      · exact RelL.gw0 (by simp [upd])
    | @gw _ _ _ _ b o cap g1 g2 g3 =>
      have hmu : μ id = some (some (b, o, cs.length)) := by
        rcases hsb.box id _ hbx with ⟨k1, _⟩ | ⟨b', o', k1, _⟩
        · rw [g1] at k1; cases k1
        · rw [g1] at k1
          simp only [Option.some.injEq, Prod.mk.injEq] at k1
          obtain ⟨rfl, rfl, e1⟩ := k1
          rw [g1, e1]
      have hcl : cs.length = n' * (T e).size := by rw [g1] at hmu; simp only [Option.some.injEq, Prod.mk.injEq] at hmu; exact hmu.2.2.symm
      obtain ⟨j, rfl⟩ := Int.eq_ofNat_of_zero_le h1
      rw [Int.toNat_natCast] at hk
      have hjn : j ≤ n' := by omega
      have hle : j * (T e).size ≤ cs.length := by rw [hcl]; exact Nat.mul_le_mul_right _ hjn
      have hst := hsb.appendIn (d := d) hbx hmu hpz.1 hd hp 0 (j * (T e).size) [] [] (by omega) ⟨rfl, by simp⟩ (by simp) (by simp)
      simp only [List.drop_zero, List.append_nil, Nat.add_zero] at hst
      refine ⟨.slice (some ⟨b, o, none⟩) j cap, ?_, _, _, _, _, hk, hst, ?_⟩
      · have hb := run_sliceBound (P := P) (w := w) (k := k) (i := (j : Int)) (y := cap) (code := .sliceAcap) (by omega) (by omega)
        by_cases hc : cap = 0
        · subst hc
          have : j = 0 := by omega
          subst this
          simp [Instr.sliceAt, Instr.slice, run_underlying hu.1, Instr.sliceBounds, run_sliceBound (P := P) (w := w) (k := k) (i := 0) (y := 0) (by omega) (by omega), hse]
        · simp [Instr.sliceAt, Instr.slice, run_underlying hu.1, Instr.sliceBounds, run_sliceBound (P := P) (w := w) (k := k) (i := (j : Int)) (y := cap) (by omega) (by omega), hse, Addr.add]
      · exact RelL.gw (by simp only [upd, if_true, List.length_take, Nat.min_eq_left hle]) (by omega) g3
theorem zero3_sound (hT : TOk P T) (hsb : SB X m μ B w) {d : Nat} (hd : μ d = none) (hp : isPar d = false) {t : TypeId} {s : V} {k k' : IntKind} {b c : Int} {vs : Value} {K : V → Eff → Prop} (h : zero3Sem T t d s b c K) (hs : RelV B w μ s vs) :
    ∃ v', (Instr.sliceAt t vs none (some (.int k b)) (some (.int k' c))).run P w = .ok v' w ∧ Out X m μ B w K v' w := by
  unfold zero3Sem at h
  match s, h, hs with
  | .c (.o l), h, hs =>
    change RelL B w μ l vs at hs
    have ht : isOther (T t).d = false → TyOk P T t := hT t
    cases htd : (T t).d <;> rw [htd] at h ht <;> try exact h.elim
    rename_i e
    have hu := (ht rfl).und
    rw [htd] at hu
    have hse := run_sizeOf' (w := w) (hT e hu.2)
    obtain ⟨hl, ⟨rfl, rfl⟩, hk⟩ := cond_true h
    obtain ⟨ad, n, cap, rfl⟩ : ∃ ad n cap, vs = .slice ad n cap := by
      cases hs <;> first | exact ⟨_, _, _, rfl⟩ | cases hl
    refine ⟨.slice ad 0 0, ?_, _, _, upd μ d none, B, hk, hsb.createNil (d := d) hd hp, ?_⟩
    · simp [Instr.sliceAt, Instr.slice, run_underlying hu.1, Instr.sliceBounds, run_sliceBound (P := P) (w := w) (k := k') (i := 0) (y := cap) (by omega) (by omega), run_sliceBound (P := P) (w := w) (k := k) (i := 0) (y := 0) (by omega) (by omega), hse]
    · exact RelL.gw0 (by simp [upd])
set_option maxHeartbeats 1000000 in
theorem op_sound {xs : List Nat} (hT : TOk P T) (hE : ∀ t, (T t).eq = true → EqTy P t (T t).zero) {o : Oper} {a : Act} {vs : List V} {K : V → Eff → Prop} (hsb : SB X m μ B w)
    (hfresh : creates o.op = true → ∀ j, μ (o.dst.getD 99998 + 10000 * j) = none) (hfp : ∀ j, isPar (o.dst.getD 99998 + 10000 * j) = false)
    (hv : ∀ (j : Nat) v x, vs[j]? = some v → o.op.operands.toList[j]? = some x → RelV B w μ v (a.eval x)) (hl : vs.length = o.op.operands.toList.length)
    (h : opSem T ⟨Fn P, FnX P, xs⟩ o.op (o.dst.getD 99998) vs (lkm m) K) : OpWp P o a.eval w (Out X m μ B w K) := by
  obtain ⟨dst, op, ty, pos, after, guard⟩ := o
  have hpar : isPar (dst.getD 99998) = false := hfp 0
  have hd0 : creates op = true → μ (dst.getD 99998) = none := fun hc => hfresh hc 0
  cases op with
  | move x =>
    match vs, h with
    | [v], h => exact OpWp.val (s := pure (a.eval x)) rfl rfl (Out.pure hsb h (hv 0 v x rfl rfl))
  | assign x =>
    match vs, h with
    | [v], h => exact OpWp.val (s := pure (a.eval x)) rfl rfl (Out.pure hsb h (hv 0 v x rfl rfl))
  | pick c x y =>
    match vs, h with
    | [.c (.o l), p, q], h =>
      have hc : RelL B w μ l (a.eval c) := hv 0 _ c rfl rfl
      have hx := hv 1 _ x rfl rfl
      have hy := hv 2 _ y rfl rfl
      have run : ∀ t, a.eval c = .bool t → (execOp a.eval ⟨dst, .pick c x y, ty, pos, after, guard⟩).run P w = .ok (.value (if t then a.eval x else a.eval y)) w := by
        intro t ht
        simp [execOp, ht, asBool]
      have yes : a.eval c = .bool true → K p [] → OpWp P ⟨dst, .pick c x y, ty, pos, after, guard⟩ a.eval w (Out X m μ B w K) := by
        intro ht hk
        unfold OpWp
        rw [run true ht]
        exact Out.pure hsb hk hx
      have no : a.eval c = .bool false → K q [] → OpWp P ⟨dst, .pick c x y, ty, pos, after, guard⟩ a.eval w (Out X m μ B w K) := by
        intro ht hk
        unfold OpWp
        rw [run false ht]
        exact Out.pure hsb hk hy
      generalize hce : a.eval c = vc at hc yes no
      cases hc with
      | tt => exact yes rfl h
      | ff => exact no rfl h
      | b =>
        rename_i e
        cases e with
        | true => exact yes rfl (h.1 rfl)
        | false => exact no rfl (h.2 rfl)
      | _ => exact False.elim h
  | alloc t =>
    have hd := hd0 rfl
    obtain ⟨v', w', h1, h2⟩ := alloc_sound hT hsb hd hpar h
    exact OpWp.val rfl h1 h2
  | box t x =>
    have hd := hd0 rfl
    match vs, h with
    | [v], h =>
      obtain ⟨v', w', h1, h2⟩ := box_sound (P := P) (t := t) hsb hd hpar (hv 0 v x rfl rfl) h
      exact OpWp.val rfl h1 h2
  | build t ps =>
    have h : buildSem T t ps.toList vs (fun v => K v []) := h
    obtain ⟨v, v', h1, h2, h3⟩ := build_sound (ρ := a.eval) hT h (fun j v q g1 g2 => hv j v q.2 g1 (by simp [Op.operands, g2]))
    exact OpWp.val rfl h2 (Out.pure hsb h1 h3)
  | buildSlice t n ps =>
    have hd := hd0 rfl
    have h : buildSliceSem T t n (dst.getD 99998) ps.toList vs (lkm m) K := h
    obtain ⟨v', w', h1, h2⟩ := buildSlice_sound (ρ := a.eval) hT hsb hd hpar h (fun j v q g1 g2 => hv j v q.2 g1 (by simp [Op.operands, g2]))
    exact OpWp.val rfl h1 h2
  | load t x =>
    match vs, h with
    | [v], h =>
      obtain ⟨v, v', h1, h2, h3⟩ := load_sound hT hsb h (hv 0 v x rfl rfl)
      exact OpWp.val rfl h2 (Out.pure hsb h1 h3)
  | store t x y =>
    match vs, h with
    | [p, q], h =>
      obtain ⟨w', h1, ef, μ', B', h2, h3⟩ := store_sound hT hsb h (hv 0 p x rfl rfl) (hv 1 q y rfl rfl)
      unfold OpWp
      simp only [execOp, Sem.run_bind, h1, Result.andThen_ok, Sem.run_pure]
      exact ⟨_, ef, μ', B', h2, h3, RelL.u⟩
  | nilCheck x =>
    match vs, h with
    | [.c (.o l)], h =>
      have hx : RelL B w μ l (a.eval x) := hv 0 _ x rfl rfl
      generalize hxe : a.eval x = vx at hx
      cases hx with
      | p q =>
        unfold OpWp
        simp only [execOp, hxe, Sem.run_pure]
        exact Out.pure hsb h (RelL.p q)
      | pf q1 q2 q3 q4 =>
        unfold OpWp
        simp only [execOp, hxe, Sem.run_pure]
        exact Out.pure hsb h (RelL.pf q1 q2 q3 q4)
      | f =>
        unfold OpWp
        simp only [execOp, hxe, Sem.run_pure]
        exact Out.pure hsb h RelL.f
      | fc q1 q2 q3 q4 q5 =>
        unfold OpWp
        simp only [execOp, hxe, Sem.run_pure]
        exact Out.pure hsb h (RelL.fc q1 q2 q3 q4 q5)
      | _ => exact False.elim h
  | binOp bop t x y u =>
    match vs, h with
    | [p, q], h =>
      obtain ⟨l, v', h1, h2, h3⟩ := bin_sound (x := x) (y := y) hT hE h (hv 0 p x rfl rfl) (hv 1 q y rfl rfl)
      exact OpWp.val rfl h2 (Out.pure hsb h1 h3)
  | unOp uop t x =>
    match vs, h with
    | [.c (.o l)], h =>
      have hx : RelL B w μ l (a.eval x) := hv 0 _ x rfl rfl
      generalize hxe : a.eval x = vx at hx
      have go : ∀ v' (v : V), (Op.unary uop vx).run P w = .ok v' w → K v [] → RelV B w μ v v' → OpWp P ⟨dst, .unOp uop t x, ty, pos, after, guard⟩ a.eval w (Out X m μ B w K) := by
        intro v' v h1 h2 h3
        exact OpWp.val (s := Op.unary uop vx) (by simp only [execOp, hxe]) h1 (Out.pure hsb h2 h3)
      cases hx with
      | tt => cases uop <;> first | exact False.elim h | exact go (.bool false) _ rfl h RelL.ff
      | ff => cases uop <;> first | exact False.elim h | exact go (.bool true) _ rfl h RelL.tt
      | b => cases uop <;> first | exact False.elim h | exact go _ _ rfl h RelL.b
      | @i _ k n =>
        cases uop <;> first | exact False.elim h | skip
        obtain ⟨h⟩ : wrapK k (0 - n) _ := h
        exact go _ _ rfl h RelL.i
      | _ => cases uop <;> exact False.elim h
  | convert s d x =>
    have hd := hd0 rfl
    match vs, h with
    | [.c (.a _)], h => exact False.elim h
    | [.t _], h => exact False.elim h
    | [.c (.o l)], h =>
      have hx : RelL B w μ l (a.eval x) := hv 0 _ x rfl rfl
      obtain ⟨hso, h⟩ := cond_false h
      have hts := hT s hso
      have hus : ∃ sd, P.underlying s = some sd := by
        have := hts.und
        cases hsd : (T s).d with
        | other => rw [hsd] at hso; cases hso
        | struct fs => rw [hsd] at this; obtain ⟨⟨f, q, _⟩, _⟩ := this; exact ⟨_, q⟩
        | slice e => rw [hsd] at this; exact ⟨_, this.1⟩
        | array n e => rw [hsd] at this; exact ⟨_, this.1⟩
        | map k e => rw [hsd] at this; exact ⟨_, this.1⟩
        | func => rw [hsd] at this; obtain ⟨p, r, v, hq⟩ := this; exact ⟨_, hq⟩
        | _ => rw [hsd] at this; exact ⟨_, this⟩
      obtain ⟨sd, hus⟩ := hus
      cases hdd : (T d).d with
      | int k =>
        have hud : P.underlying d = some (.int k) := by have := (hT d (by rw [hdd]; rfl)).und; rw [hdd] at this; exact this
        rw [hdd] at h
        cases l with
        | i k' n =>
          have e := hx.int
          obtain ⟨h⟩ : convK k n _ := h
          refine OpWp.val (s := convert s d (a.eval x)) rfl (v' := .int k (k.wrap n)) (w' := w) ?_ (Out.pure hsb h RelL.i)
          rw [e]
          simp [convert, run_underlying hus, run_underlying hud, Conv.intToInt]
        | _ => exact False.elim h
      | str =>
        have hud : P.underlying d = some .string := by have := (hT d (by rw [hdd]; rfl)).und; rw [hdd] at this; exact this
        rw [hdd] at h
        have other : (match (T s).d with
            | .slice e => match (T e).d with
              | .int .u8 => contentK (lkm m) l fun cs n => bytesK cs fun l => sideK (l.length = n) (K (.c (.o (.s l))) [])
              | _ => False
            | _ => False) → OpWp P ⟨dst, .convert s d x, ty, pos, after, guard⟩ a.eval w (Out X m μ B w K) := by
          intro h
          cases hsd : (T s).d with
          | slice e =>
            have hu1 := hts.und
            rw [hsd] at hu1 h
            simp only at h
            cases hed : (T e).d with
            | int k =>
              have hue := (hT e hu1.2).und
              rw [hed] at hue h
              cases k with
              | u8 =>
                obtain ⟨l', k1, k2⟩ := convStr_sound hu1.1 hue hud hsb h hx
                exact OpWp.val rfl k2 (Out.pure hsb k1 RelL.s)
              | _ => exact False.elim h
            | _ => rw [hed] at h; exact False.elim h
          | _ => rw [hsd] at h; exact False.elim h
        cases l with
        | s l' =>
          have e := hx.str
          refine OpWp.val (s := convert s d (a.eval x)) rfl (v' := .string ⟨⟨l'⟩⟩) (w' := w) ?_ (Out.pure hsb h RelL.s)
          rw [e]
          simp [convert, run_underlying hus, run_underlying hud]
        | _ => exact other h
      | slice e =>
        have hud := (hT d (by rw [hdd]; rfl)).und
        rw [hdd] at hud h
        cases l with
        | s l' =>
          have e' := hx.str
          simp only at h
          cases hed : (T e).d with
          | int k =>
            have hue := (hT e hud.2).und
            rw [hed] at hue h
            cases k with
            | u8 =>
              obtain ⟨v', w', k1, k2⟩ := strBytes_sound hsb hd hpar hus hud.1 hue h
              exact OpWp.val (s := convert s d (a.eval x)) rfl (by rw [e']; exact k1) k2
            | _ => exact False.elim h
          | _ => rw [hed] at h; exact False.elim h
        | gw id n sz =>
          simp only at h
          cases hed : (T e).d with
          | int k =>
            have hue := (hT e hud.2).und
            rw [hed] at hue h
            cases k with
            | u8 =>
              obtain ⟨hsd, h⟩ := cond_false h
              obtain ⟨hpi, h⟩ := cond_false h
              obtain ⟨bx, hm, hq⟩ := h
              have hsd : s = d := Nat.eq_of_beq_eq_true (by simpa using hsd)
              subst hsd
              cases bx with
              | ar cs =>
                cases cs with
                | nil => exact False.elim hq
                | cons c r =>
                  obtain ⟨w', k1, k2⟩ := convBytes_sound hsb hm (by simp) hpi hud.1 hue hx hq
                  exact OpWp.val (s := convert s s (a.eval x)) rfl k1 k2
              | _ => exact False.elim hq
            | _ => exact False.elim h
          | _ => rw [hed] at h; exact False.elim h
        | _ => exact False.elim h
      | _ => rw [hdd] at h; exact False.elim h
  | makeSlice t x y =>
    have hd := hd0 rfl
    match vs, h with
    | [.c (.o (.i .i64 n)), .c (.o (.i .i64 c))], h =>
      have e1 := RelL.int (hv 0 _ x rfl rfl)
      have e2 := RelL.int (hv 1 _ y rfl rfl)
      cases htd : (T t).d with
      | slice e =>
        simp only [opSem, htd] at h
        obtain ⟨v', w', h1, h2⟩ := make_sound hT hsb hd hpar htd h
        exact OpWp.val (s := Instr.makeSlice t (a.eval x) (a.eval y)) rfl (by rw [e1, e2]; exact h1) h2
      | _ => simp only [opSem, htd] at h
  | slice t x lo hi mx =>
    cases mx with
    | some u =>
      cases hi with
      | none => cases lo <;> exact False.elim h
      | some y =>
        cases lo with
        | none =>
          match vs, h with
          | [p, .c (.o (.i k n)), .c (.o (.i k' n'))], h =>
            obtain ⟨v', k1, k2⟩ := zero3_sound (w := w) (k := k) (k' := k') hT hsb (hd0 rfl) hpar h (hv 0 p x rfl rfl)
            have e1 := RelL.int (hv 1 _ y rfl rfl)
            have e2 := RelL.int (hv 2 _ u rfl rfl)
            refine OpWp.val (s := Instr.sliceAt t (a.eval x) none (some (a.eval y)) (some (a.eval u))) rfl ?_ k2
            rw [e1, e2]; exact k1
        | some z =>
          match vs, h with
          | [p, .c (.o (.i k n)), .c (.o (.i k' n')), .c (.o (.i k'' n''))], h =>
            obtain ⟨v, v', k1, k2, k3⟩ := cut3_sound (w := w) (k := k) (k' := k') (k'' := k'') hT (show cut3Sem T t p n n' n'' (fun v => K v []) from h) (hv 0 p x rfl rfl)
            have e1 := RelL.int (hv 1 _ z rfl rfl)
            have e2 := RelL.int (hv 2 _ y rfl rfl)
            have e3 := RelL.int (hv 3 _ u rfl rfl)
            refine OpWp.val (s := Instr.sliceAt t (a.eval x) (some (a.eval z)) (some (a.eval y)) (some (a.eval u))) rfl ?_ (Out.pure hsb k1 k3)
            rw [e1, e2, e3]; exact k2
    | none =>
      have go : ∀ (p : V) (lo' hi' : Option V), RelV B w μ p (a.eval x) → ValO lo' (lo.map a.eval) → ValO hi' (hi.map a.eval) → (sliceSem T t p (lkm m) lo' hi' fun v => K v []) →
          OpWp P ⟨dst, .slice t x lo hi none, ty, pos, after, guard⟩ a.eval w (Out X m μ B w K) := by
        intro p lo' hi' hp h1 h2 hk
        obtain ⟨v, v', k1, k2, k3⟩ := slice_sound hT hsb hk hp h1 h2
        exact OpWp.val (s := Instr.sliceAt t (a.eval x) (lo.map a.eval) (hi.map a.eval) none) rfl k2 (Out.pure hsb k1 k3)
      cases lo with
      | none => cases hi with
        | none =>
          match vs, h with
          | [p], h => exact go p none none (hv 0 p x rfl rfl) trivial trivial h
        | some y =>
          match vs, h with
          | [p, .c (.o (.i k n))], h =>
            rcases (show eitherK (sliceSem T t p (lkm m) none (some (.c (.o (.i k n)))) fun v => K v []) (takeSem T t (dst.getD 99998) p n (lkm m) K) from h) with h | h
            · exact go p none (some (.c (.o (.i k n)))) (hv 0 p x rfl rfl) trivial ⟨k, n, rfl, RelL.int (hv 1 _ y rfl rfl)⟩ h
            · obtain ⟨v', k1, k2⟩ := take_sound (w := w) hT hsb (hd0 rfl) hpar h (hv 0 p x rfl rfl) (RelL.int (hv 1 _ y rfl rfl))
              exact OpWp.val (s := Instr.sliceAt t (a.eval x) none (some (a.eval y)) none) rfl k1 k2
      | some z => cases hi with
        | none =>
          match vs, h with
          | [p, .c (.o (.i k n))], h => exact go p (some (.c (.o (.i k n)))) none (hv 0 p x rfl rfl) ⟨k, n, rfl, RelL.int (hv 1 _ z rfl rfl)⟩ trivial h
        | some y =>
          match vs, h with
          | [p, .c (.o (.i k n)), .c (.o (.i k' n'))], h => exact go p (some (.c (.o (.i k n)))) (some (.c (.o (.i k' n')))) (hv 0 p x rfl rfl) ⟨k, n, rfl, RelL.int (hv 1 _ z rfl rfl)⟩ ⟨k', n', rfl, RelL.int (hv 2 _ y rfl rfl)⟩ h
  | fieldAddr t x fl =>
    match vs, h with
    | [.c (.o l)], h =>
      have hx : RelL B w μ l (a.eval x) := hv 0 _ x rfl rfl
      generalize hxe : a.eval x = vx at hx
      cases htd : (T t).d with
      | struct fs =>
        simp only [opSem, htd] at h
        obtain ⟨hlt, h⟩ := cond_false h
        obtain ⟨f, k1, k2, k3⟩ := field_facts hT htd hlt
        have run : ∀ b o, (Instr.fieldAt t (.pointer (some ⟨b, o, none⟩)) fl).run P w = .ok (.pointer (some ⟨b, o + (fieldAt fs fl).1, none⟩)) w := by
          intro b o
          obtain ⟨fields, q1, q2⟩ := k1
          have hs : (Go.sizeOf f.type).run P w = .ok (T (fieldAt fs fl).2).size w := by rw [← k2.2.1]; exact run_sizeOf' (hT f.type (by rw [k2.2.1]; exact k3.1))
          have hne : (T (fieldAt fs fl).2).size ≠ 0 := by have := k3.2; omega
          simp only [Instr.fieldAt, Sem.run_bind, run_underlying q1, Result.andThen_ok, q2, Instr.sureAddr, Sem.run_pure, fieldPlace, hs, hne, if_false, add_lit, k2.1]
        cases hx with
        | p q =>
          refine OpWp.val (s := Instr.fieldAt t (a.eval x) fl) rfl (by rw [hxe]; exact run _ _) (Out.pure hsb h ?_)
          rw [Nat.add_assoc]
          exact RelL.p q
        | pf q1 q2 q3 q4 =>
          refine OpWp.val (s := Instr.fieldAt t (a.eval x) fl) rfl (by rw [hxe]; exact run _ _) (Out.pure hsb h ?_)
          exact RelL.pf (fun hne => q1 (by rintro rfl; simp at hne)) (by simp [q2]) (q3.drop _) (Rels.drop ⟨q2, q4⟩ _).2
        | _ => exact False.elim h
      | _ => simp only [opSem, htd] at h
  | field t x fl =>
    match vs, h with
    | [.c (.a ls)], h =>
      obtain ⟨us, hxe, hx⟩ := hv 0 _ x rfl rfl
      cases htd : (T t).d with
      | struct fs =>
        simp only [opSem, htd] at h
        obtain ⟨hlt, h⟩ := cond_false h
        obtain ⟨f, ⟨fields, q1, q2⟩, k2, k3⟩ := field_facts hT htd hlt
        obtain ⟨v, v', g1, g2, g3⟩ := part_sound hT k3.1 hx h
        refine OpWp.val (s := Instr.field t (a.eval x) fl) rfl (v' := v') (w' := w) ?_ (Out.pure hsb g1 g3)
        rw [hxe]
        simp only [Instr.field, Sem.run_bind, run_underlying q1, Result.andThen_ok, q2, asAgg, Sem.run_pure, k2.1, k2.2.1, g2]
      | _ => simp only [opSem, htd] at h
  | indexAddr t x y =>
    match vs, h with
    | [p, .c (.o (.i k n))], h =>
      have e1 := RelL.int (hv 1 _ y rfl rfl)
      have h : indexSem T t p n (fun v => K v []) := h
      obtain ⟨v, v', h1, h2, h3⟩ := index_sound (k := k) hT h (hv 0 p x rfl rfl)
      exact OpWp.val (s := Instr.indexAt t (a.eval x) (a.eval y)) rfl (by rw [e1]; exact h2) (Out.pure hsb h1 h3)
  | index t x y =>
    match vs, h with
    | [.c (.o (.s l)), .c (.o (.i k n))], h =>
      have e1 := RelL.str (hv 0 _ x rfl rfl)
      have e2 := RelL.int (hv 1 _ y rfl rfl)
      cases htd : (T t).d with
      | str =>
        simp only [opSem, htd] at h
        have hu := (hT t (by rw [htd]; rfl)).und
        rw [htd] at hu
        have hu : P.underlying t = some .string := hu
        obtain ⟨j, rfl, hj, hk⟩ := offK_elim h
        refine OpWp.val (s := Instr.index t (a.eval x) (a.eval y)) rfl (v' := .int .u8 (l.getD j 0).toNat) (w' := w) ?_ (Out.pure hsb hk RelL.i)
        rw [e1, e2]
        have : (⟨⟨l⟩⟩ : ByteArray)[j]? = some (l.getD j 0) := by
          have hsz : j < (⟨⟨l⟩⟩ : ByteArray).size := hj
          rw [getElem?_pos (⟨⟨l⟩⟩ : ByteArray) j hsz]
          congr 1
          show l[j] = _
          simp [List.getD, hj]
        simp [Instr.index, asIntOf, run_underlying hu, this]
      | _ => simp only [opSem, htd] at h
    | [.c (.a ls), .c (.o (.i k n))], h =>
      obtain ⟨us, hxe, hx⟩ := hv 0 _ x rfl rfl
      have e2 := RelL.int (hv 1 _ y rfl rfl)
      cases htd : (T t).d with
      | array mm e =>
        simp only [opSem, htd] at h
        have hu := (hT t (by rw [htd]; rfl)).und
        rw [htd] at hu
        obtain ⟨j, rfl, hj, hk⟩ := offK_elim h
        obtain ⟨v, v', g1, g2, g3⟩ := part_sound hT hu.2 hx hk
        have hs := run_sizeOf' (w := w) (hT e hu.2)
        refine OpWp.val (s := Instr.index t (a.eval x) (a.eval y)) rfl (v' := v') (w' := w) ?_ (Out.pure hsb g1 g3)
        rw [hxe, e2]
        simp [Instr.index, asIntOf, run_underlying hu.1, hs, hj, g2]
      | _ => simp only [opSem, htd] at h
  | extract x n =>
    match vs, h with
    | [.t cs], h =>
      obtain ⟨us, hxe, hx⟩ := hv 0 _ x rfl rfl
      obtain ⟨c, h1, h2⟩ := nthK_elim _ _ _ h
      have hlt : n < us.length := by rw [← hx.1]; exact (List.getElem?_eq_some_iff.1 h1).1
      have h3 := hx.2 n c _ h1 (List.getElem?_eq_getElem hlt)
      refine OpWp.val (s := Instr.extract (a.eval x) n) rfl (v' := us[n]) (w' := w) ?_ (Out.pure hsb h2 h3)
      rw [hxe]
      simp [Instr.extract, hlt]
  | call c =>
    have hd := hd0 rfl
    have hfresh := hfresh rfl
    obtain ⟨callee, args, argTypes⟩ := c
    have h : callOpSem T ⟨Fn P, FnX P, xs⟩ ⟨callee, args, argTypes⟩ (dst.getD 99998) vs (lkm m) K := h
    cases callee with
    | invoke r mth => exact False.elim h
    | value g =>
      have hops : (Op.call ⟨.value g, args, argTypes⟩).operands.toList = g :: args.toList := by simp [Op.operands, Call.operands]
      have key : ∀ (f : FuncId) (first cap : List Value) (us : List V) (todo : List Nat), a.eval g = .func (.func f) ⟨first⟩ ⟨cap⟩ → us.length = (first ++ (args.toList.map a.eval ++ cap)).length →
          (∀ (i : Nat) v u, us[i]? = some v → (first ++ (args.toList.map a.eval ++ cap))[i]? = some u → RelV B w μ v u) → callA ⟨Fn P, FnX P, xs⟩ f (dst.getD 99998) todo us (lkm m) K →
          OpWp P ⟨dst, .call ⟨.value g, args, argTypes⟩, ty, pos, after, guard⟩ a.eval w (Out X m μ B w K) := by
        intro f first cap us todo hg hl' hr h
        have hc : CallsV P f ⟨first ++ (args.toList.map a.eval ++ cap)⟩ w fun e w' => ∃ v, e = .returned v ∧ Out X m μ B w K v w' := by
          unfold callA at h
          cases hx : elemN f xs with
          | true =>
            rw [show elemN f (Fs.mk (Fn P) (FnX P) xs).xs = true from hx] at h
            rcases (show eitherK (callX (FnX P) f (dst.getD 99998) todo us (lkm m) K) (eitherK (callR (FnX P) f todo us (lkm m) K) (callSem (Fn P) f (dst.getD 99998) us (lkm m) K)) from h) with h | h | h
            · exact callX_sound hsb hr hl' hfresh hfp h
            · exact callR_sound hsb hr hl' hfresh hfp h
            · exact call_sound hsb hr hl' hfresh hfp h
          | false =>
            rw [show elemN f (Fs.mk (Fn P) (FnX P) xs).xs = false from hx] at h
            exact call_sound hsb hr hl' hfresh hfp h
        have he : (execOp a.eval ⟨dst, .call ⟨.value g, args, argTypes⟩, ty, pos, after, guard⟩).run P w = (callFunc f ⟨first ++ (args.toList.map a.eval ++ cap)⟩).run P w := by
          have e1 : (⟨first⟩ ++ args.map a.eval ++ ⟨cap⟩ : Array Value) = ⟨first ++ (args.toList.map a.eval ++ cap)⟩ := by apply Array.ext'; simp
          simp only [execOp, resolve, hg, Deferred.ofValue, Sem.run_bind, Sem.run_pure, Result.andThen_ok, invoke]
          rw [e1]
        unfold OpWp
        rw [he]
        unfold CallsV at hc
        split at hc
        · rename_i g as w' heq
          rw [heq]
          exact hc
        · rename_i v w' heq
          rw [heq]
          obtain ⟨v', e, ho⟩ := hc
          cases e
          exact ho
        · exact False.elim hc
      have hargs : ∀ (i : Nat) v u, vs[i + 1]? = some v → (args.toList.map a.eval)[i]? = some u → RelV B w μ v u := by
        intro i v u g1 g2
        simp only [List.getElem?_map, Option.map_eq_some_iff] at g2
        obtain ⟨y, hy, rfl⟩ := g2
        refine hv (i + 1) v y g1 ?_
        show (Op.call ⟨.value g, args, argTypes⟩).operands.toList[i + 1]? = some y
        rw [hops]; exact hy
      have hlen : vs.length = (args.toList.map a.eval).length + 1 := by
        have : vs.length = (Op.call ⟨.value g, args, argTypes⟩).operands.toList.length := hl
        rw [hops] at this
        simpa using this
      cases g with
      | func f =>
        match vs, h, hargs, hlen with
        | _ :: vs, h, hargs, hlen =>
          refine key f [] [] vs _ rfl (by simpa using hlen) (fun i v u g1 g2 => hargs i v u g1 (by simpa using g2)) h
      | tmp t =>
        match vs, h, hargs, hlen with
        | .t _ :: vs, h, _, _ => exact False.elim h
        | .c (.a _) :: vs, h, _, _ => exact False.elim h
        | [], h, _, _ => exact False.elim h
        | .c (.o l) :: us, h, hargs, hlen =>
          have hg : RelL B w μ l (a.eval (.tmp t)) := hv 0 _ (.tmp t) rfl (by
            show (Op.call ⟨.value (.tmp t), args, argTypes⟩).operands.toList[0]? = some _
            rw [hops]; rfl)
          generalize hge : a.eval (.tmp t) = vg at hg
          cases hg with
          | @f _ fn =>
            exact key fn [] [] us _ hge (by simpa using hlen) (fun i v u g1 g2 => hargs i v u g1 (by simpa using g2)) h
          | @fc _ fn n sh ls vs0 us0 q1 q2 q3 q4 q5 =>
            obtain ⟨_, h⟩ := cond_false (show bif ls.any isFc then False else unflatK sh ls fun cs => closK n cs us fun us' => callA _ fn (dst.getD 99998) _ us' (lkm m) K from h)
            obtain ⟨cs, h, hcs⟩ := unflatK_sound ⟨q1, q2⟩ q3 h
            obtain ⟨hn, h⟩ := closK_elim h
            have hcl : cs.length = us0.length := hcs.1
            refine key fn (us0.take n) (us0.drop n) _ _ hge ?_ ?_ h
            · simp only [List.length_append, List.length_map, List.length_take, List.length_drop, List.length_cons] at hlen ⊢
              omega
            · intro i v u g1 g2
              have t1 : ((cs.take n).map V.c).length = n := by simp; omega
              have t2 : (us0.take n).length = n := by simp; omega
              rcases Nat.lt_or_ge i n with hi | hi
              · rw [List.getElem?_append_left (by rw [t1]; exact hi)] at g1
                rw [List.getElem?_append_left (by rw [t2]; exact hi)] at g2
                rw [List.getElem?_map, List.getElem?_take, if_pos hi, Option.map_eq_some_iff] at g1
                obtain ⟨c, g1, rfl⟩ := g1
                rw [List.getElem?_take, if_pos hi] at g2
                exact hcs.2 i c u g1 g2
              · rw [List.getElem?_append_right (by rw [t1]; exact hi), t1] at g1
                rw [List.getElem?_append_right (by rw [t2]; exact hi), t2] at g2
                have hul : us.length = (args.toList.map a.eval).length := by simpa using hlen
                rcases Nat.lt_or_ge (i - n) us.length with hj | hj
                · rw [List.getElem?_append_left hj] at g1
                  rw [List.getElem?_append_left (by rw [← hul]; exact hj)] at g2
                  exact hargs (i - n) v u g1 g2
                · rw [List.getElem?_append_right hj] at g1
                  rw [List.getElem?_append_right (by rw [← hul]; exact hj), ← hul] at g2
                  rw [List.getElem?_map, Option.map_eq_some_iff] at g1
                  obtain ⟨c, g1, rfl⟩ := g1
                  rw [List.getElem?_drop] at g1 g2
                  exact hcs.2 _ c u g1 g2
          | _ => exact False.elim h
      | _ => exact False.elim h
    | builtin b =>
      have he : ∀ (s : Sem Value), builtin b argTypes ty (args.map fun | .const _ => true | _ => false) (args.map a.eval) = (do pure (.value (← s))) →
          execOp a.eval ⟨dst, .call ⟨.builtin b, args, argTypes⟩, ty, pos, after, guard⟩ = (do pure (.value (← s))) := by
        intro s hs
        rw [← hs]
        rfl
      have hops : (Op.call ⟨.builtin b, args, argTypes⟩).operands.toList = args.toList := by simp [Op.operands, Call.operands]
      have hv' : ∀ (j : Nat) v x, vs[j]? = some v → args.toList[j]? = some x → RelV B w μ v (a.eval x) := fun j v x g1 g2 => hv j v x g1 (by
        show (Op.call ⟨.builtin b, args, argTypes⟩).operands.toList[j]? = some x
        rw [hops]; exact g2)
      have hl' : vs.length = args.toList.length := by
        have : vs.length = (Op.call ⟨.builtin b, args, argTypes⟩).operands.toList.length := hl
        rw [hops] at this; exact this
      have arr : ∀ l : List Operand, args.toList = l → args.map a.eval = ⟨l.map a.eval⟩ := by
        intro l hl; apply Array.ext'; simp [hl]
      cases b with
      | len =>
        match vs, h with
        | [v], h =>
          match hargs : args.toList, hl' with
          | [x], _ =>
            have hx := hv' 0 v x rfl (by rw [hargs]; rfl)
            have h : (match argTypes.toList with
              | [t] => lenSem (T t).d v fun l => K (.c (.o l)) []
              | _ => False) := h
            match hat : argTypes.toList with
            | [t] =>
              simp only [hat] at h
              have eat : argTypes = #[t] := by apply Array.ext'; rw [hat]
              have run : ∀ v' (l : L), (Builtin.len_ #[t] ty #[a.eval x]).run P w = .ok v' w → K (.c (.o l)) [] → RelL B w μ l v' → OpWp P ⟨dst, .call ⟨.builtin .len, args, argTypes⟩, ty, pos, after, guard⟩ a.eval w (Out X m μ B w K) := by
                intro v' l h1 h2 h3
                refine OpWp.val (he (Builtin.len_ argTypes ty (args.map a.eval)) rfl) (v' := v') (w' := w) ?_ (Out.pure hsb h2 h3)
                rw [eat, arr _ hargs]; exact h1
              match v, h, hx with
              | .c (.o l), h, hx =>
                have hx : RelL B w μ l (a.eval x) := hx
                generalize hxe : a.eval x = vx at hx run
                cases htd : (T t).d with
                | slice e =>
                  have hu := (hT t (by rw [htd]; rfl)).und
                  rw [htd] at hu
                  simp only [lenSem, htd] at h
                  have rl : ∀ ad n c, (Builtin.len_ #[t] ty #[.slice ad n c]).run P w = .ok (.int .i64 n) w := by
                    intro ad n c
                    simp [Builtin.len_, run_underlying hu.1, goInt]
                  cases hx with
                  | nl => exact run _ _ (rl _ _ _) h RelL.i
                  | sl0 => exact run _ _ (rl _ _ _) h RelL.i
                  | sl q1 q2 q3 q4 q5 => exact run _ _ (rl _ _ _) h RelL.i
                  | gw0 q => exact run _ _ (rl _ _ _) h RelL.i
                  | gw q1 q2 q3 => exact run _ _ (rl _ _ _) h RelL.i
                  | gs0 q => exact run _ _ (rl _ _ _) h RelL.i
                  | gs q1 q2 q3 q4 => exact run _ _ (rl _ _ _) h RelL.i
                  | _ => exact False.elim h
                | str =>
                  have hu := (hT t (by rw [htd]; rfl)).und
                  rw [htd] at hu
                  have hu : P.underlying t = some .string := hu
                  simp only [lenSem, htd] at h
                  cases l with
                  | s l' =>
                    have e := hx.str
                    refine run (.int .i64 l'.length) _ ?_ h RelL.i
                    have : (⟨⟨l'⟩⟩ : ByteArray).size = l'.length := rfl
                    simp [e, Builtin.len_, run_underlying hu, goInt, this]
                  | _ => exact False.elim h
                | _ => simp only [lenSem, htd] at h
            | [] => rw [hat] at h; exact False.elim h
            | _ :: _ :: _ => rw [hat] at h; exact False.elim h
      | cap =>
        match vs, h with
        | [.c (.o .nl)], h =>
          match hargs : args.toList, hl' with
          | [x], _ =>
            have hx : RelL B w μ .nl (a.eval x) := hv' 0 _ x rfl (by rw [hargs]; rfl)
            have h : (match argTypes.toList with
              | [t] => match (T t).d with
                | .slice _ => K (.c (.o (.i .i64 0))) []
                | _ => False
              | _ => False) := h
            match hat : argTypes.toList with
            | [t] =>
              simp only [hat] at h
              have eat : argTypes = #[t] := by apply Array.ext'; rw [hat]
              generalize hxe : a.eval x = vx at hx
              cases htd : (T t).d with
              | slice e =>
                have hu := (hT t (by rw [htd]; rfl)).und
                rw [htd] at hu h
                refine OpWp.val (he (Builtin.cap_ argTypes ty (args.map a.eval)) rfl) (v' := .int .i64 0) (w' := w) ?_ (Out.pure hsb h RelL.i)
                rw [eat, arr _ hargs]
                cases hx
                simp [hxe, Builtin.cap_, run_underlying hu.1, goInt]
              | _ => rw [htd] at h; exact False.elim h
            | [] => rw [hat] at h; exact False.elim h
            | _ :: _ :: _ => rw [hat] at h; exact False.elim h
      | append =>
        match vs, h with
        | [s, y], h =>
          match hargs : args.toList, hl' with
          | [x, z], _ =>
            have hx := hv' 0 s x rfl (by rw [hargs]; rfl)
            have hz := hv' 1 y z rfl (by rw [hargs]; rfl)
            have h : (match argTypes.toList with
              | [t, u] => match (T t).d with
                | .slice e => match (T u).d with
                  | .int _ => zeroAppend (dst.getD 99998) (T e) s y K
                  | d => appendSem (dst.getD 99998) (T e) (lkm m) d s y K
                | _ => False
              | _ => False) := h
            match hat : argTypes.toList with
            | [t, u] =>
              simp only [hat] at h
              have eat : argTypes = #[t, u] := by apply Array.ext'; rw [hat]
              have run : ∀ v' w', (Builtin.append_ #[t, u] ty #[a.eval x, a.eval z]).run P w = .ok v' w' → Out X m μ B w K v' w' → OpWp P ⟨dst, .call ⟨.builtin .append, args, argTypes⟩, ty, pos, after, guard⟩ a.eval w (Out X m μ B w K) := by
                intro v' w' h1 h2
                refine OpWp.val (he (Builtin.append_ argTypes ty (args.map a.eval)) rfl) ?_ h2
                rw [eat, arr _ hargs]; exact h1
              cases htd : (T t).d with
              | slice e =>
                rw [htd] at h
                simp only at h
                have app : ∀ dd, (T u).d = dd → (∀ k, dd ≠ .int k) → appendSem (dst.getD 99998) (T e) (lkm m) dd s y K → OpWp P ⟨dst, .call ⟨.builtin .append, args, argTypes⟩, ty, pos, after, guard⟩ a.eval w (Out X m μ B w K) := by
                  intro dd hdd _ h
                  have hot : isOther (T u).d = false := by
                    rw [hdd]
                    cases dd with
                    | other => unfold appendSem srcK at h; match y, h with | .c (.o _), h => exact False.elim h
                    | _ => rfl
                  have hu := (hT u hot).und
                  rw [hdd] at hu
                  obtain ⟨v', w', h1, h2⟩ := append_sound (ty := ty) hT hsb hd hpar htd hu h hx hz
                  exact run v' w' h1 h2
                cases hud : (T u).d with
                | int k =>
                  rw [hud] at h
                  have hu := (hT u (by rw [hud]; rfl)).und
                  rw [hud] at hu
                  obtain ⟨v', w', h1, h2⟩ := zeroAppend_sound (ty := ty) hT hsb hd hpar htd hu h hx hz
                  exact run v' w' h1 h2
                | _ => rw [hud] at h; exact app _ hud (by simp) h
              | _ => rw [htd] at h; exact False.elim h
            | [] => rw [hat] at h; exact False.elim h
            | [_] => rw [hat] at h; exact False.elim h
            | _ :: _ :: _ :: _ => rw [hat] at h; exact False.elim h
      | min =>
        match vs, h with
        | [.c (.o (.i k p)), .c (.o (.i k' q))], h =>
          match hargs : args.toList, hl' with
          | [x, z], _ =>
            have e1 := RelL.int (hv' 0 _ x rfl (by rw [hargs]; rfl))
            have e2 := RelL.int (hv' 1 _ z rfl (by rw [hargs]; rfl))
            obtain ⟨hk, h⟩ := cond_true h
            refine OpWp.val (he (Builtin.min_ argTypes ty (args.map a.eval)) rfl) (v' := .int k (if q < p then q else p)) (w' := w) ?_ (Out.pure hsb h RelL.i)
            rw [arr _ hargs]
            simp [Builtin.min_, Builtin.min2, e1, e2]
        | [.c (.o (.i k p)), .c (.o (.i k' q)), .c (.o (.i k'' r))], h =>
          match hargs : args.toList, hl' with
          | [x, z, y], _ =>
            have e1 := RelL.int (hv' 0 _ x rfl (by rw [hargs]; rfl))
            have e2 := RelL.int (hv' 1 _ z rfl (by rw [hargs]; rfl))
            have e3 := RelL.int (hv' 2 _ y rfl (by rw [hargs]; rfl))
            have h : (bif kindEq k k' && kindEq k k'' then K (.c (.o (.i k (if r < (if q < p then q else p) then r else (if q < p then q else p))))) [] else False) := h
            obtain ⟨hk, h⟩ := cond_true h
            refine OpWp.val (he (Builtin.min_ argTypes ty (args.map a.eval)) rfl) (v' := .int k (if r < (if q < p then q else p) then r else (if q < p then q else p))) (w' := w) ?_ (Out.pure hsb h RelL.i)
            rw [arr _ hargs]
            simp [Builtin.min_, Builtin.min2, e1, e2, e3]
      | max =>
        match vs, h with
        | [.c (.o (.i k p)), .c (.o (.i k' q))], h =>
          match hargs : args.toList, hl' with
          | [x, z], _ =>
            have e1 := RelL.int (hv' 0 _ x rfl (by rw [hargs]; rfl))
            have e2 := RelL.int (hv' 1 _ z rfl (by rw [hargs]; rfl))
            obtain ⟨hk, h⟩ := cond_true h
            refine OpWp.val (he (Builtin.max_ argTypes ty (args.map a.eval)) rfl) (v' := .int k (if q > p then q else p)) (w' := w) ?_ (Out.pure hsb h RelL.i)
            rw [arr _ hargs]
            simp [Builtin.max_, Builtin.max2, e1, e2]
      | _ => exact False.elim h
  | makeFunc fn first cap =>
    cases fn with
    | func f =>
      have h : compsK vs fun cs => (match (generalizing := false) cs with
        | [] => K (.c (.o (.f f))) []
        | _ => flatK cs fun sh ls => bif ls.any isU || ls.any isFc then False else K (.c (.o (.fc f first.size sh ls))) []) := h
      obtain ⟨cs, hcs, h'⟩ := compsK_elim h
      subst hcs
      have hcl : cs.length = (first ++ cap).toList.length := by simpa [Op.operands] using hl
      have hr : RelCs B w μ cs ((first ++ cap).toList.map a.eval) := ⟨by simpa using hcl, fun j c u g1 g2 => by
        rw [List.getElem?_map, Option.map_eq_some_iff] at g2
        obtain ⟨y, hy, rfl⟩ := g2
        exact hv j (.c c) y (by simp [g1]) hy⟩
      refine OpWp.val (s := Instr.makeFunc (.func f) (first.map a.eval) (cap.map a.eval)) rfl (v' := .func (.func f) (first.map a.eval) (cap.map a.eval)) (w' := w) rfl ?_
      match cs, hcl, hr, h' with
      | [], hcl, hr, h' =>
        have e0 : (first ++ cap).toList = [] := List.eq_nil_of_length_eq_zero hcl.symm
        have e1 : first = #[] := by apply Array.ext'; simp at e0; simp [e0]
        have e2 : cap = #[] := by apply Array.ext'; simp at e0; simp [e0]
        subst e1; subst e2
        have : RelL B w μ (.f f) (Value.func (Fn.func f) (Array.map a.eval #[]) (Array.map a.eval #[])) := by simpa using (RelL.f : RelL B w μ (.f f) _)
        exact Out.pure hsb h' this
      | c :: cs, hcl, hr, h' =>
        obtain ⟨sh, ls, vs0, k1, k2, k3⟩ := flatK_sound hr (show flatK (c :: cs) fun sh ls => bif ls.any isU || ls.any isFc then False else K (.c (.o (.fc f first.size sh ls))) [] from h')
        obtain ⟨hc, k1⟩ := cond_false k1
        simp only [Bool.or_eq_false_iff] at hc
        have hn : first.size ≤ ((first ++ cap).toList.map a.eval).length := by simp
        have := RelL.fc (B := B) (w := w) (μ := μ) (fn := f) (n := first.size) k2.1 k2.2 k3 hn (fun l hl => by simpa using List.any_eq_false.1 hc.2 l hl)
        have e1 : (⟨((first ++ cap).toList.map a.eval).take first.size⟩ : Array Value) = first.map a.eval := by
          apply Array.ext'
          have hfl : (first.toList.map a.eval).length = first.size := by simp
          show ((first ++ cap).toList.map a.eval).take first.size = _
          rw [Array.toList_append, List.map_append, List.take_append_of_le_length (by rw [hfl]; exact Nat.le_refl _), List.take_of_length_le (by rw [hfl]; exact Nat.le_refl _), Array.toList_map]
        have e2 : (⟨((first ++ cap).toList.map a.eval).drop first.size⟩ : Array Value) = cap.map a.eval := by
          apply Array.ext'
          have hfl : (first.toList.map a.eval).length = first.size := by simp
          show ((first ++ cap).toList.map a.eval).drop first.size = _
          rw [Array.toList_append, List.map_append, ← hfl, List.drop_left, Array.toList_map]
        rw [e1, e2] at this
        exact Out.pure hsb k1 this
    | _ => exact False.elim h
  | makeMap t r =>
    have hd := hd0 rfl
    have h : (match (generalizing := false) (T t).d with
      | .map _ _ => match (generalizing := false) r, vs with
        | none, _ => K (.c (.o (.mp (dst.getD 99998)))) [(dst.getD 99998, some (.mp []))]
        | some _, [.c (.o (.i _ _))] => K (.c (.o (.mp (dst.getD 99998)))) [(dst.getD 99998, some (.mp []))]
        | _, _ => False
      | _ => False) := h
    cases htd : (T t).d with
    | map kt e =>
      rw [htd] at h
      have hu := (hT t (by rw [htd]; rfl)).und
      rw [htd] at hu
      have hst := hsb.createM hd hpar
      have fin : (Instr.makeMap t (r.map a.eval)).run P w = .ok (.map (some w.heap.size)) (w.alloc (.map #[] 0)) → K (.c (.o (.mp (dst.getD 99998)))) [(dst.getD 99998, some (.mp []))] → OpWp P ⟨dst, .makeMap t r, ty, pos, after, guard⟩ a.eval w (Out X m μ B w K) := fun hrun hk =>
        OpWp.val (s := Instr.makeMap t (r.map a.eval)) rfl hrun ⟨_, _, _, _, hk, hst, RelL.mp (by simp [upd])⟩
      cases r with
      | none => exact fin rfl h
      | some x =>
        match vs, h, hv with
        | [.c (.o (.i k n))], h, hv =>
          have hx := RelL.int (hv 0 _ x rfl rfl)
          refine fin ?_ h
          simp [Instr.makeMap, run_underlying hu.1, hx, asInt, asIntOf]
    | _ => rw [htd] at h; exact False.elim h
  | lookup t x y ok =>
    match vs, h with
    | [p, q], h =>
      obtain ⟨v, v', h1, h2, h3⟩ := lookup_sound (K := fun v => K v []) hT hsb h (hv 0 p x rfl rfl) (hv 1 q y rfl rfl)
      exact OpWp.val rfl h1 (Out.pure hsb h2 h3)
  | mapUpdate t x y z =>
    match vs, h with
    | [p, q, r], h =>
      obtain ⟨ef, μ', B', w', h1, h2, h3⟩ := mapSet_sound hT hsb h (hv 0 p x rfl rfl) (hv 1 q y rfl rfl) (hv 2 r z rfl rfl)
      unfold OpWp
      simp only [execOp, Sem.run_bind, h1, Result.andThen_ok, Sem.run_pure]
      exact ⟨_, ef, μ', B', h2, h3, RelL.u⟩
  | _ => exact False.elim h
end
end Go.Sx

namespace Go.Sx
structure SR {P : Program} [Gl P] (X : Cx P) (N : Nat) (st : St) (a : Act) (w : World) (μ : Mu) (B : Nat → Prop) : Prop where
  sb : SB X (boxOf st.x) μ B w
  env : ∀ t, RelV B w μ (lookE st.e t) (a.tmps.getD t undef)
  sz : a.tmps.size = N
  dfr : a.defers = []
structure Hist {P : Program} (X : Cx P) (w0 : World) (μ0 μ : Mu) (w : World) : Prop where
  base : X.base = w0.heap.size
  blk : ∀ b, b < w0.heap.size → (∀ id o n, isPar id = true → μ0 id ≠ some (some (b, o, n))) → ¬ X.own b → w.heap[b]? = w0.heap[b]?
  os : w.os = w0.os
  tape : w.tape = w0.tape
  output : w.output = w0.output
  par : ∀ id, isPar id = true → μ id = μ0 id
  own : ∀ id, isOwn id = true → μ id = none ∨ μ id = μ0 id
  ex : ∀ a, (w0.cell? a).isSome = true → (w.cell? a).isSome = true
section
variable {P : Program} [Gl P] {B : Nat → Prop} {w : World} {μ : Mu} {X : Cx P} {m : Nat → Option Bx}
theorem Hist.step {w0 w' : World} {μ0 μ' : Mu} {B' : Nat → Prop} {ef : Eff} (h : Hist X w0 μ0 μ w) (hsb : SB X m μ B w) (hs : Step X m μ B w ef μ' B' w') (hno : ∀ id, isOwn id = true → μ id = none → μ' id = none) : Hist X w0 μ0 μ' w' where
  base := h.base
  blk := fun b hb hn ho => by
    rw [hs.fr.wr b (Nat.lt_of_lt_of_le (h.base ▸ hb) hsb.sz) ?_, h.blk b hb hn ho]
    rintro ⟨id, bx, o, n, h1, h2, h3⟩
    cases hp : isPar id with
    | true =>
      have := h.par id hp
      rw [h3] at this
      exact hn id o n hp this.symm
    | false =>
      rcases hsb.loc id bx b o n h1 h2 hp h3 with q | q
      · have := h.base
        omega
      · exact ho q
  os := hs.fr.os.trans h.os
  tape := hs.fr.tape.trans h.tape
  output := hs.fr.output.trans h.output
  par := fun id hid => (hs.par id hid).trans (h.par id hid)
  own := fun id hid => by
    cases hm : μ id with
    | none => exact .inl (hno id hid hm)
    | some x => rw [hs.mu id x hm, ← hm]; exact h.own id hid
  ex := fun a ha => hs.gr.ex a (h.ex a ha)
theorem const_rel (v : Value) : RelV B w μ (constV v) v := by
  have leaf : ∀ v : Value, RelL B w μ (leafOf v) v := by
    intro v
    unfold leafOf
    split <;> first
      | exact .i
      | exact .tt
      | exact .ff
      | exact .nl
      | exact .np
      | exact .f
      | exact .nm
      | exact .nf
      | exact .u
      | skip
    rename_i s
    exact .s
  unfold constV
  split
  · rename_i cs
    refine ⟨cs.toList, rfl, by simp, fun j l v h1 h2 => ?_⟩
    simp only [List.getElem?_map, h2, Option.map_some, Option.some.injEq] at h1
    subst h1
    exact leaf v
  · exact leaf _
theorem operand_rel {st : St} {a : Act} {N : Nat} (h : SR X N st a w μ B) (x : Operand) : RelV B w μ (operandV st.e x) (a.eval x) := by
  cases x with
  | tmp t => exact h.env t
  | const v => exact const_rel v
  | func f => exact RelL.f
  | global g => exact RelL.u
theorem lookE_cons (k : Nat) (v : V) (e : Env) (t : Nat) : lookE ((k, v) :: e) t = if k = t then v else lookE e t := by
  show (bif Nat.beq k t then v else lookE e t) = _
  by_cases h : k = t
  · subst h; simp
  · simp [beq_ne h, h]
theorem env_put {e : Env} {a : Act} {N : Nat} (henv : ∀ t, RelV B w μ (lookE e t) (a.tmps.getD t undef)) (hsz : a.tmps.size = N) {d : Option Nat} (hd : dstOk N d = true) {v : V} {u : Value} (hv : RelV B w μ v u) :
    ∀ t, RelV B w μ (lookE (putE e d v) t) ((a.put d u).tmps.getD t undef) := by
  intro t
  cases d with
  | none => exact henv t
  | some d =>
    have hd : d < a.tmps.size := by rw [hsz]; simpa [dstOk] using hd
    simp only [putE, lookE_cons, Act.put]
    by_cases h : d = t
    · subst h
      have : (a.tmps.setIfInBounds d u).getD d undef = u := by simp [Array.getD, hd]
      rw [if_pos rfl, this]; exact hv
    · have : (a.tmps.setIfInBounds d u).getD t undef = a.tmps.getD t undef := by
        simp only [Array.getD_eq_getD_getElem?]
        rw [Array.getElem?_setIfInBounds_ne h]
      rw [if_neg h, this]; exact henv t
theorem put_size (a : Act) (d : Option Nat) (u : Value) : (a.put d u).tmps.size = a.tmps.size := by cases d <;> simp [Act.put]
theorem put_defers (a : Act) (d : Option Nat) (u : Value) : (a.put d u).defers = a.defers := by cases d <;> rfl
theorem rel_undef {B : Nat → Prop} {w : World} {μ : Mu} : RelV B w μ (.t []) undef := ⟨[], rfl, rfl, by simp⟩
theorem undef_rel {B : Nat → Prop} {w : World} {μ : Mu} {u : Value} (h : RelV B w μ (.t []) u) : u = undef := by
  obtain ⟨vs, rfl, hl, _⟩ := h
  match vs, hl with
  | [], _ => rfl
theorem yielded_undef {arr : Array Oper} {tmps : Array Value} {j : Nat} (h : tmps.getD (dstOf arr.toList j) undef = undef) : yielded arr tmps j = none := by
  unfold dstOf at h
  rw [Array.getElem?_toList] at h
  unfold yielded
  cases hd : (arr[j]?).bind (·.dst) with
  | none => rfl
  | some d =>
    rw [hd] at h
    simp only [Option.getD_some] at h
    cases hx : tmps[d]? with
    | none => simp [hx]
    | some v =>
      have : v = undef := by rw [Array.getD_eq_getD_getElem?, hx] at h; exact h
      subst this
      simp [hx, undef]
theorem guard_sound {all : List Oper} {arr : Array Oper} (harr : arr.toList = all) {st : St} {a : Act} {N : Nat} (hN : N ≤ 1000) (h : SR X N st a w μ B) {o : Oper} {K : Bool → Env → Prop} (hk : guardK all st.e o.guard K) :
    ∃ e', K (Region.wanted o (yielded arr a.tmps)) e' ∧ SR X N ⟨e', st.x⟩ a w μ B := by
  unfold guardK at hk
  cases hg : o.guard with
  | none =>
    rw [hg] at hk
    refine ⟨st.e, ?_, h⟩
    simp only [Region.wanted, hg]
    exact hk
  | some q =>
    obtain ⟨j, want⟩ := q
    rw [hg] at hk
    simp only [getK_eq] at hk
    -- the bit that the guard looks at
    have hget : ∀ t, a.tmps.getD (dstOf all j) undef = .bool t → yielded arr a.tmps j = some t := by
      intro t ht
      have hne : (undef : Value) ≠ .bool t := by intro h; cases h
      have hlt : dstOf all j < a.tmps.size := by
        rcases Nat.lt_or_ge (dstOf all j) a.tmps.size with h1 | h1
        · exact h1
        · have : a.tmps.getD (dstOf all j) undef = undef := by simp [Array.getD, Nat.not_lt.2 h1]
          rw [this] at ht; exact absurd ht hne
      have hsz := h.sz
      unfold dstOf at ht hlt
      rw [← harr, Array.getElem?_toList] at ht hlt
      unfold yielded
      cases hd : (arr[j]?).bind (·.dst) with
      | none => rw [hd] at hlt; simp at hlt; omega
      | some d =>
        rw [hd] at ht hlt
        simp only [Option.getD_some] at ht hlt
        have : a.tmps[d]? = some (.bool t) := by
          simp only [Array.getD, hlt, dif_pos] at ht
          rw [Array.getElem?_eq_getElem hlt]; exact congrArg some ht
        simp [this]
    have hw : ∀ t, a.tmps.getD (dstOf all j) undef = .bool t → Region.wanted o (yielded arr a.tmps) = (t == want) := by
      intro t ht
      simp only [Region.wanted, hg, hget t ht]
      rfl
    have hr := h.env (dstOf all j)
    have refine_env : ∀ (l : L) (t : Bool), RelL B w μ l (.bool t) → a.tmps.getD (dstOf all j) undef = .bool t → SR X N ⟨(dstOf all j, .c (.o l)) :: st.e, st.x⟩ a w μ B := by
      intro l t hl ht
      refine ⟨h.sb, fun s => ?_, h.sz, h.dfr⟩
      simp only [lookE_cons]
      split
      · rename_i he; subst he; rw [ht]; exact hl
      · exact h.env s
    generalize hv : lookE st.e (dstOf all j) = v at hk hr
    cases v with
    | t xs =>
      cases xs with
      | cons _ _ => exact hk.elim
      | nil =>
        refine ⟨st.e, ?_, h⟩
        have hu := undef_rel hr
        subst harr
        rw [show Region.wanted o (yielded arr a.tmps) = false by simp only [Region.wanted, hg, yielded_undef hu]; rfl]
        exact hk
    | c x =>
      cases x with
      | a ls => exact hk.elim
      | o l =>
        cases l <;> try exact hk.elim
        case tt =>
          generalize hu : a.tmps.getD (dstOf all j) undef = u at hr
          cases hr
          refine ⟨st.e, ?_, h⟩
          rw [hw true hu]
          cases want <;> exact hk
        case ff =>
          generalize hu : a.tmps.getD (dstOf all j) undef = u at hr
          cases hr
          refine ⟨st.e, ?_, h⟩
          rw [hw false hu]
          cases want <;> exact hk
        case b x =>
          generalize hu : a.tmps.getD (dstOf all j) undef = u at hr
          cases hr
          cases x with
          | true =>
            refine ⟨_, ?_, refine_env .tt true .tt hu⟩
            rw [hw true hu]
            cases want <;> exact hk.1 rfl
          | false =>
            refine ⟨_, ?_, refine_env .ff false .ff hu⟩
            rw [hw false hu]
            cases want <;> exact hk.2 rfl
theorem wp_of_opWp {o : Oper} {a : Act} {R : Value → World → Prop} (h : OpWp P o a.eval w R) {next : Act → World → Prop} {Q : Exit → Act → World → Prop} (hn : ∀ v w', R v w' → next (a.put o.dst v) w') : o.wp P a w next Q := by
  unfold OpWp at h
  unfold Oper.wp
  cases hr : (execOp a.eval o).run P w with
  | halt x w' => rw [hr] at h; exact h.elim
  | ok n w' =>
    rw [hr] at h
    cases n with
    | value v => exact hn v w' h
    | skip => exact hn undef w' h
    | enter f args =>
      refine Calls.mono h fun e w'' he => ?_
      obtain ⟨v, rfl, hv⟩ := he
      exact hn v w'' hv
    | _ => exact h.elim
def Pend (μ : Mu) (ops : List Oper) : Prop := ∀ o ∈ ops, creates o.op = true → ∀ j, μ (o.dst.getD 99998 % 10000 + 10000 * j) = none
theorem dst_lt {N : Nat} (hN : N ≤ 1000) {d : Option Nat} (h : dstOk N d = true) : (d.getD 99998 < 1000 ∨ d = none) := by
  cases d with
  | none => exact .inr rfl
  | some d => left; simp [dstOk] at h; simp; omega
theorem putEK_eq (e : Env) (d : Option Nat) (v : V) (K : Env → Prop) : putEK e d v K = K (putE e d v) := by cases d <;> rfl
theorem opsK_cons (G : Par) (all : List Oper) (o : Oper) (r : List Oper) (st : St) (inf : Info) (K : St → Info → Prop) : opsK G all (o :: r) st inf K =
    bif dstOk G.N o.dst then guardK all st.e o.guard fun want e => match want with
      | true => operandsK e o.op.operands.toList fun vs => opSem G.T G.F o.op (o.dst.getD 99998) vs (lookK st.x) fun v ef =>
          bif !efOk (creates o.op) st.x (o.dst.getD 99998) ef then False else applyK ef st.x fun x => opsK G all r ⟨putE e o.dst v, x⟩ ((touchO o.op (boxOf st.x) vs ++ ef.map (·.1), ef.map (·.1)) :: inf) K
      | false => opsK G all r ⟨putE e o.dst (.t []), st.x⟩ (([], []) :: inf) K
    else False := by
  obtain ⟨e0, x0⟩ := st
  show (bif dstOk G.N o.dst then guardK all e0 o.guard fun want e => match want with
      | true => operandsK e o.op.operands.toList fun vs => opSem G.T G.F o.op (o.dst.getD 99998) vs (lookK x0) fun v ef =>
          bif !efOk (creates o.op) x0 (o.dst.getD 99998) ef then False else applyK ef x0 fun x => putEK e o.dst v fun e' => opsK G all r ⟨e', x⟩ ((touchO o.op (boxOf x0) vs ++ ef.map (·.1), ef.map (·.1)) :: inf) K
      | false => putEK e o.dst (.t []) fun e' => opsK G all r ⟨e', x0⟩ (([], []) :: inf) K
    else False) = _
  simp only [putEK_eq]
theorem dst_cases {N : Nat} (hN : N ≤ 1000) {d : Option Nat} (h : dstOk N d = true) (D : Nat) (hD : D = d.getD 99998) : D < 1000 ∨ D = 99998 := by
  rcases dst_lt hN h with h1 | h1
  · left; omega
  · right; subst h1; exact hD
theorem par_no {D : Nat} (h : D < 1000 ∨ D = 99998) (j : Nat) : isPar (D + 10000 * j) = false := by
  unfold isPar
  rw [Bool.and_eq_false_iff]
  by_cases h1 : D + 10000 * j < 1000
  · left
    cases h2 : Nat.ble 1000 (D + 10000 * j) with
    | false => rfl
    | true => have := Nat.le_of_ble_eq_true h2; omega
  · right
    cases h2 : Nat.blt (D + 10000 * j) 1100 with
    | false => rfl
    | true => have : D + 10000 * j + 1 ≤ 1100 := Nat.le_of_ble_eq_true h2; omega
theorem own_mod {D id : Nat} (ho : isOwn id = true) (h : D < 1000 ∨ D = 99998) (he : id % 10000 = D % 10000) : False := by
  simp only [isOwn, Bool.and_eq_true] at ho
  have h1 := Nat.le_of_ble_eq_true ho.1
  have h2 : id + 1 ≤ 2000 := Nat.le_of_ble_eq_true ho.2
  rw [Nat.mod_eq_of_lt (by omega)] at he
  rcases h with h | h
  · rw [Nat.mod_eq_of_lt (by omega)] at he; omega
  · subst h; omega
theorem pend_of {D : Nat} (h : D < 1000 ∨ D = 99998) (hp : ∀ j, μ (D % 10000 + 10000 * j) = none) (j : Nat) : μ (D + 10000 * j) = none := by
  rcases h with h | h
  · have := hp j
    rwa [Nat.mod_eq_of_lt (by omega)] at this
  · subst h
    have := hp (j + 9)
    rwa [show 99998 % 10000 + 10000 * (j + 9) = 99998 + 10000 * j by omega] at this
def efIds (inf : Info) : List Nat := inf.flatMap (·.2)
def DomI (x0 : Bxs) (μ0 : Mu) (inf : Info) (x : Bxs) (μ : Mu) : Prop :=
  (∀ id, μ id ≠ none → μ0 id ≠ none ∨ id ∈ efIds inf) ∧ ∀ id bx, boxOf x0 id = some bx → id ∉ efIds inf → ∃ bx, boxOf x id = some bx
theorem ops_sound {G : Par} {xs : List Nat} (hF : G.F = ⟨Fn P, FnX P, xs⟩) (hT : TOk P G.T) (hE : ∀ t, (G.T t).eq = true → EqTy P t (G.T t).zero) (hN : G.N ≤ 1000) {arr : Array Oper} {Q : Exit → Act → World → Prop} {w0 : World} {μ0 : Mu} {xs0 : Bxs} {μs : Mu}
    (ops : List Oper) : ∀ (k : Nat) (st : St) (inf : Info) (K : St → Info → Prop) (a : Act) (w : World) (μ : Mu) (B : Nat → Prop), (∀ j, ops[j]? = arr[k + j]?) →
      SR X G.N st a w μ B → Hist X w0 μ0 μ w → nodupB (crDsts ops) = true → Pend μ ops → DomI xs0 μs inf st.x μ → opsK G arr.toList ops st inf K →
      (∀ st' inf' a' w' μ' B', K st' inf' → SR X G.N st' a' w' μ' B' → Hist X w0 μ0 μ' w' → DomI xs0 μs inf' st'.x μ' → Q .normal a' w') →
      wpOps P arr Q (List.range' k ops.length) a w := by
  induction ops with
  | nil =>
    intro k st inf K a w μ B _ hs hh _ _ hdm hk hq
    exact hq _ _ _ _ _ _ hk hs hh hdm
  | cons o r ih =>
    intro k st inf K a w μ B hj hs hh hnd hp hdm hk hq
    have h0 : arr[k]? = some o := by simpa using (hj 0).symm
    have hj' : ∀ j, r[j]? = arr[k + 1 + j]? := fun j => by
      have := hj (j + 1)
      rw [show k + 1 + j = k + (j + 1) by omega, ← this]; rfl
    have hnd' : nodupB (crDsts r) = true ∧ (creates o.op = true → ∀ o' ∈ r, creates o'.op = true → o'.dst.getD 99998 % 10000 ≠ o.dst.getD 99998 % 10000) := by
      unfold crDsts at hnd ⊢
      cases hc : creates o.op with
      | false => simp [hc] at hnd; exact ⟨hnd, by simp⟩
      | true =>
        rw [List.filterMap_cons_some (b := o.dst.getD 99998 % 10000) (by simp [hc])] at hnd
        simp only [nodupB, Bool.and_eq_true, Bool.not_eq_true'] at hnd
        refine ⟨hnd.2, fun _ o' ho' hc' he => ?_⟩
        have : (o.dst.getD 99998 % 10000) ∈ r.filterMap fun o => bif creates o.op then some (o.dst.getD 99998 % 10000) else none :=
          List.mem_filterMap.2 ⟨o', ho', by simp [hc', he]⟩
        simp [this] at hnd
    rw [opsK_cons] at hk
    cases hd : dstOk G.N o.dst with
    | false => rw [hd] at hk; exact hk.elim
    | true =>
      rw [hd] at hk
      rw [_root_.cond_true] at hk
      obtain ⟨e', hk, hs⟩ := guard_sound rfl hN hs (o := o) hk
      simp only [List.length_cons, List.range'_succ, wpOps, h0]
      cases hw : Region.wanted o (yielded arr a.tmps) with
      | false =>
        rw [hw] at hk
        refine ih (k + 1) ⟨putE e' o.dst (.t []), st.x⟩ _ K _ w μ B hj' ⟨hs.sb, env_put (v := .t []) (u := undef) hs.env hs.sz hd rel_undef, by rw [put_size]; exact hs.sz, by rw [put_defers]; exact hs.dfr⟩ hh hnd'.1 (fun o' ho' => hp o' (List.mem_cons_of_mem _ ho')) (show DomI xs0 μs (([], []) :: inf) st.x μ from hdm) hk hq
      | true =>
        rw [hw] at hk
        refine .inl ?_
        simp only [operandsK_eq, lookK_eq, hF] at hk
        have hD := dst_cases hN hd _ rfl
        have hop := op_sound (P := P) (X := X) (o := o) (a := a) hT hE hs.sb
          (fun hc j => pend_of hD (hp o (List.mem_cons_self ..) hc) j) (fun j => par_no hD j)
          (vs := o.op.operands.toList.map (operandV e')) (fun j v x h1 h2 => by
            simp only [List.getElem?_map, h2, Option.map_some, Option.some.injEq] at h1
            subst h1
            exact operand_rel hs x) (by simp) hk
        refine wp_of_opWp hop fun v' w' hout => ?_
        obtain ⟨v, ef, μ', B', hk, hst, hv⟩ := hout
        cases hef : efOk (creates o.op) st.x (o.dst.getD 99998) ef with
        | false => simp only [hef] at hk; exact hk.elim
        | true =>
          simp only [hef, Bool.not_true, cond_false] at hk
          obtain ⟨y, hy, hk⟩ := applyK_elim _ _ _ hk
          have hy : boxOf y = applyF (boxOf st.x) ef := funext hy
          refine ih (k + 1) _ _ K _ w' μ' B' hj' ⟨by rw [hy]; exact hst.sb, env_put (fun t => (hs.env t).grow hst.gr hst.mu) hs.sz hd hv, by rw [put_size]; exact hs.sz, by rw [put_defers]; exact hs.dfr⟩ (hh.step hs.sb hst fun id hid hm => by
            rw [hst.new]
            · exact hm
            · intro hmem
              obtain ⟨q, hq1, hq2⟩ := List.mem_map.1 hmem
              have hef := List.all_eq_true.1 hef q hq1
              simp only [Bool.or_eq_true] at hef
              rcases hef with h1 | h1
              · obtain ⟨bx, hbx⟩ := Option.isSome_iff_exists.1 h1
                exact hs.sb.muOf hbx (hq2 ▸ hm)
              · simp only [Bool.and_eq_true] at h1
                have h2 : q.1 % 10000 = o.dst.getD 99998 % 10000 := Nat.eq_of_beq_eq_true h1.2
                rw [hq2] at h2
                exact own_mod hid hD h2) hnd'.1 ?_ ?_ hk hq
          rotate_left
          · refine ⟨fun id hid => ?_, fun id bx hb hn => ?_⟩
            · by_cases hm : id ∈ ef.map (·.1)
              · exact .inr (List.mem_append_left _ hm)
              · rw [hst.new id hm] at hid
                rcases hdm.1 id hid with h1 | h1
                · exact .inl h1
                · exact .inr (List.mem_append_right _ h1)
            · have h1 : id ∉ ef.map (·.1) := fun q => hn (List.mem_append_left _ q)
              obtain ⟨bx', hb'⟩ := hdm.2 id bx hb (fun q => hn (List.mem_append_right _ q))
              refine ⟨bx', ?_⟩
              show boxOf y id = _
              rw [hy]
              rcases applyF_mem ef (boxOf st.x) id with ⟨q, h2, _⟩ | ⟨_, h2⟩
              · exact absurd (List.mem_map.2 ⟨_, h2, rfl⟩) h1
              · rw [h2, hb']
          intro o' ho' hc' j
          rw [hst.new]
          · exact hp o' (List.mem_cons_of_mem _ ho') hc' j
          · intro hmem
            obtain ⟨q, hq1, hq2⟩ := List.mem_map.1 hmem
            have hef := List.all_eq_true.1 hef q hq1
            simp only [Bool.or_eq_true] at hef
            rcases hef with h1 | h1
            · obtain ⟨bx, hbx⟩ := Option.isSome_iff_exists.1 h1
              exact hs.sb.muOf hbx (hq2 ▸ hp o' (List.mem_cons_of_mem _ ho') hc' j)
            · simp only [Bool.and_eq_true] at h1
              have h2 : q.1 % 10000 = o.dst.getD 99998 % 10000 := Nat.eq_of_beq_eq_true h1.2
              refine hnd'.2 h1.1 o' ho' hc' ?_
              rw [hq2] at h2
              rw [Nat.add_mul_mod_self_left, Nat.mod_mod] at h2
              exact h2
end
end Go.Sx

namespace Go.Sx
theorem liveK_eq (e : Env) (ts : List Nat) (K : Env → Prop) : liveK e ts K = K (ts.map fun t => (t, lookE e t)) := by
  induction ts generalizing K with
  | nil => rfl
  | cons t r ih =>
    show getK e t (fun v => liveK e r fun e' => K ((t, v) :: e')) = _
    rw [getK_eq, ih]; rfl
theorem lookE_live (e : Env) (ts : List Nat) (t : Nat) : lookE (ts.map fun t => (t, lookE e t)) t = lookE e t ∨ lookE (ts.map fun t => (t, lookE e t)) t = .c (.o .u) := by
  induction ts with
  | nil => exact .inr rfl
  | cons s r ih =>
    simp only [List.map_cons, lookE_cons]
    split
    · rename_i h; subst h; exact .inl rfl
    · exact ih
def fix0 (x : Bxs) (h : List (Nat × Nat)) (z : List Nat) (l : L) : L :=
  match l with
  | .gw id n sz => match boxOf x id with
    | none => .u
    | some (.st _) => .gw id n sz
    | some (.fz cs) => .sl cs n
    | some (.mp _) => .u
    | some (.ar cs) => match assocN h id with
      | some t => .gw t n sz
      | none => bif z.elem id then .sl cs n else .u
  | .p id off => match boxOf x id with
    | some (.st _) => .p id off
    | _ => .u
  | .mp id => match boxOf x id with
    | some (.mp _) => .mp id
    | _ => .u
  | .gs _ _ _ _ => .u
  | .fc _ _ _ _ => .u
  | l => l
def fixL (x : Bxs) (h : List (Nat × Nat)) (z : List Nat) (top : Bool) (l : L) : L :=
  match l with
  | .gw id n sz => match boxOf x id with
    | none => .u
    | some (.st _) => .gw id n sz
    | some (.mp _) => .u
    | some (.fz cs) => .sl cs n
    | some (.ar cs) => match assocN h id with
      | some t => .gw t n sz
      | none => bif z.elem id then .sl cs n else .u
  | .gs id off n sz => match boxOf x id with
    | none => .u
    | some (.st _) => .u
    | some (.mp _) => .u
    | some (.fz cs) => .sl ((cs.drop off).take (n * sz)) n
    | some (.ar cs) => match assocN h id with
      | some _ => .u
      | none => bif z.elem id then .sl ((cs.drop off).take (n * sz)) n else .u
  | .p id off => match boxOf x id with
    | none => .u
    | some (.fz cs) => .pf (cs.drop off)
    | some (.mp _) => .u
    | some (.st _) => .p id off
    | some (.ar cs) => match assocN h id with
      | some _ => .u
      | none => bif z.elem id then .pf (cs.drop off) else .p id off
  | .mp id => match boxOf x id with
    | some (.mp _) => .mp id
    | _ => .u
  | .fc g n sh ls => .fc g n sh (ls.map (fix0 x h z))
  | l => l
theorem cond_app {α : Sort _} {β : Sort _} (f : α → β) (c : Bool) (a b : α) : f (bif c then a else b) = bif c then f a else f b := by cases c <;> rfl
theorem fix0K_eq (x : Bxs) (h : List (Nat × Nat)) (z : List Nat) (l : L) (K : L → Prop) : fix0K x h z l K = K (fix0 x h z l) := by
  cases l <;> try rfl
  case gw id n sz =>
    simp only [fix0K, fix0]
    cases boxOf x id with
    | none => rfl
    | some bx => cases bx with
      | ar cs => cases assocN h id with
        | some t => rfl
        | none => show _ = K (bif z.elem id then _ else _); rw [cond_app K]
      | _ => rfl
  case p id off =>
    simp only [fix0K, fix0]
    cases boxOf x id with
    | none => rfl
    | some bx => cases bx <;> rfl
  case mp id =>
    simp only [fix0K, fix0]
    cases boxOf x id with
    | none => rfl
    | some bx => cases bx <;> rfl
theorem fix0sK_eq (x : Bxs) (h : List (Nat × Nat)) (z : List Nat) (ls : List L) (K : List L → Prop) : fix0sK x h z ls K = K (ls.map (fix0 x h z)) := by
  induction ls generalizing K with
  | nil => rfl
  | cons l r ih =>
    show fix0K x h z l (fun l' => fix0sK x h z r fun r' => K (l' :: r')) = _
    rw [fix0K_eq, ih]; rfl
theorem fixK_eq (x : Bxs) (h : List (Nat × Nat)) (z : List Nat) (top : Bool) (l : L) (K : L → Prop) : fixK x h z top l K = K (fixL x h z top l) := by
  cases l <;> try rfl
  case gw id n sz =>
    simp only [fixK, fixL]
    cases boxOf x id with
    | none => rfl
    | some bx => cases bx with
      | ar cs => cases assocN h id with
        | some t => rfl
        | none => show _ = K (bif z.elem id then _ else _); rw [cond_app K]
      | _ => rfl
  case gs id off n sz =>
    simp only [fixK, fixL]
    cases boxOf x id with
    | none => rfl
    | some bx => cases bx with
      | ar cs => cases assocN h id with
        | some t => rfl
        | none => show _ = K (bif z.elem id then _ else _); rw [cond_app K]
      | _ => rfl
  case p id off =>
    simp only [fixK, fixL]
    cases boxOf x id with
    | none => rfl
    | some bx => cases bx with
      | ar cs => cases assocN h id with
        | some t => rfl
        | none => show _ = K (bif z.elem id then _ else _); rw [cond_app K]
      | _ => rfl
  case mp id =>
    simp only [fixK, fixL]
    cases boxOf x id with
    | none => rfl
    | some bx => cases bx <;> rfl
  case fc g n sh ls => exact fix0sK_eq x h z ls fun ls' => K (.fc g n sh ls')
theorem fixLsK_eq (x : Bxs) (h : List (Nat × Nat)) (z : List Nat) (ls : List L) (K : List L → Prop) : fixLsK x h z ls K = K (ls.map (fixL x h z false)) := by
  induction ls generalizing K with
  | nil => rfl
  | cons l r ih =>
    show fixK x h z false l (fun l' => fixLsK x h z r fun r' => K (l' :: r')) = _
    rw [fixK_eq, ih]; rfl
def fixV (x : Bxs) (h : List (Nat × Nat)) (z : List Nat) : V → V
  | .c (.o l) => .c (.o (fixL x h z true l))
  | .c (.a ls) => .c (.a (ls.map (fixL x h z false)))
  | .t _ => .c (.o .u)
theorem fixVK_eq (x : Bxs) (h : List (Nat × Nat)) (z : List Nat) (v : V) (K : V → Prop) : fixVK x h z v K = K (fixV x h z v) := by
  match v with
  | .c (.o l) => exact fixK_eq x h z true l fun l' => K (.c (.o l'))
  | .c (.a ls) => exact fixLsK_eq x h z ls fun l' => K (.c (.a l'))
  | .t _ => rfl
theorem fixEK_eq (x : Bxs) (h : List (Nat × Nat)) (z : List Nat) (e : Env) (K : Env → Prop) : fixEK x h z e K = K (e.map fun q => (q.1, fixV x h z q.2)) := by
  induction e generalizing K with
  | nil => rfl
  | cons q r ih =>
    show fixVK x h z q.2 (fun v' => fixEK x h z r fun r' => K ((q.1, v') :: r')) = _
    rw [fixVK_eq, ih]; rfl
theorem lookE_fix (x : Bxs) (h : List (Nat × Nat)) (z : List Nat) (e : Env) (t : Nat) : lookE (e.map fun q => (q.1, fixV x h z q.2)) t = fixV x h z (lookE e t) := by
  induction e with
  | nil => rfl
  | cons q r ih =>
    obtain ⟨k, v⟩ := q
    simp only [List.map_cons, lookE_cons, ih]
    split <;> rfl
theorem insK_elim (p : Nat × Bx) (x : Bxs) : ∀ (K : Bxs → Prop), insK p x K → ∃ y, K y ∧ y.Perm (p :: x) := by
  induction x with
  | nil => exact fun K h => ⟨_, h, .refl _⟩
  | cons q r ih =>
    intro K h
    change (bif Nat.ble p.1 q.1 then K (p :: q :: r) else insK p r fun r' => K (q :: r')) at h
    cases hc : Nat.ble p.1 q.1 with
    | true => rw [hc] at h; exact ⟨_, h, .refl _⟩
    | false =>
      rw [hc] at h
      obtain ⟨y, hy, hp⟩ := ih _ h
      exact ⟨_, hy, (hp.cons q).trans (List.Perm.swap p q r)⟩
def tgt (h : List (Nat × Nat)) (z keep : List Nat) (q : Nat × Bx) : Option Nat :=
  match q.2 with
  | .st _ => bif isPar q.1 || keep.elem q.1 then some q.1 else none
  | .mp _ => bif isPar q.1 || keep.elem q.1 then some q.1 else none
  | .ar _ => match assocN h q.1 with
    | some t => some t
    | none => bif z.elem q.1 then none else bif isPar q.1 || keep.elem q.1 then some q.1 else none
  | .fz _ => none
def tgtB (x : Bxs) (h : List (Nat × Nat)) (z : List Nat) : Bx → Bx
  | .st cs => .st (cs.map (fixL x h z false))
  | b => b
theorem fixXK_elim (x : Bxs) (h : List (Nat × Nat)) (z keep : List Nat) (y : Bxs) : ∀ (K : Bxs → Prop), fixXK x h z keep y K →
    ∃ x', K x' ∧ x'.Perm (y.filterMap fun q => (tgt h z keep q).map fun t => (t, tgtB x h z q.2)) := by
  induction y with
  | nil => exact fun K hk => ⟨_, hk, .refl _⟩
  | cons q r ih =>
    intro K hk
    obtain ⟨id, bx⟩ := q
    have ins : ∀ (i : Nat) (b : Bx), tgt h z keep (id, bx) = some i → tgtB x h z bx = b → fixXK x h z keep r (fun r' => insK (i, b) r' K) → ∃ x', K x' ∧ x'.Perm (((id, bx) :: r).filterMap fun q => (tgt h z keep q).map fun t => (t, tgtB x h z q.2)) := by
      intro i b hi hb hk
      obtain ⟨r', hk, hp⟩ := ih _ hk
      obtain ⟨y, hk, hp'⟩ := insK_elim _ _ _ hk
      refine ⟨y, hk, hp'.trans ?_⟩
      rw [List.filterMap_cons_some (b := (i, b)) (by simp [hi, hb])]
      exact hp.cons _
    have skip : tgt h z keep (id, bx) = none → fixXK x h z keep r K → ∃ x', K x' ∧ x'.Perm (((id, bx) :: r).filterMap fun q => (tgt h z keep q).map fun t => (t, tgtB x h z q.2)) := by
      intro hi hk
      obtain ⟨r', hk, hp⟩ := ih _ hk
      refine ⟨r', hk, ?_⟩
      rw [List.filterMap_cons_none (by simp [hi])]
      exact hp
    cases bx with
    | st cs =>
      change (bif isPar id || keep.elem id then fixLsK x h z cs fun cs' => bif cs'.any isU then False else fixXK x h z keep r fun r' => insK (id, .st cs') r' K else fixXK x h z keep r K) at hk
      cases hc : isPar id || keep.elem id with
      | true =>
        rw [hc] at hk
        rw [_root_.cond_true, fixLsK_eq] at hk
        exact ins id _ (by simp only [tgt, hc, _root_.cond_true, _root_.cond_false]) rfl (cond_false hk).2
      | false =>
        rw [hc] at hk
        exact skip (by simp only [tgt, hc, _root_.cond_true, _root_.cond_false]) hk
    | ar cs =>
      change (match assocN h id with
        | some t => fixXK x h z keep r fun r' => insK (t, .ar cs) r' K
        | none => bif z.elem id then fixXK x h z keep r K else bif isPar id || keep.elem id then fixXK x h z keep r fun r' => insK (id, .ar cs) r' K else fixXK x h z keep r K) at hk
      cases ha : assocN h id with
      | some t =>
        rw [ha] at hk
        exact ins t _ (by simp only [tgt, ha, _root_.cond_true, _root_.cond_false]) rfl hk
      | none =>
        rw [ha] at hk
        cases hz : z.elem id with
        | true => simp only [hz] at hk; exact skip (by simp only [tgt, ha, hz, _root_.cond_true, _root_.cond_false]) hk
        | false =>
          simp only [hz] at hk
          cases hc : isPar id || keep.elem id with
          | true =>
            simp only [hc] at hk
            exact ins id _ (by simp only [tgt, ha, hz, hc, _root_.cond_true, _root_.cond_false]) rfl hk
          | false =>
            simp only [hc] at hk
            exact skip (by simp only [tgt, ha, hz, hc, _root_.cond_true, _root_.cond_false]) hk
    | fz cs => exact skip rfl hk
    | mp es =>
      change (bif isPar id || keep.elem id then fixXK x h z keep r fun r' => insK (id, .mp es) r' K else fixXK x h z keep r K) at hk
      cases hc : isPar id || keep.elem id with
      | true =>
        rw [hc] at hk
        rw [_root_.cond_true] at hk
        exact ins id _ (by simp only [tgt, hc, _root_.cond_true, _root_.cond_false]) rfl hk
      | false =>
        rw [hc] at hk
        exact skip (by simp only [tgt, hc, _root_.cond_true, _root_.cond_false]) hk
theorem fm_inj {α β : Type} {f : α → Option β} {l : List α} (h : (l.filterMap f).Nodup) {a b : α} {t : β} (ha : a ∈ l) (hb : b ∈ l) (h1 : f a = some t) (h2 : f b = some t) : a = b := by
  induction l with
  | nil => cases ha
  | cons c r ih =>
    have key : ∀ x, f c = some t → x ∈ r → f x = some t → False := by
      intro x hc hx hfx
      rw [List.filterMap_cons_some hc, List.nodup_cons] at h
      exact h.1 (List.mem_filterMap.2 ⟨x, hx, hfx⟩)
    have hr : (r.filterMap f).Nodup := by
      cases hc : f c with
      | none => rwa [List.filterMap_cons_none hc] at h
      | some y => rw [List.filterMap_cons_some hc, List.nodup_cons] at h; exact h.2
    cases ha with
    | head => cases hb with
      | head => rfl
      | tail _ hb => exact (key b h1 hb h2).elim
    | tail _ ha => cases hb with
      | head => exact (key a h2 ha h1).elim
      | tail _ hb => exact ih hr ha hb
def HeldOk (id t : Nat) : Prop := isPar id = false ∧ isPar t = false ∧ (isOwn t = true → id = t)
theorem own_npC {k : Nat} (h : isOwn k = true) : isPar k = false := by
  simp only [isOwn, Bool.and_eq_true] at h
  have h1 := Nat.le_of_ble_eq_true h.1
  cases hk : isPar k with
  | false => rfl
  | true =>
    simp only [isPar, Bool.and_eq_true] at hk
    have h3 : k + 1 ≤ 1100 := Nat.le_of_ble_eq_true hk.2
    omega
theorem isRes_no {k : Nat} (h : isRes k = false) : isPar k = false ∧ isOwn k = false := by
  simpa [isRes] using h
theorem heldL_np {k : Nat} : ∀ {ls : List L} {j : Nat} {id t : Nat}, (id, t) ∈ heldL k j ls → HeldOk id t
  | [], j, id, t, h => by cases h
  | l :: r, j, id, t, h => by
    cases l <;> try exact heldL_np (ls := r) h
    case gw hid n sz =>
      change (id, t) ∈ (bif isOwn hid then (hid, hid) :: heldL k (j + 1) r else bif !isPar hid && !isRes (heldN k j) then (hid, heldN k j) :: heldL k (j + 1) r else heldL k (j + 1) r) at h
      cases ho : isOwn hid with
      | true =>
        rw [ho] at h
        rcases List.mem_cons.1 h with h | h
        · cases h; exact ⟨own_npC ho, own_npC ho, fun _ => rfl⟩
        · exact heldL_np h
      | false =>
        rw [ho] at h
        change (id, t) ∈ (bif !isPar hid && !isRes (heldN k j) then (hid, heldN k j) :: heldL k (j + 1) r else heldL k (j + 1) r) at h
        cases hc : !isPar hid && !isRes (heldN k j) with
        | true =>
          rw [hc] at h
          rcases List.mem_cons.1 h with h | h
          · cases h
            simp only [Bool.and_eq_true, Bool.not_eq_true'] at hc
            obtain ⟨h1, h2⟩ := isRes_no hc.2
            exact ⟨hc.1, h1, fun h => by rw [h2] at h; cases h⟩
          · exact heldL_np h
        | false => rw [hc] at h; exact heldL_np h
theorem held_np {mv : List Nat} {e : Env} {id t : Nat} (h : (id, t) ∈ heldBy mv e) : HeldOk id t := by
  induction e with
  | nil => cases h
  | cons q r ih =>
    obtain ⟨k, v⟩ := q
    cases v with
    | t xs => exact ih h
    | c x => cases x with
      | a ls =>
        change (id, t) ∈ (bif mv.elem (k + 100000) then heldL k 0 ls ++ heldBy mv r else heldBy mv r) at h
        cases hc : mv.elem (k + 100000) with
        | true =>
          rw [hc] at h
          rcases List.mem_append.1 h with h | h
          · exact heldL_np h
          · exact ih h
        | false => rw [hc] at h; exact ih h
      | o l =>
        cases l <;> try exact ih h
        case gw hid n sz =>
          change (id, t) ∈ (bif mv.elem k && (!isRes hid && !isRes k) then (hid, k) :: heldBy mv r else heldBy mv r) at h
          cases hc : mv.elem k && (!isRes hid && !isRes k) with
          | true =>
            rw [hc] at h
            rcases List.mem_cons.1 h with h | h
            · cases h
              simp only [Bool.and_eq_true, Bool.not_eq_true'] at hc
              obtain ⟨h1, _⟩ := isRes_no hc.2.1
              obtain ⟨h2, h3⟩ := isRes_no hc.2.2
              exact ⟨h1, h2, fun h => by rw [h3] at h; cases h⟩
            · exact ih h
          | false => rw [hc] at h; exact ih h
theorem heldX_np {mv ids : List Nat} : ∀ {x : Bxs} {id t : Nat}, (id, t) ∈ heldX mv ids x → HeldOk id t
  | [], id, t, h => by cases h
  | (k, bx) :: r, id, t, h => by
    cases bx with
    | ar cs => exact heldX_np (x := r) h
    | fz cs => exact heldX_np (x := r) h
    | mp cs => exact heldX_np (x := r) h
    | st cs =>
      change (id, t) ∈ (bif mv.elem (k + 100000) && (isPar k || ids.elem k) then heldL k 0 cs ++ heldX mv ids r else heldX mv ids r) at h
      cases hc : mv.elem (k + 100000) && (isPar k || ids.elem k) with
      | true =>
        rw [hc] at h
        rcases List.mem_append.1 h with h | h
        · exact heldL_np h
        · exact heldX_np h
      | false => rw [hc] at h; exact heldX_np h
theorem idsL_mem {ls : List L} {l : L} (h : l ∈ ls) : ∀ id ∈ idsL l, id ∈ idsLs ls := idsL_memX h
theorem idsE_look (e : Env) (t : Nat) : ∀ id ∈ idsV (lookE e t), id ∈ idsE e := by
  induction e with
  | nil => intro id h; simp [lookE, idsV, idsC, idsL] at h
  | cons q r ih =>
    obtain ⟨k, v⟩ := q
    intro id h
    rw [lookE_cons] at h
    split at h
    · exact List.mem_append_left _ h
    · exact List.mem_append_right _ (ih id h)
theorem idsX_mem {x : Bxs} {k : Nat} {cs : List L} (h : (k, .st cs) ∈ x) : ∀ id ∈ idsLs cs, id ∈ idsX x := by
  induction x with
  | nil => cases h
  | cons q r ih =>
    intro id hid
    cases h with
    | head => exact List.mem_append_left _ hid
    | tail _ h =>
      obtain ⟨k', bx⟩ := q
      cases bx with
      | st cs' => exact List.mem_append_right _ (ih h id hid)
      | ar _ => exact ih h id hid
      | fz _ => exact ih h id hid
      | mp _ => exact ih h id hid
section
variable {P : Program} [Gl P] {B : Nat → Prop} {w : World} {μ : Mu} {X : Cx P} {m : Nat → Option Bx}
theorem view {B' : Nat → Prop} (hsub : ∀ b, B' b → B b) (hsb : SB X m μ B w) {id : Nat} {bx : Bx} {cs : List L} (hm : m id = some bx) (hbx : bx = .ar cs ∨ bx = .fz cs)
    (hnb : ∀ b o n, μ id = some (some (b, o, n)) → ¬ B' b) {μ' : Mu} :
    (∀ n sz v, RelL B w μ (.gw id n sz) v → RelL B' w μ' (.sl cs n) v) ∧ (∀ off n sz v, RelL B w μ (.gs id off n sz) v → RelL B' w μ' (.sl ((cs.drop off).take (n * sz)) n) v) ∧
      (∀ off v, RelL B w μ (.p id off) v → RelL B' w μ' (.pf (cs.drop off)) v) := by
  have hk : BkOk [id] μ B B' := ⟨hsub, fun i hi b o n h => by simp at hi; subst hi; exact hnb b o n h⟩
  have hnil : μ id = some none → cs = [] := by
    intro h1
    rcases hbx with rfl | rfl <;> rcases hsb.box id _ hm with ⟨_, k2⟩ | ⟨b, o, k1, _⟩ <;> first | exact k2 | (rw [h1] at k1; cases k1)
  refine ⟨fun n sz v h => ?_, fun off n sz v h => ?_, fun off v h => ?_⟩
  · cases h with
    | gw0 h1 => rw [hnil h1]; exact .sl0
    | gw h1 hn hc =>
      obtain ⟨⟨vs, k1, k2⟩, k3, _⟩ := shown hk hsb hm hbx (by simp) h1
      exact .sl (fun _ => k3) k1.1 k2 k1.2 hn
  · cases h with
    | gs0 h1 => simpa using RelL.sl0
    | gs h1 hf hn hc =>
      obtain ⟨⟨vs, k1, k2⟩, k3, _⟩ := shown hk hsb hm hbx (by simp) h1
      have := (k1.drop off).take (n * sz)
      exact .sl (fun _ => k3) this.1 ((k2.drop _).take _) this.2 hn
  · cases h with
    | p h1 =>
      obtain ⟨⟨vs, k1, k2⟩, k3, _⟩ := shown hk hsb hm hbx (by simp) h1
      have := k1.drop off
      exact .pf (fun _ => k3) this.1 (k2.drop _) this.2
structure MuC (x : Bxs) (h : List (Nat × Nat)) (z keep : List Nat) (μ μ' : Mu) : Prop where
  c1 : ∀ id cs, boxOf x id = some (.st cs) → (isPar id || keep.elem id) = true → μ' id = μ id
  c2 : ∀ id cs t, boxOf x id = some (.ar cs) → assocN h id = some t → μ' t = μ id
  c4 : ∀ id cs, boxOf x id = some (.mp cs) → (isPar id || keep.elem id) = true → μ' id = μ id
  c3 : ∀ id cs, boxOf x id = some (.ar cs) → assocN h id = none → z.elem id = false → (isPar id || keep.elem id) = true → μ' id = μ id
def Frz (x : Bxs) (h : List (Nat × Nat)) (z : List Nat) (id : Nat) : Prop := ∃ cs, boxOf x id = some (.ar cs) ∧ assocN h id = none ∧ z.elem id = true
def Bless (x : Bxs) (h : List (Nat × Nat)) (z : List Nat) (μ : Mu) (B : Nat → Prop) (b : Nat) : Prop := B b ∧ ∀ id o n, Frz x h z id → μ id ≠ some (some (b, o, n))
theorem fix0_rel {x : Bxs} {h : List (Nat × Nat)} {z keep : List Nat} {μ' : Mu} (hc : MuC x h z keep μ μ') (hsb : SB X (boxOf x) μ B w) {l : L} {v : Value} (hl : RelL B w μ l v) (hf : isFc l = false) (hk : ∀ id ∈ idsL0 l, keep.elem id = true) :
    RelL (Bless x h z μ B) w μ' (fix0 x h z l) v ∧ isFc (fix0 x h z l) = false := by
  have hsub : ∀ b, Bless x h z μ B b → B b := fun b h => h.1
  have g : Grow B w (Bless x h z μ B) w := ⟨Nat.le_refl _, fun _ _ _ => rfl, fun _ h => h, fun b _ hb => hb.1⟩
  have frz : ∀ id cs, boxOf x id = some (.fz cs) → ∀ b o n, μ id = some (some (b, o, n)) → ¬ Bless x h z μ B b := by
    intro id cs hm b o n hmu hb
    rcases hsb.box id _ hm with ⟨k1, _⟩ | ⟨b', o', k1, _, k3, _⟩
    · rw [hmu] at k1; cases k1
    · rw [hmu] at k1; cases k1; exact k3 hb.1
  have far : ∀ id cs, boxOf x id = some (.ar cs) → assocN h id = none → z.elem id = true → ∀ b o n, μ id = some (some (b, o, n)) → ¬ Bless x h z μ B b :=
    fun id cs h1 h2 h3 b o n hmu hb => hb.2 id o n ⟨cs, h1, h2, h3⟩ hmu
  cases l with
  | i => cases hl; exact ⟨.i, rfl⟩
  | b => cases hl; exact ⟨.b, rfl⟩
  | tt => cases hl; exact ⟨.tt, rfl⟩
  | ff => cases hl; exact ⟨.ff, rfl⟩
  | s => cases hl; exact ⟨.s, rfl⟩
  | np => cases hl; exact ⟨.np, rfl⟩
  | f => cases hl; exact ⟨.f, rfl⟩
  | u => exact ⟨.u, rfl⟩
  | nl => cases hl; exact ⟨.nl, rfl⟩
  | nz x => cases hl; exact ⟨.nm, rfl⟩; exact ⟨.nf, rfl⟩
  | fc => cases hf
  | sl cs n =>
    have : RelL B w noMu (.sl cs n) v := by
      cases hl with
      | sl0 => exact .sl0
      | sl h1 h2 h3 h4 h5 => exact .sl h1 h2 h3 h4 h5
    exact ⟨this.grow g (noMu_le _), rfl⟩
  | pf cs =>
    have : RelL B w noMu (.pf cs) v := by
      cases hl with
      | pf h1 h2 h3 h4 => exact .pf h1 h2 h3 h4
    exact ⟨this.grow g (noMu_le _), rfl⟩
  | gs id off n sz => exact ⟨.u, rfl⟩
  | gw id n sz =>
    have hk := hk id (by simp [idsL0])
    unfold fix0
    dsimp only
    cases hb : boxOf x id with
    | none => exact ⟨.u, rfl⟩
    | some bx => cases bx with
      | st cs =>
        have := hc.c1 id cs hb (by rw [hk, Bool.or_true])
        cases hl with
        | gw0 h1 => exact ⟨.gw0 (by rw [this]; exact h1), rfl⟩
        | gw h1 h2 h3 => exact ⟨.gw (by rw [this]; exact h1) h2 h3, rfl⟩
      | fz cs => exact ⟨(view hsub hsb hb (.inr rfl) (frz id cs hb)).1 n sz v hl, rfl⟩
      | mp cs => exact ⟨.u, rfl⟩
      | ar cs =>
        dsimp only
        cases ha : assocN h id with
        | some t =>
          have := hc.c2 id cs t hb ha
          cases hl with
          | gw0 h1 => exact ⟨.gw0 (by rw [this]; exact h1), rfl⟩
          | gw h1 h2 h3 => exact ⟨.gw (by rw [this]; exact h1) h2 h3, rfl⟩
        | none =>
          dsimp only
          cases hz : z.elem id with
          | false => exact ⟨.u, rfl⟩
          | true => exact ⟨(view hsub hsb hb (.inl rfl) (far id cs hb ha hz)).1 n sz v hl, rfl⟩
  | p id off =>
    have hk := hk id (by simp [idsL0])
    unfold fix0
    dsimp only
    cases hb : boxOf x id with
    | none => exact ⟨.u, rfl⟩
    | some bx => cases bx with
      | st cs =>
        have := hc.c1 id cs hb (by rw [hk, Bool.or_true])
        cases hl with
        | p h1 => exact ⟨.p (by rw [this]; exact h1), rfl⟩
      | _ => exact ⟨.u, rfl⟩
  | mp id =>
    have hk := hk id (by simp [idsL0])
    unfold fix0
    dsimp only
    cases hb : boxOf x id with
    | none => exact ⟨.u, rfl⟩
    | some bx => cases bx with
      | mp cs =>
        have := hc.c4 id cs hb (by rw [hk, Bool.or_true])
        cases hl with
        | mp h1 => exact ⟨.mp (by rw [this]; exact h1), rfl⟩
      | _ => exact ⟨.u, rfl⟩
theorem fix_rel {x : Bxs} {h : List (Nat × Nat)} {z keep : List Nat} {μ' : Mu} (hc : MuC x h z keep μ μ') (hsb : SB X (boxOf x) μ B w) {top : Bool} {l : L} {v : Value} (hl : RelL B w μ l v) (hk : ∀ id ∈ idsL l, keep.elem id = true) :
    RelL (Bless x h z μ B) w μ' (fixL x h z top l) v := by
  have hsub : ∀ b, Bless x h z μ B b → B b := fun b h => h.1
  have g : Grow B w (Bless x h z μ B) w := ⟨Nat.le_refl _, fun _ _ _ => rfl, fun _ h => h, fun b _ hb => hb.1⟩
  have frz : ∀ id cs, boxOf x id = some (.fz cs) → ∀ b o n, μ id = some (some (b, o, n)) → ¬ Bless x h z μ B b := by
    intro id cs hm b o n hmu hb
    rcases hsb.box id _ hm with ⟨k1, _⟩ | ⟨b', o', k1, _, k3, _⟩
    · rw [hmu] at k1; cases k1
    · rw [hmu] at k1; cases k1; exact k3 hb.1
  have far : ∀ id cs, boxOf x id = some (.ar cs) → assocN h id = none → z.elem id = true → ∀ b o n, μ id = some (some (b, o, n)) → ¬ Bless x h z μ B b :=
    fun id cs h1 h2 h3 b o n hmu hb => hb.2 id o n ⟨cs, h1, h2, h3⟩ hmu
  cases l with
  | i => cases hl; exact .i
  | b => cases hl; exact .b
  | tt => cases hl; exact .tt
  | ff => cases hl; exact .ff
  | s => cases hl; exact .s
  | np => cases hl; exact .np
  | f => cases hl; exact .f
  | u => exact .u
  | nl => cases hl; exact .nl
  | nz x => cases hl; exact .nm; exact .nf
  | fc f n sh ls =>
    cases hl with
    | fc h1 h2 h3 h4 h5 =>
      rename_i vs us
      have key : ∀ (j : Nat) l0 u, ls[j]? = some l0 → vs[j]? = some u → RelL (Bless x h z μ B) w μ' (fix0 x h z l0) u ∧ isFc (fix0 x h z l0) = false := fun j l0 u g1 g2 =>
        fix0_rel hc hsb (h2 j l0 u g1 g2) (h5 l0 (List.mem_of_getElem? g1)) fun id hid => hk id (idsL0s_mem (List.mem_of_getElem? g1) id hid)
      refine .fc (by simpa using h1) (fun j l u g1 g2 => ?_) h3 h4 (fun l hl => ?_)
      · simp only [List.getElem?_map, Option.map_eq_some_iff] at g1
        obtain ⟨l0, g1, rfl⟩ := g1
        exact (key j l0 u g1 g2).1
      · obtain ⟨l0, g1, rfl⟩ := List.mem_map.1 hl
        obtain ⟨j, g1⟩ := List.getElem?_of_mem g1
        have hj : j < vs.length := by rw [← h1]; exact (List.getElem?_eq_some_iff.1 g1).1
        exact (key j l0 _ g1 (List.getElem?_eq_getElem hj)).2
  | mp id =>
    have hk := hk id (by simp [idsL])
    unfold fixL
    dsimp only
    cases hb : boxOf x id with
    | none => exact .u
    | some bx => cases bx with
      | mp cs =>
        have := hc.c4 id cs hb (by rw [hk, Bool.or_true])
        cases hl with
        | mp h1 => exact .mp (by rw [this]; exact h1)
      | _ => exact .u
  | sl cs n =>
    have : RelL B w noMu (.sl cs n) v := by
      cases hl with
      | sl0 => exact .sl0
      | sl h1 h2 h3 h4 h5 => exact .sl h1 h2 h3 h4 h5
    exact this.grow g (noMu_le _)
  | pf cs =>
    have : RelL B w noMu (.pf cs) v := by
      cases hl with
      | pf h1 h2 h3 h4 => exact .pf h1 h2 h3 h4
    exact this.grow g (noMu_le _)
  | gw id n sz =>
    have hk := hk id (by simp [idsL])
    unfold fixL
    dsimp only
    cases hb : boxOf x id with
    | none => exact .u
    | some bx => cases bx with
      | st cs =>
        have := hc.c1 id cs hb (by rw [hk, Bool.or_true])
        cases hl with
        | gw0 h1 => exact .gw0 (by rw [this]; exact h1)
        | gw h1 h2 h3 => exact .gw (by rw [this]; exact h1) h2 h3
      | mp cs => exact .u
      | fz cs => exact (view hsub hsb hb (.inr rfl) (frz id cs hb)).1 n sz v hl
      | ar cs =>
        dsimp only
        cases ha : assocN h id with
        | some t =>
          have := hc.c2 id cs t hb ha
          cases hl with
          | gw0 h1 => exact .gw0 (by rw [this]; exact h1)
          | gw h1 h2 h3 => exact .gw (by rw [this]; exact h1) h2 h3
        | none =>
          dsimp only
          cases hz : z.elem id with
          | false => exact .u
          | true => exact (view hsub hsb hb (.inl rfl) (far id cs hb ha hz)).1 n sz v hl
  | gs id off n sz =>
    unfold fixL
    dsimp only
    cases hb : boxOf x id with
    | none => exact .u
    | some bx => cases bx with
      | st cs => exact .u
      | mp cs => exact .u
      | fz cs => exact (view hsub hsb hb (.inr rfl) (frz id cs hb)).2.1 off n sz v hl
      | ar cs =>
        dsimp only
        cases ha : assocN h id with
        | some t => exact .u
        | none =>
          dsimp only
          cases hz : z.elem id with
          | false => exact .u
          | true => exact (view hsub hsb hb (.inl rfl) (far id cs hb ha hz)).2.1 off n sz v hl
  | p id off =>
    have hk := hk id (by simp [idsL])
    unfold fixL
    dsimp only
    cases hb : boxOf x id with
    | none => exact .u
    | some bx => cases bx with
      | st cs =>
        have := hc.c1 id cs hb (by rw [hk, Bool.or_true])
        cases hl with
        | p h1 => exact .p (by rw [this]; exact h1)
      | mp cs => exact .u
      | fz cs => exact (view hsub hsb hb (.inr rfl) (frz id cs hb)).2.2 off v hl
      | ar cs =>
        dsimp only
        cases ha : assocN h id with
        | some t => exact .u
        | none =>
          dsimp only
          cases hz : z.elem id with
          | false =>
            have := hc.c3 id cs hb ha hz (by rw [hk, Bool.or_true])
            cases hl with
            | p h1 => exact .p (by rw [this]; exact h1)
          | true => exact (view hsub hsb hb (.inl rfl) (far id cs hb ha hz)).2.2 off v hl
theorem fix_rels {x : Bxs} {h : List (Nat × Nat)} {z keep : List Nat} {μ' : Mu} (hc : MuC x h z keep μ μ') (hsb : SB X (boxOf x) μ B w) {top : Bool} {ls : List L} {vs : List Value} (hl : Rels B w μ ls vs)
    (hk : ∀ id ∈ idsLs ls, keep.elem id = true) : Rels (Bless x h z μ B) w μ' (ls.map (fixL x h z top)) vs := by
  refine ⟨by simpa using hl.1, fun j l v h1 h2 => ?_⟩
  rw [List.getElem?_map] at h1
  cases hj : ls[j]? with
  | none => rw [hj] at h1; cases h1
  | some l0 =>
    rw [hj] at h1
    simp only [Option.map_some, Option.some.injEq] at h1
    subst h1
    exact fix_rel hc hsb (hl.2 j l0 v hj h2) fun id hid => hk id (idsL_mem (List.mem_of_getElem? hj) id hid)
theorem fix_relV {x : Bxs} {h : List (Nat × Nat)} {z keep : List Nat} {μ' : Mu} (hc : MuC x h z keep μ μ') (hsb : SB X (boxOf x) μ B w) {u : V} {v : Value} (hl : RelV B w μ u v)
    (hk : ∀ id ∈ idsV u, keep.elem id = true) : RelV (Bless x h z μ B) w μ' (fixV x h z u) v := by
  match u, hl with
  | .c (.o l), hl => exact fix_rel hc hsb hl hk
  | .c (.a ls), ⟨vs, hv, hl⟩ => exact ⟨vs, hv, fix_rels hc hsb hl hk⟩
  | .t _, _ => exact RelL.u
def muC (x : Bxs) (h : List (Nat × Nat)) (z keep : List Nat) (μ : Mu) : Mu := fun i =>
  if isPar i = true then μ i else match x.find? fun q => tgt h z keep q == some i with
    | some q => μ q.1
    | none => none
theorem tgt_par {x : Bxs} {h : List (Nat × Nat)} (hh : ∀ id t, assocN h id = some t → HeldOk id t) {z keep : List Nat} {q : Nat × Bx} {i : Nat} (ht : tgt h z keep q = some i) : isPar i = isPar q.1 := by
  obtain ⟨id, bx⟩ := q
  cases bx with
  | st cs =>
    simp only [tgt] at ht
    cases hc : isPar id || keep.elem id <;> rw [hc] at ht <;> cases ht
    rfl
  | ar cs =>
    simp only [tgt] at ht
    cases ha : assocN h id with
    | some t => rw [ha] at ht; cases ht; obtain ⟨h1, h2, _⟩ := hh _ _ ha; rw [h2]; exact h1.symm
    | none =>
      rw [ha] at ht
      dsimp only at ht
      cases hz : z.elem id <;> rw [hz] at ht
      · cases hc : isPar id || keep.elem id <;> rw [hc] at ht <;> cases ht
        rfl
      · cases ht
  | fz cs => cases ht
  | mp cs =>
    simp only [tgt] at ht
    cases hc : isPar id || keep.elem id <;> rw [hc] at ht <;> cases ht
    rfl
theorem tgt_mp {h : List (Nat × Nat)} {z keep : List Nat} {id i : Nat} {cs : List (L × C)} (ht : tgt h z keep (id, .mp cs) = some i) : i = id := by
  simp only [tgt] at ht
  cases hc : isPar id || keep.elem id <;> rw [hc] at ht <;> cases ht
  rfl
theorem tgt_st {h : List (Nat × Nat)} {z keep : List Nat} {id i : Nat} {cs : List L} (ht : tgt h z keep (id, .st cs) = some i) : i = id := by
  simp only [tgt] at ht
  cases hc : isPar id || keep.elem id <;> rw [hc] at ht <;> cases ht
  rfl
theorem tgt_pareq {h : List (Nat × Nat)} (hh : ∀ id t, assocN h id = some t → HeldOk id t) {z keep : List Nat} {q : Nat × Bx} {i : Nat} (ht : tgt h z keep q = some i) (hp : isPar i = true) : i = q.1 := by
  obtain ⟨id, bx⟩ := q
  cases bx with
  | st cs => exact tgt_st ht
  | mp cs => exact tgt_mp ht
  | ar cs =>
    simp only [tgt] at ht
    cases ha : assocN h id with
    | some t => rw [ha] at ht; cases ht; rw [(hh _ _ ha).2.1] at hp; cases hp
    | none =>
      rw [ha] at ht
      dsimp only at ht
      cases hz : z.elem id <;> rw [hz] at ht
      · cases hc : isPar id || keep.elem id <;> rw [hc] at ht <;> cases ht
        rfl
      · cases ht
  | fz cs => cases ht
theorem tgt_owneq {h : List (Nat × Nat)} (hh : ∀ id t, assocN h id = some t → HeldOk id t) {z keep : List Nat} {q : Nat × Bx} {i : Nat} (ht : tgt h z keep q = some i) (hp : isOwn i = true) : q.1 = i := by
  obtain ⟨id, bx⟩ := q
  cases bx with
  | st cs => exact (tgt_st ht).symm
  | mp cs => exact (tgt_mp ht).symm
  | ar cs =>
    simp only [tgt] at ht
    cases ha : assocN h id with
    | some t => rw [ha] at ht; cases ht; exact (hh _ _ ha).2.2 hp
    | none =>
      rw [ha] at ht
      dsimp only at ht
      cases hz : z.elem id <;> rw [hz] at ht
      · cases hc : isPar id || keep.elem id <;> rw [hc] at ht <;> cases ht
        rfl
      · cases ht
  | fz cs => cases ht
theorem tgt_notFrz {x : Bxs} {h : List (Nat × Nat)} {z keep : List Nat} {q : Nat × Bx} {i : Nat} (hb : boxOf x q.1 = some q.2) (ht : tgt h z keep q = some i) : ¬ Frz x h z q.1 := by
  rintro ⟨cs, h1, h2, h3⟩
  obtain ⟨id, bx⟩ := q
  rw [hb] at h1
  cases h1
  simp only [tgt, h2, h3, _root_.cond_true] at ht
  cases ht
def Dom (x : Bxs) (μ : Mu) : Prop := ∀ id, μ id ≠ none → isPar id = true ∨ ∃ bx, boxOf x id = some bx
theorem canon_sound {N : Nat} {lv mv : List Nat} {st : St} {K : St → Prop} {a : Act} {w0 : World} {μ0 : Mu} (hs : SR X N st a w μ B) (hh : Hist X w0 μ0 μ w) (hk : canonK lv mv st K) :
    ∃ st' μ' B', K st' ∧ SR X N st' a w μ' B' ∧ Hist X w0 μ0 μ' w ∧ Dom st'.x μ' := by
  have hk : liveK st.e lv fun e => bif !nodupB (st.x.map (·.1)) then False else fixEK st.x (heldBy mv e ++ heldX mv (idsE e) st.x) (zOf st e) e fun e' =>
    fixXK st.x (heldBy mv e ++ heldX mv (idsE e) st.x) (zOf st e) (idsE e ++ idsX st.x) st.x fun x' => bif !nodupB (x'.map (·.1)) then False else K ⟨e', x'⟩ := hk
  rw [liveK_eq] at hk
  obtain ⟨hnd, hk⟩ := cond_false hk
  have hnd : (st.x.map (·.1)).Nodup := (nodupB_iff _).1 (by simpa using hnd)
  rw [fixEK_eq] at hk
  obtain ⟨x', hk, hperm⟩ := fixXK_elim _ _ _ _ _ _ hk
  obtain ⟨hnd', hk⟩ := cond_false hk
  have hnd' : (x'.map (·.1)).Nodup := (nodupB_iff _).1 (by simpa using hnd')
  generalize he : (lv.map fun t => (t, lookE st.e t)) = e at hk hperm
  generalize hhd : heldBy mv e ++ heldX mv (idsE e) st.x = h at hk hperm
  generalize hzz : zOf st e = z at hk hperm
  generalize hkk : idsE e ++ idsX st.x = keep at hk hperm
  have hhn : ∀ id t, assocN h id = some t → HeldOk id t := by
    intro id t hm
    subst hhd
    rcases List.mem_append.1 (assocN_mem hm) with h1 | h1
    · exact held_np h1
    · exact heldX_np h1
  have hinj : ∀ q q' i, q ∈ st.x → q' ∈ st.x → tgt h z keep q = some i → tgt h z keep q' = some i → q = q' := by
    have : (st.x.filterMap (tgt h z keep)).Nodup := by
      have := (hperm.map Prod.fst).nodup_iff.1 hnd'
      rw [List.map_filterMap] at this
      have e : (fun q : Nat × Bx => Option.map Prod.fst ((tgt h z keep q).map fun t => (t, tgtB st.x h z q.2))) = tgt h z keep := by
        funext q; cases tgt h z keep q <;> rfl
      rwa [e] at this
    exact fun q q' i h1 h2 h3 h4 => fm_inj this h1 h2 h3 h4
  have hmu : ∀ q i, q ∈ st.x → tgt h z keep q = some i → muC st.x h z keep μ i = μ q.1 := by
    intro q i hq ht
    unfold muC
    split
    · rename_i hp
      rw [tgt_pareq hhn ht hp]
    · cases hf : st.x.find? fun q => tgt h z keep q == some i with
      | none =>
        have := List.find?_eq_none.1 hf q hq
        simp [ht] at this
      | some q' =>
        have h1 := List.find?_some hf
        have h2 := List.mem_of_find?_eq_some hf
        simp only [beq_iff_eq] at h1
        rw [hinj q' q i h2 hq h1 ht]
  have mem : ∀ id bx, boxOf st.x id = some bx → (id, bx) ∈ st.x := fun id bx h => mem_of_boxOf h
  have hc : MuC st.x h z keep μ (muC st.x h z keep μ) := by
    refine ⟨fun id cs h1 h2 => hmu (id, .st cs) id (mem _ _ h1) ?_, fun id cs t h1 h2 => hmu (id, .ar cs) t (mem _ _ h1) ?_, fun id cs h1 h2 => hmu (id, .mp cs) id (mem _ _ h1) ?_, fun id cs h1 h2 h3 h4 => hmu (id, .ar cs) id (mem _ _ h1) ?_⟩
    · simp only [tgt, h2, _root_.cond_true]
    · simp only [tgt, h2]
    · simp only [tgt, h2, _root_.cond_true]
    · simp only [tgt, h2, h3, h4, _root_.cond_true, _root_.cond_false]
  have src : ∀ i bx', boxOf x' i = some bx' → ∃ q ∈ st.x, boxOf st.x q.1 = some q.2 ∧ tgt h z keep q = some i ∧ bx' = tgtB st.x h z q.2 := by
    intro i bx' hi
    have := hperm.mem_iff.1 (mem_of_boxOf hi)
    obtain ⟨q, hq, ht⟩ := List.mem_filterMap.1 this
    cases hq' : tgt h z keep q with
    | none => rw [hq'] at ht; cases ht
    | some t =>
      rw [hq'] at ht
      simp only [Option.map_some, Option.some.injEq, Prod.mk.injEq] at ht
      obtain ⟨rfl, rfl⟩ := ht
      exact ⟨q, hq, boxOf_of_mem hnd hq, hq', rfl⟩
  have hlv : ∀ b, live (tgtB st.x h z b) = live b := by intro b; cases b <;> rfl
  have g : Grow B w (Bless st.x h z μ B) w := ⟨Nat.le_refl _, fun _ _ _ => rfl, fun _ h => h, fun b _ hb => hb.1⟩
  -- a live box that is kept is not among the frozen ones
  have stay : ∀ q i, q ∈ st.x → boxOf st.x q.1 = some q.2 → tgt h z keep q = some i → live q.2 = true → ∀ b o n, μ q.1 = some (some (b, o, n)) → Bless st.x h z μ B b := by
    intro q i hq hb ht hl b o n hm
    refine ⟨(hs.sb.inB hb hl hm).1, fun id o' n' hf hm' => ?_⟩
    obtain ⟨cs, f1, f2, f3⟩ := hf
    have := hs.sb.sep q.1 id _ _ b o n o' n' hb f1 hl rfl hm hm'
    subst this
    exact tgt_notFrz hb ht ⟨cs, f1, f2, f3⟩
  refine ⟨_, muC st.x h z keep μ, Bless st.x h z μ B, hk, ⟨⟨?_, ?_, ?_, ?_, hs.sb.sz, fun b hb => hs.sb.blt b hb.1, hs.sb.gp.grow g⟩, fun t => ?_, hs.sz, hs.dfr⟩, ⟨hh.base, hh.blk, hh.os, hh.tape, hh.output, fun id hid => ?_, fun id hid => ?_, hh.ex⟩, fun id hid => ?_⟩
  · intro i bx' hi
    obtain ⟨q, hq, hb, ht, rfl⟩ := src i bx' hi
    have hm := hmu q i hq ht
    have hbox := hs.sb.box _ _ hb
    have hst := stay q i hq hb ht
    obtain ⟨id, bx⟩ := q
    cases bx with
    | st cs =>
      obtain ⟨b, o, k1, ⟨vs, k2, k2'⟩, k3, k4, k5⟩ := hbox
      refine ⟨b, o, by rw [hm, k1]; simp, ⟨vs, fix_rels hc hs.sb k2 fun id hid => ?_, k2'⟩, k3, hst rfl _ _ _ k1, k5⟩
      rw [← hkk]
      simpa using Or.inr (idsX_mem hq id hid)
    | ar cs =>
      rcases hbox with ⟨k1, k2⟩ | ⟨b, o, k1, k2, k3, k4, k5⟩
      · exact .inl ⟨by rw [hm]; exact k1, k2⟩
      · exact .inr ⟨b, o, by rw [hm, k1], k2.grow g (noMu_le _) fun _ => rfl, k3, hst rfl _ _ _ k1, k5⟩
    | fz cs => cases ht
    | mp es =>
      obtain ⟨b, k1, k2, k3, k4, k5⟩ := hbox
      exact ⟨b, by rw [hm, k1], k2.grow g rfl, k3, hst rfl _ _ _ k1, k5⟩
  · intro i i' b1 b2 b o n o' n' h1 h2 h3 h4 h5 h6
    obtain ⟨q, hq, hb, ht, rfl⟩ := src i _ h1
    obtain ⟨q', hq', hb', ht', rfl⟩ := src i' _ h2
    rw [hmu q i hq ht] at h5
    rw [hmu q' i' hq' ht'] at h6
    rw [hlv] at h3 h4
    have e := hs.sb.sep q.1 q'.1 _ _ b o n o' n' hb hb' h3 h4 h5 h6
    have : q = q' := by
      obtain ⟨a, b⟩ := q
      obtain ⟨a', b'⟩ := q'
      simp only at e hb hb'
      subst e
      rw [hb] at hb'; cases hb'; rfl
    subst this
    rw [ht] at ht'
    exact Option.some.inj ht'
  · intro i b1 b o n h1 h2 h3 h4
    obtain ⟨q, hq, hb, ht, rfl⟩ := src i _ h1
    rw [hmu q i hq ht] at h4
    rw [hlv] at h2
    exact hs.sb.loc q.1 _ b o n hb h2 (by rw [← tgt_par (x := st.x) hhn ht]; exact h3) h4
  · intro b hb
    refine ⟨hs.sb.bx b hb, fun id o n hf hm => ?_⟩
    obtain ⟨cs, f1, f2, f3⟩ := hf
    have hnp : isPar id = false := by
      rw [← hzz] at f3
      have := List.mem_filter.1 (List.elem_iff.1 f3)
      simpa using this.2
    exact Cx.nb (hs.sb.loc id _ b o n f1 rfl hnp hm) hb
  · rw [lookE_fix]
    rw [← he]
    rcases lookE_live st.e lv t with h1 | h1
    · have h2 := idsE_look (lv.map fun t => (t, lookE st.e t)) t
      rw [h1] at h2 ⊢
      refine fix_relV hc hs.sb (hs.env t) fun id hid => ?_
      rw [← hkk]
      have := h2 id hid
      rw [he] at this
      simpa using Or.inl this
    · rw [h1]; exact RelL.u
  · unfold muC; rw [if_pos hid]; exact hh.par id hid
  · unfold muC
    rw [if_neg (by rw [own_npC hid]; simp)]
    cases hf : st.x.find? fun q => tgt h z keep q == some id with
    | none => exact .inl rfl
    | some q =>
      have h1 := List.find?_some hf
      simp only [beq_iff_eq] at h1
      have := tgt_owneq hhn h1 hid
      show μ q.1 = none ∨ μ q.1 = μ0 id
      rw [this]; exact hh.own id hid
  · unfold muC at hid
    split at hid
    · rename_i hp; exact .inl hp
    · right
      cases hf : st.x.find? fun q => tgt h z keep q == some id with
      | none => rw [hf] at hid; exact absurd rfl hid
      | some q =>
        have h1 := List.find?_some hf
        have h2 := List.mem_of_find?_eq_some hf
        simp only [beq_iff_eq] at h1
        exact ⟨_, boxOf_of_mem hnd' (hperm.mem_iff.2 (List.mem_filterMap.2 ⟨q, h2, by rw [h1]; rfl⟩))⟩
end
end Go.Sx

namespace Go.Sx
theorem nmTab_no : ∀ t ∈ nmTab, isOwn t = false ∧ isPar t = false := by decide
theorem nmTab_nd : nmTab.Nodup := by decide
theorem rhoK_elim {ids : List Nat} : ∀ {tab : List Nat} {K : List (Nat × Nat) → Prop}, rhoK ids tab K → tab.Nodup → (∀ t ∈ tab, isOwn t = false ∧ isPar t = false) → ids.Nodup →
    ∃ r, K r ∧ r.map (·.1) = ids ∧ (∀ q ∈ r, (isOwn q.1 = true ∧ q.2 = q.1) ∨ (isOwn q.1 = false ∧ q.2 ∈ tab)) ∧ (r.map (·.2)).Nodup := by
  induction ids with
  | nil => exact fun h _ _ _ => ⟨[], h, rfl, by simp, by simp⟩
  | cons id r ih =>
    intro tab K h hnd hno hin
    have h : (bif isOwn id then rhoK r tab fun q => K ((id, id) :: q) else match (generalizing := false) tab with
      | [] => False
      | t :: ts => rhoK r ts fun q => K ((id, t) :: q)) := h
    simp only [List.nodup_cons] at hin
    cases ho : isOwn id with
    | true =>
      rw [ho] at h
      obtain ⟨q, h1, h2, h3, h4⟩ := ih h hnd hno hin.2
      refine ⟨_, h1, by simp [h2], fun p hp => ?_, ?_⟩
      · rcases List.mem_cons.1 hp with rfl | hp
        · exact .inl ⟨ho, rfl⟩
        · exact h3 p hp
      · simp only [List.map_cons, List.nodup_cons]
        refine ⟨fun hm => ?_, h4⟩
        obtain ⟨p, hp, he⟩ := List.mem_map.1 hm
        rcases h3 p hp with ⟨k1, k2⟩ | ⟨k1, k2⟩
        · exact hin.1 (by rw [← h2]; exact List.mem_map.2 ⟨p, hp, by rw [← k2, he]⟩)
        · have := (hno _ k2).1
          rw [he, ho] at this; cases this
    | false =>
      rw [ho] at h
      cases tab with
      | nil => exact h.elim
      | cons t ts =>
        simp only [List.nodup_cons] at hnd
        obtain ⟨q, h1, h2, h3, h4⟩ := ih h hnd.2 (fun t ht => hno t (List.mem_cons_of_mem _ ht)) hin.2
        refine ⟨_, h1, by simp [h2], fun p hp => ?_, ?_⟩
        · rcases List.mem_cons.1 hp with rfl | hp
          · exact .inr ⟨ho, List.mem_cons_self⟩
          · rcases h3 p hp with k | ⟨k1, k2⟩
            · exact .inl k
            · exact .inr ⟨k1, List.mem_cons_of_mem _ k2⟩
        · simp only [List.map_cons, List.nodup_cons]
          refine ⟨fun hm => ?_, h4⟩
          obtain ⟨p, hp, he⟩ := List.mem_map.1 hm
          rcases h3 p hp with ⟨k1, k2⟩ | ⟨k1, k2⟩
          · have := (hno t List.mem_cons_self).1
            rw [← he, k2, k1] at this; cases this
          · rw [he] at k2; exact hnd.1 k2
def renV (f : Nat → Nat) : V → V
  | .c c => .c (renC f c)
  | .t cs => .t (cs.map (renC f))
theorem renVK_elim {r : List (Nat × Nat)} {v : V} {K : V → Prop} (h : renVK r v K) : (∀ i ∈ idsV v, (assocN r i).isSome = true) ∧ K (renV (fR r) v) := by
  cases v with
  | c c => exact renCK_elim (show renCK r c fun c' => K (.c c') from h)
  | t cs =>
    obtain ⟨h1, h2⟩ := renCsK_elim (show renCsK r cs fun c' => K (.t c') from h)
    refine ⟨fun i hi => ?_, h2⟩
    obtain ⟨c, hc, hi⟩ := List.mem_flatMap.1 hi
    exact h1 c hc i hi
theorem renEK_elim {r : List (Nat × Nat)} {e : Env} : ∀ {K : Env → Prop}, renEK r e K → (∀ q ∈ e, ∀ i ∈ idsV q.2, (assocN r i).isSome = true) ∧ K (e.map fun q => (q.1, renV (fR r) q.2)) := by
  induction e with
  | nil => exact fun h => ⟨by simp, h⟩
  | cons q e ih =>
    intro K h
    obtain ⟨k, v⟩ := q
    obtain ⟨h1, h2⟩ := renVK_elim (show renVK r v fun v' => renEK r e fun e' => K ((k, v') :: e') from h)
    obtain ⟨h3, h4⟩ := ih h2
    refine ⟨fun q hq => ?_, h4⟩
    rcases List.mem_cons.1 hq with rfl | hq
    · exact h1
    · exact h3 q hq
theorem keepXK_elim {x : Bxs} {r l : List (Nat × Nat)} : ∀ {K : Bxs → Prop}, keepXK x r l K → ∃ y, K y ∧ y.map (·.1) = l.map (·.2) ∧
    ∀ p ∈ y, ∃ q ∈ l, ∃ bx, q.2 = p.1 ∧ boxOf x q.1 = some bx ∧ p.2 = renBx (fR r) bx ∧ ∀ i ∈ idsB bx, (assocN r i).isSome = true := by
  induction l with
  | nil => exact fun h => ⟨[], h, rfl, by simp⟩
  | cons q l ih =>
    intro K h
    obtain ⟨id, nm⟩ := q
    obtain ⟨bx, hb, h⟩ := (lookK_iff x id _).1 (show lookK x id fun bx => renBK r bx fun bx' => keepXK x r l fun y => K ((nm, bx') :: y) from h)
    obtain ⟨h1, h2⟩ := renBK_elim h
    obtain ⟨y, k1, k2, k3⟩ := ih h2
    refine ⟨_, k1, by simp [k2], fun p hp => ?_⟩
    rcases List.mem_cons.1 hp with rfl | hp
    · exact ⟨(id, nm), List.mem_cons_self, bx, rfl, hb, rfl, h1⟩
    · obtain ⟨q, g1, g2⟩ := k3 p hp
      exact ⟨q, List.mem_cons_of_mem _ g1, g2⟩
section
variable {P : Program} [Gl P] {B : Nat → Prop} {w : World} {μ : Mu} {X : Cx P} {m : Nat → Option Bx}
theorem RelV.ren {f : Nat → Nat} {μ' : Mu} {v : V} {u : Value} (h : RelV B w μ v u) (hm : ∀ id ∈ idsV v, μ' (f id) = μ id) : RelV B w μ' (renV f v) u := by
  cases v with
  | c c => exact RelC.ren h hm
  | t cs =>
    obtain ⟨vs, rfl, h⟩ := h
    refine ⟨vs, rfl, by simpa using h.1, fun j c u h1 h2 => ?_⟩
    rw [List.getElem?_map, Option.map_eq_some_iff] at h1
    obtain ⟨c0, h1, rfl⟩ := h1
    exact (h.2 j c0 u h1 h2).ren fun id hid => hm id (List.mem_flatMap.2 ⟨c0, List.mem_of_getElem? h1, hid⟩)
theorem lookE_renV (f : Nat → Nat) (e : Env) (t : Nat) : lookE (e.map fun q => (q.1, renV f q.2)) t = renV f (lookE e t) := by
  induction e with
  | nil => rfl
  | cons q r ih =>
    obtain ⟨k, v⟩ := q
    simp only [List.map_cons, lookE_cons, ih]
    split <;> rfl
theorem lookE_mem {e : Env} {t : Nat} : lookE e t = .c (.o .u) ∨ (t, lookE e t) ∈ e := by
  induction e with
  | nil => exact .inl rfl
  | cons q r ih =>
    obtain ⟨k, v⟩ := q
    simp only [lookE_cons]
    split
    · rename_i h; subst h; exact .inr List.mem_cons_self
    · rcases ih with h | h
      · exact .inl h
      · exact .inr (List.mem_cons_of_mem _ h)
def bitM (m k : Nat) : Bool := Nat.beq (Nat.land (Nat.shiftRight m k) 1) 1
def filE : Env → Nat → Env
  | [], _ => []
  | (k, v) :: e, m => bif bitM m k then (k, v) :: filE e (Nat.xor m (Nat.shiftLeft 1 k)) else filE e m
theorem filK_eq (e : Env) : ∀ (m : Nat) (K : Env → Prop), filK e m K = K (filE e m) := by
  induction e with
  | nil => exact fun _ _ => rfl
  | cons q e ih =>
    intro m K
    obtain ⟨k, v⟩ := q
    show (bif bitM m k then filK e (Nat.xor m (Nat.shiftLeft 1 k)) fun e' => K ((k, v) :: e') else filK e m K) = _
    unfold filE
    cases bitM m k with
    | true => exact ih _ _
    | false => exact ih _ _
theorem bitM_eq (m k : Nat) : bitM m k = m.testBit k := by
  unfold bitM
  have e : Nat.land (Nat.shiftRight m k) 1 = m / 2 ^ k % 2 := by
    show (m >>> k) &&& 1 = _
    rw [Nat.and_one_is_mod, Nat.shiftRight_eq_div_pow]
  rw [e, Nat.testBit_eq_decide_div_mod_eq]
  rcases Nat.mod_two_eq_zero_or_one (m / 2 ^ k) with h | h <;> rw [h] <;> rfl
theorem bitM_xor {m k t : Nat} (h : k ≠ t) : bitM (Nat.xor m (Nat.shiftLeft 1 k)) t = bitM m t := by
  rw [bitM_eq, bitM_eq]
  show (m ^^^ (1 <<< k)).testBit t = _
  rw [Nat.testBit_xor, Nat.one_shiftLeft, Nat.testBit_two_pow]
  simp [h]
theorem lookE_fil0 (e : Env) : ∀ (m t : Nat), (bitM m t = true → lookE (filE e m) t = lookE e t) ∧ (bitM m t = false → lookE (filE e m) t = .c (.o .u)) := by
  induction e with
  | nil => exact fun _ _ => ⟨fun _ => rfl, fun _ => rfl⟩
  | cons q e ih =>
    intro m t
    obtain ⟨k, v⟩ := q
    unfold filE
    by_cases hkt : k = t
    · subst hkt
      cases hb : bitM m k with
      | true => refine ⟨fun _ => ?_, fun h => by cases h⟩; rw [_root_.cond_true, lookE_cons, lookE_cons, if_pos rfl, if_pos rfl]
      | false => refine ⟨fun h => (by cases h), fun _ => ?_⟩; rw [_root_.cond_false]; exact (ih m k).2 hb
    · cases hb : bitM m k with
      | true =>
        rw [_root_.cond_true, lookE_cons, lookE_cons, if_neg hkt, if_neg hkt, ← bitM_xor (m := m) hkt]
        exact ih _ t
      | false =>
        rw [_root_.cond_false, lookE_cons, if_neg hkt]
        exact ih m t
theorem lookE_fil (e : Env) (m t : Nat) : lookE (filE e m) t = lookE e t ∨ lookE (filE e m) t = .c (.o .u) := by
  cases hb : bitM m t with
  | true => exact .inl ((lookE_fil0 e m t).1 hb)
  | false => exact .inr ((lookE_fil0 e m t).2 hb)
def muK (r : List (Nat × Nat)) (μ : Mu) : Mu := fun i =>
  if isPar i = true then μ i else match r.find? fun q => q.2 == i with
    | some q => μ q.1
    | none => none
theorem canonX_sound {N : Nat} {lv : Nat} {st : St} {K : St → Prop} {a : Act} {w0 : World} {μ0 : Mu} (hs : SR X N st a w μ B) (hh : Hist X w0 μ0 μ w) (hk : canonX lv st K) :
    ∃ st' μ' B', K st' ∧ SR X N st' a w μ' B' ∧ Hist X w0 μ0 μ' w ∧ Dom st'.x μ' := by
  have hk : filK st.e lv fun e => cloK (lookK st.x) 400 (ownR st.x (idER e [])) [] fun ids => bif !nodupB ids || ids.any isPar then False else
    rhoK ids nmTab fun r => renEK r e fun e' => keepXK st.x r r fun x' => K ⟨e', x'⟩ := hk
  rw [filK_eq] at hk
  obtain ⟨ids, -, h1⟩ := (cloK_lin (lookK_lin st.x) 400 _ [] _).1 hk
  obtain ⟨hc, h2⟩ := cond_false h1
  simp only [Bool.or_eq_false_iff, Bool.not_eq_false'] at hc
  have hnd : ids.Nodup := (nodupB_iff _).1 hc.1
  have hnp : ∀ id ∈ ids, isPar id = false := fun id hid => by simpa using List.any_eq_false.1 hc.2 id hid
  obtain ⟨r, h3, hr1, hr2, hr3⟩ := rhoK_elim h2 nmTab_nd nmTab_no hnd
  obtain ⟨he, h4⟩ := renEK_elim h3
  obtain ⟨x', hK, hx1, hx2⟩ := keepXK_elim h4
  have hrn : (r.map (·.1)).Nodup := by rw [hr1]; exact hnd
  have hqp : ∀ q ∈ r, isPar q.1 = false ∧ isPar q.2 = false := by
    intro q hq
    have h0 := hnp q.1 (by rw [← hr1]; exact List.mem_map.2 ⟨q, hq, rfl⟩)
    rcases hr2 q hq with ⟨_, k⟩ | ⟨_, k⟩
    · exact ⟨h0, by rw [k]; exact h0⟩
    · exact ⟨h0, (nmTab_no _ k).2⟩
  have inj2 : ∀ q ∈ r, ∀ q' ∈ r, q.2 = q'.2 → q = q' := by
    intro q hq q' hq' he
    obtain ⟨i, hi⟩ := List.getElem?_of_mem hq
    obtain ⟨j, hj⟩ := List.getElem?_of_mem hq'
    have hil : i < (r.map (·.2)).length := by simpa using (List.getElem?_eq_some_iff.1 hi).1
    have hjl : j < (r.map (·.2)).length := by simpa using (List.getElem?_eq_some_iff.1 hj).1
    have : i = j := (List.getElem_inj (h₀ := hil) (h₁ := hjl) hr3).1 (by
      have e1 : (r.map (·.2))[i]? = some q.2 := by rw [List.getElem?_map, hi]; rfl
      have e2 : (r.map (·.2))[j]? = some q'.2 := by rw [List.getElem?_map, hj]; rfl
      rw [List.getElem?_eq_getElem hil] at e1
      rw [List.getElem?_eq_getElem hjl] at e2
      rw [Option.some.inj e1, Option.some.inj e2, he])
    subst this
    rw [hi] at hj
    exact Option.some.inj hj
  have hmu : ∀ q ∈ r, muK r μ q.2 = μ q.1 := by
    intro q hq
    unfold muK
    rw [if_neg (by rw [(hqp q hq).2]; simp)]
    cases hf : r.find? fun p => p.2 == q.2 with
    | none =>
      have := List.find?_eq_none.1 hf q hq
      simp at this
    | some p =>
      have h1 := List.find?_some hf
      have h2 := List.mem_of_find?_eq_some hf
      simp only [beq_iff_eq] at h1
      rw [inj2 p h2 q hq h1]
  have hren : ∀ i, (assocN r i).isSome = true → muK r μ (fR r i) = μ i := fun i hi => hmu (i, fR r i) (assocN_some hi)
  have src : ∀ i bx', boxOf x' i = some bx' → ∃ q ∈ r, ∃ bx, q.2 = i ∧ boxOf st.x q.1 = some bx ∧ bx' = renBx (fR r) bx ∧ ∀ j ∈ idsB bx, (assocN r j).isSome = true := by
    intro i bx' hi
    exact hx2 (i, bx') (mem_of_boxOf hi)
  refine ⟨_, muK r μ, B, hK, ⟨⟨fun i bx' hi => ?_, ?_, ?_, hs.sb.bx, hs.sb.sz, hs.sb.blt, hs.sb.gp⟩, fun t => ?_, hs.sz, hs.dfr⟩, ⟨hh.base, hh.blk, hh.os, hh.tape, hh.output, fun id hid => ?_, fun id hid => ?_, hh.ex⟩, fun id hid => ?_⟩
  · obtain ⟨q, hq, bx, rfl, hb, rfl, hids⟩ := src i bx' hi
    exact (hs.sb.box _ _ hb).ren (hmu q hq) fun j hj => hren j (hids j hj)
  · intro i i' b1 b2 b o n o' n' h1 h2 h3 h4 h5 h6
    obtain ⟨q, hq, bx, rfl, hb, rfl, _⟩ := src i _ h1
    obtain ⟨q', hq', bx', rfl, hb', rfl, _⟩ := src i' _ h2
    rw [hmu q hq] at h5
    rw [hmu q' hq'] at h6
    rw [live_ren] at h3 h4
    have e := hs.sb.sep q.1 q'.1 _ _ b o n o' n' hb hb' h3 h4 h5 h6
    have : fR r q.1 = fR r q'.1 := by rw [e]
    have g : ∀ q ∈ r, fR r q.1 = q.2 := fun q hq => by simp [fR, assocN_of_mem hrn (show (q.1, q.2) ∈ r from hq)]
    rw [g q hq, g q' hq'] at this
    exact this
  · intro i b1 b o n h1 h2 _ h4
    obtain ⟨q, hq, bx, rfl, hb, rfl, _⟩ := src i _ h1
    rw [hmu q hq] at h4
    rw [live_ren] at h2
    exact hs.sb.loc q.1 _ b o n hb h2 (hqp q hq).1 h4
  · rw [lookE_renV]
    rcases lookE_fil st.e lv t with h1 | h1
    · rw [h1]
      refine (hs.env t).ren fun id hid => hren id ?_
      rcases lookE_mem (e := filE st.e lv) (t := t) with h5 | h5
      · rw [h1] at h5; rw [h5] at hid; simp [idsV, idsC, idsL] at hid
      · rw [h1] at h5; exact he _ h5 id hid
    · rw [h1]; exact RelL.u
  · unfold muK; rw [if_pos hid]; exact hh.par id hid
  · unfold muK
    rw [if_neg (by rw [own_npC hid]; simp)]
    cases hf : r.find? fun q => q.2 == id with
    | none => exact .inl rfl
    | some q =>
      have h1 := List.find?_some hf
      have h2 := List.mem_of_find?_eq_some hf
      simp only [beq_iff_eq] at h1
      show μ q.1 = none ∨ μ q.1 = μ0 id
      rcases hr2 q h2 with ⟨_, k⟩ | ⟨_, k⟩
      · have : q.1 = id := by rw [← k, h1]
        rw [this]; exact hh.own id hid
      · have := (nmTab_no _ k).1
        rw [h1, hid] at this; cases this
  · unfold muK at hid
    split at hid
    · rename_i hp; exact .inl hp
    · right
      cases hf : r.find? fun q => q.2 == id with
      | none => rw [hf] at hid; exact absurd rfl hid
      | some q =>
        have h1 := List.find?_some hf
        have h2 := List.mem_of_find?_eq_some hf
        simp only [beq_iff_eq] at h1
        have hm : id ∈ x'.map (·.1) := by rw [hx1]; exact List.mem_map.2 ⟨q, h2, h1⟩
        obtain ⟨p, hp, rfl⟩ := List.mem_map.1 hm
        cases hb : boxOf x' p.1 with
        | some bx => exact ⟨bx, rfl⟩
        | none =>
          exfalso
          have : ∀ (y : Bxs), p ∈ y → boxOf y p.1 ≠ none := by
            intro y
            induction y with
            | nil => intro h; cases h
            | cons q r ih =>
              intro hq
              simp only [boxOf]
              cases hb : Nat.beq q.1 p.1 with
              | true => simp
              | false =>
                rcases List.mem_cons.1 hq with rfl | hq
                · simp at hb
                · exact ih hq
          exact this x' hp hb
theorem canonG_sound {G : Par} {rid N : Nat} {st : St} {K : St → Prop} {a : Act} {w0 : World} {μ0 : Mu} (hs : SR X N st a w μ B) (hh : Hist X w0 μ0 μ w) (hk : canonG G rid st K) :
    ∃ st' μ' B', K st' ∧ SR X N st' a w μ' B' ∧ Hist X w0 μ0 μ' w ∧ Dom st'.x μ' := by
  unfold canonG at hk
  cases hkp : G.kp with
  | true => rw [hkp] at hk; exact canonX_sound hs hh hk
  | false => rw [hkp] at hk; exact canon_sound hs hh hk
theorem endK_sound {G : Par} {rid N : Nat} {inf : Info} {st : St} {K : St → Prop} {a : Act} {w0 : World} {μ0 : Mu} {x0 : Bxs} {μs : Mu} (hd0 : Dom x0 μs) (hdm : DomI x0 μs inf st.x μ) (hs : SR X N st a w μ B) (hh : Hist X w0 μ0 μ w) (hk : endK G rid inf st K) :
    ∃ st' μ' B', K st' ∧ SR X N st' a w μ' B' ∧ Hist X w0 μ0 μ' w ∧ Dom st'.x μ' := by
  unfold endK at hk
  cases hkp : G.kp && presB inf st.x with
  | false => rw [hkp] at hk; exact canonG_sound hs hh hk
  | true =>
    rw [hkp] at hk
    simp only [Bool.and_eq_true] at hkp
    have hp : ∀ id ∈ efIds inf, ∃ bx, boxOf st.x id = some bx := by
      intro id hid
      obtain ⟨p, hp1, hp2⟩ := List.mem_flatMap.1 hid
      exact Option.isSome_iff_exists.1 (List.all_eq_true.1 (List.all_eq_true.1 hkp.2 p hp1) id hp2)
    have hdom : Dom st.x μ := by
      intro id hid
      rcases hdm.1 id hid with h1 | h1
      · rcases hd0 id h1 with h2 | ⟨bx, h2⟩
        · exact .inl h2
        · by_cases hm : id ∈ efIds inf
          · exact .inr (hp id hm)
          · exact .inr (hdm.2 id bx h2 hm)
      · exact .inr (hp id h1)
    have hk : filS (maskOf (G.live rid)) st K := hk
    unfold filS at hk
    cases hz : Nat.beq (maskOf (G.live rid)) 0 with
    | true => rw [hz] at hk; exact ⟨st, μ, B, hk, hs, hh, hdom⟩
    | false =>
      rw [hz] at hk
      have hk : filK st.e (maskOf (G.live rid)) fun e => K ⟨e, st.x⟩ := hk
      rw [filK_eq] at hk
      refine ⟨_, μ, B, hk, ⟨hs.sb, fun t => ?_, hs.sz, hs.dfr⟩, hh, hdom⟩
      rcases lookE_fil st.e (maskOf (G.live rid)) t with h1 | h1
      · show RelV _ _ _ (lookE (filE st.e _) t) _
        rw [h1]; exact hs.env t
      · show RelV _ _ _ (lookE (filE st.e _) t) _
        rw [h1]; exact RelL.u
theorem startK_sound {G : Par} {ops : List Oper} {N : Nat} {st : St} {K : St → Prop} {a : Act} {w0 : World} {μ0 : Mu} (hs : SR X N st a w μ B) (hh : Hist X w0 μ0 μ w) (hd : Dom st.x μ) (hk : startK G ops st K) :
    ∃ st' μ' B', K st' ∧ SR X N st' a w μ' B' ∧ Hist X w0 μ0 μ' w ∧ Dom st'.x μ' := by
  unfold startK at hk
  cases hkp : G.kp && !okStart ops st.x with
  | true => rw [hkp] at hk; exact canonX_sound hs hh hk
  | false => rw [hkp] at hk; exact ⟨st, μ, B, hk, hs, hh, hd⟩
end
end Go.Sx

namespace Go.Sx
section
variable {x x' : LK}
theorem closeK_loc (ls : List L) : (∀ id ∈ idsLs ls, x id = x' id) → closeK x ls = closeK x' ls := by
  induction ls with
  | nil => intro _; rfl
  | cons l r ih =>
    intro h
    have hr := ih fun id hid => h id (List.mem_append_right _ hid)
    funext K
    cases l <;> first
      | rfl
      | (show closeK x r _ = closeK x' r _; rw [hr])
      | skip
    · rename_i id n sz
      have h0 : x id = x' id := h id (List.mem_append_left _ (by simp [idsL]))
      show x id (fun bx => match bx with
        | .ar cs => bif isPar id then False else closeK x r fun ls ef => K (.sl cs n :: ls) ((id, some (.fz cs)) :: ef)
        | .fz cs => closeK x r fun ls ef => K (.sl cs n :: ls) ef
        | _ => False) = x' id (fun bx => match bx with
        | .ar cs => bif isPar id then False else closeK x' r fun ls ef => K (.sl cs n :: ls) ((id, some (.fz cs)) :: ef)
        | .fz cs => closeK x' r fun ls ef => K (.sl cs n :: ls) ef
        | _ => False)
      rw [h0, hr]
    · rename_i id off n sz
      have h0 : x id = x' id := h id (List.mem_append_left _ (by simp [idsL]))
      show x id (fun bx => match bx with
        | .ar cs => bif isPar id then False else closeK x r fun ls ef => K (.sl ((cs.drop off).take (n * sz)) n :: ls) ((id, some (.fz cs)) :: ef)
        | .fz cs => closeK x r fun ls ef => K (.sl ((cs.drop off).take (n * sz)) n :: ls) ef
        | _ => False) = x' id (fun bx => match bx with
        | .ar cs => bif isPar id then False else closeK x' r fun ls ef => K (.sl ((cs.drop off).take (n * sz)) n :: ls) ((id, some (.fz cs)) :: ef)
        | .fz cs => closeK x' r fun ls ef => K (.sl ((cs.drop off).take (n * sz)) n :: ls) ef
        | _ => False)
      rw [h0, hr]
theorem contentK_loc (l : L) (h : ∀ id ∈ idsL l, x id = x' id) : contentK x l = contentK x' l := by
  funext K
  cases l <;> first
    | rfl
    | (unfold contentK; simp only []; rw [h _ (by simp [idsL])])
theorem touch_own {m : Nat → Option Bx} {vs : List V} {v : V} {id : Nat} (hv : v ∈ vs) (hid : id ∈ idsV v) : id ∈ touch m vs :=
  List.mem_flatMap.2 ⟨id, List.mem_flatMap.2 ⟨v, hv, hid⟩, List.mem_cons_self ..⟩
theorem touch_cell {m : Nat → Option Bx} {vs : List V} {v : V} {id id' : Nat} {cs : List L} (hv : v ∈ vs) (hid : id ∈ idsV v) (hm : m id = some (.st cs)) (h : id' ∈ idsLs cs) : id' ∈ touch m vs :=
  List.mem_flatMap.2 ⟨id, List.mem_flatMap.2 ⟨v, hv, hid⟩, List.mem_cons_of_mem _ (by simp only [hm]; exact h)⟩
end
section
variable {m m' : Nat → Option Bx}
theorem lkm_eq {id : Nat} (h : m id = m' id) : lkm m id = lkm m' id := by funext K; simp only [lkm, h]
def Same (m m' : Nat → Option Bx) (vs : List V) : Prop := ∀ id ∈ touch m vs, m id = m' id
theorem Same.own {vs : List V} (h : Same m m' vs) {v : V} (hv : v ∈ vs) : ∀ id ∈ idsV v, lkm m id = lkm m' id := fun id hid => lkm_eq (h id (touch_own hv hid))
theorem Same.leaves {vs : List V} (h : Same m m' vs) {v : V} (hv : v ∈ vs) {K : List L → Prop} (hk : leavesK v K) : ∃ ls, K ls ∧ ∀ id ∈ idsLs ls, lkm m id = lkm m' id := by
  match v, hk, hv with
  | .c (.o l), hk, hv =>
    unfold leavesK at hk
    cases hu : isU l with
    | true => simp [hu] at hk
    | false =>
      simp only [hu, cond_false] at hk
      exact ⟨[l], hk, fun id hid => h.own hv id (by simpa [idsLs, idsV, idsC] using hid)⟩
  | .c (.a ls), hk, hv =>
    unfold leavesK at hk
    cases hu : ls.any isU with
    | true => simp [hu] at hk
    | false =>
      simp only [hu, cond_false] at hk
      exact ⟨ls, hk, fun id hid => h.own hv id (by simpa [idsV, idsC] using hid)⟩
  | .t _, hk, _ => exact hk.elim
theorem lkm_lin (m : Nat → Option Bx) (id : Nat) : Lin (lkm m id) := lkm_linX m id
theorem closeK_ids {x : LK} (hx : ∀ id, Lin (x id)) (ls : List L) : ∀ K, closeK x ls K → closeK x ls fun ls' ef => (∀ id ∈ ef.map (fun q : Nat × Option Bx => q.1), id ∈ idsLs ls) ∧ K ls' ef := by
  induction ls with
  | nil => exact fun K h => ⟨by simp, h⟩
  | cons l r ih =>
    intro K h
    have plain : ∀ (f : List L → List L), closeK x r (fun ls ef => K (f ls) ef) → closeK x r fun ls ef => (∀ id ∈ ef.map (fun q : Nat × Option Bx => q.1), id ∈ idsLs (l :: r)) ∧ K (f ls) ef := fun f h =>
      Lin.mono (K := fun p : List L × Eff => (∀ id ∈ p.2.map (fun q : Nat × Option Bx => q.1), id ∈ idsLs r) ∧ K (f p.1) p.2) (K' := fun p => (∀ id ∈ p.2.map (fun q : Nat × Option Bx => q.1), id ∈ idsLs (l :: r)) ∧ K (f p.1) p.2) (closeK_lin hx r) (fun p hp => ⟨fun id hid => List.mem_append_right _ (hp.1 id hid), hp.2⟩) (ih _ h)
    have frz : ∀ (f : List L → List L) (id : Nat) (b : Option Bx), id ∈ idsL l → closeK x r (fun ls ef => K (f ls) ((id, b) :: ef)) → closeK x r fun ls ef => (∀ i ∈ ((id, b) :: ef).map (fun q : Nat × Option Bx => q.1), i ∈ idsLs (l :: r)) ∧ K (f ls) ((id, b) :: ef) := fun f id b hid h =>
      Lin.mono (K := fun p : List L × Eff => (∀ id ∈ p.2.map (fun q : Nat × Option Bx => q.1), id ∈ idsLs r) ∧ K (f p.1) ((id, b) :: p.2)) (K' := fun p => (∀ i ∈ ((id, b) :: p.2).map (fun q : Nat × Option Bx => q.1), i ∈ idsLs (l :: r)) ∧ K (f p.1) ((id, b) :: p.2)) (closeK_lin hx r) (fun p hp => ⟨fun i hi => by
        rw [List.map_cons, List.mem_cons] at hi
        rcases hi with rfl | hi
        · exact List.mem_append_left _ hid
        · exact List.mem_append_right _ (hp.1 i hi), hp.2⟩) (ih _ h)
    cases l <;> first
      | exact h.elim
      | exact plain _ h
      | skip
    · rename_i id n sz
      refine Lin.mono (K := fun bx => match bx with
        | .ar cs => bif isPar id then False else closeK x r fun ls ef => K (.sl cs n :: ls) ((id, some (.fz cs)) :: ef)
        | .fz cs => closeK x r fun ls ef => K (.sl cs n :: ls) ef
        | _ => False) (K' := fun bx => match bx with
        | .ar cs => bif isPar id then False else closeK x r fun ls ef => (∀ i ∈ ((id, some (.fz cs)) :: ef).map (fun q : Nat × Option Bx => q.1), i ∈ idsLs (.gw id n sz :: r)) ∧ K (.sl cs n :: ls) ((id, some (.fz cs)) :: ef)
        | .fz cs => closeK x r fun ls ef => (∀ i ∈ ef.map (fun q : Nat × Option Bx => q.1), i ∈ idsLs (.gw id n sz :: r)) ∧ K (.sl cs n :: ls) ef
        | _ => False) (hx id) (fun bx hb => ?_) h
      cases bx with
      | st _ => exact hb.elim
      | mp _ => exact hb.elim
      | fz cs => exact plain _ hb
      | ar cs =>
        simp only at hb ⊢
        cases hp : isPar id with
        | true => simp [hp] at hb
        | false => simp only [hp, _root_.cond_false] at hb ⊢; exact frz _ id _ (by simp [idsL]) hb
    · rename_i id off n sz
      refine Lin.mono (K := fun bx => match bx with
        | .ar cs => bif isPar id then False else closeK x r fun ls ef => K (.sl ((cs.drop off).take (n * sz)) n :: ls) ((id, some (.fz cs)) :: ef)
        | .fz cs => closeK x r fun ls ef => K (.sl ((cs.drop off).take (n * sz)) n :: ls) ef
        | _ => False) (K' := fun bx => match bx with
        | .ar cs => bif isPar id then False else closeK x r fun ls ef => (∀ i ∈ ((id, some (.fz cs)) :: ef).map (fun q : Nat × Option Bx => q.1), i ∈ idsLs (.gs id off n sz :: r)) ∧ K (.sl ((cs.drop off).take (n * sz)) n :: ls) ((id, some (.fz cs)) :: ef)
        | .fz cs => closeK x r fun ls ef => (∀ i ∈ ef.map (fun q : Nat × Option Bx => q.1), i ∈ idsLs (.gs id off n sz :: r)) ∧ K (.sl ((cs.drop off).take (n * sz)) n :: ls) ef
        | _ => False) (hx id) (fun bx hb => ?_) h
      cases bx with
      | st _ => exact hb.elim
      | mp _ => exact hb.elim
      | fz cs => exact plain _ hb
      | ar cs =>
        simp only at hb ⊢
        cases hp : isPar id with
        | true => simp [hp] at hb
        | false => simp only [hp, _root_.cond_false] at hb ⊢; exact frz _ id _ (by simp [idsL]) hb
theorem heldA_loc {x x' : LK} {b : Nat} (cl : List L) : ∀ (i : Nat), (∀ id ∈ idsLs cl, x id = x' id) → heldA x b cl i = heldA x' b cl i := by
  induction cl with
  | nil => intro i _; rfl
  | cons l r ih =>
    intro i h
    have hr := ih (i + 1) fun id hid => h id (List.mem_append_right _ hid)
    funext K
    cases l <;> first
      | rfl
      | (show heldA x b r (i + 1) _ = heldA x' b r (i + 1) _; rw [hr])
      | skip
    · rename_i id n sz
      have h0 : x id = x' id := h id (List.mem_append_left _ (by simp [idsL]))
      show x id (fun bx => match bx with
        | .ar cs => bif isPar id then False else heldA x b r (i + 1) fun ls bs mp => K (.gw (b + i) n sz :: ls) ((b + i, .ar cs) :: bs) ((b + i, id) :: mp)
        | .fz cs => heldA x b r (i + 1) fun ls bs mp => K (.sl cs n :: ls) bs mp
        | _ => False) = x' id (fun bx => match bx with
        | .ar cs => bif isPar id then False else heldA x' b r (i + 1) fun ls bs mp => K (.gw (b + i) n sz :: ls) ((b + i, .ar cs) :: bs) ((b + i, id) :: mp)
        | .fz cs => heldA x' b r (i + 1) fun ls bs mp => K (.sl cs n :: ls) bs mp
        | _ => False)
      rw [h0, hr]
    · rename_i id off n sz
      have h0 : x id = x' id := h id (List.mem_append_left _ (by simp [idsL]))
      show x id (fun bx => match bx with
        | .fz cs => heldA x b r (i + 1) fun ls bs mp => K (.sl ((cs.drop off).take (n * sz)) n :: ls) bs mp
        | _ => False) = x' id (fun bx => match bx with
        | .fz cs => heldA x' b r (i + 1) fun ls bs mp => K (.sl ((cs.drop off).take (n * sz)) n :: ls) bs mp
        | _ => False)
      rw [h0, hr]
theorem argsK_loc (vs : List V) : ∀ (j : Nat) (acc : List (Nat × Nat)) (all : List V), (∀ v ∈ vs, v ∈ all) → Same m m' all → ∀ K K' : List C → Bxs → List (Nat × Nat) → List Nat → Prop, (∀ cs bs mm rd, (∀ id ∈ rd, lkm m id = lkm m' id) → K cs bs mm rd → K' cs bs mm rd) → argsK (lkm m) vs j acc K → argsK (lkm m') vs j acc K' := by
  induction vs with
  | nil => exact fun j acc all _ _ K K' hk h => hk _ _ _ _ (by simp) h
  | cons v r ih =>
    intro j acc all hin hs K K' hk h
    have hv := hin v (List.mem_cons_self ..)
    have ih' := fun j acc => ih j acc all (fun v hv => hin v (List.mem_cons_of_mem _ hv)) hs
    match v, hv, h with
    | .t _, _, h => exact h.elim
    | .c (.a ls), hv, h =>
      have hown : ∀ id ∈ idsLs ls, lkm m id = lkm m' id := fun id hid => hs.own hv id (by simpa [idsV, idsC] using hid)
      have hc : closeK (lkm m) ls = closeK (lkm m') ls := closeK_loc ls hown
      change closeK (lkm m) ls (fun ls' ef => argsK (lkm m) r (j + 1) acc fun cs bs mm rd => K (.a ls' :: cs) bs mm (ef.map (·.1) ++ rd)) at h
      change closeK (lkm m') ls (fun ls' ef => argsK (lkm m') r (j + 1) acc fun cs bs mm rd => K' (.a ls' :: cs) bs mm (ef.map (·.1) ++ rd))
      rw [hc] at h
      refine Lin.mono (K := fun p : List L × Eff => (∀ id ∈ p.2.map (fun q : Nat × Option Bx => q.1), id ∈ idsLs ls) ∧ argsK (lkm m) r (j + 1) acc fun cs bs mm rd => K (.a p.1 :: cs) bs mm (p.2.map (·.1) ++ rd)) (K' := fun p => argsK (lkm m') r (j + 1) acc fun cs bs mm rd => K' (.a p.1 :: cs) bs mm (p.2.map (·.1) ++ rd)) (closeK_lin (lkm_lin m') ls) (fun p hp => ih' (j + 1) acc _ _ (fun cs bs mm rd h1 h2 => hk _ _ _ _ (fun id hid => ?_) h2) hp.2) (closeK_ids (lkm_lin m') ls _ h)
      rcases List.mem_append.1 hid with h3 | h3
      · exact hown id (hp.1 id h3)
      · exact h1 id h3
    | .c (.o l), hv, h =>
      cases l <;> first
        | exact h.elim
        | exact ih' (j + 1) acc _ _ (fun cs bs mm rd h1 h2 => hk _ _ _ _ h1 h2) h
        | skip
      · rcases (show nlK fun l => argsK (lkm m) r (j + 1) acc fun cs bs mm rd => K (.o l :: cs) bs mm rd from h) with h | h
        · exact nlK.nl (ih' (j + 1) acc _ _ (fun cs bs mm rd h1 h2 => hk _ _ _ _ h1 h2) h)
        · exact nlK.sl (ih' (j + 1) acc _ _ (fun cs bs mm rd h1 h2 => hk _ _ _ _ h1 h2) h)
      · rename_i id n sz
        have h0 := hs.own hv id (by simp [idsV, idsC, idsL])
        have hc : contentK (lkm m) (.gw id n sz) = contentK (lkm m') (.gw id n sz) := contentK_loc _ fun i hi => by simp [idsL] at hi; subst hi; exact h0
        change contentK (lkm m) (.gw id n sz) (fun c m0 => argsK (lkm m) r (j + 1) acc fun cs bs mm rd => K (.o (.sl c m0) :: cs) bs mm (id :: rd)) at h
        change contentK (lkm m') (.gw id n sz) (fun c m0 => argsK (lkm m') r (j + 1) acc fun cs bs mm rd => K' (.o (.sl c m0) :: cs) bs mm (id :: rd))
        rw [hc] at h
        exact Lin.mono (K := fun p : List L × Nat => argsK (lkm m) r (j + 1) acc fun cs bs mm rd => K (.o (.sl p.1 p.2) :: cs) bs mm (id :: rd)) (K' := fun p => argsK (lkm m') r (j + 1) acc fun cs bs mm rd => K' (.o (.sl p.1 p.2) :: cs) bs mm (id :: rd)) (contentK_lin (lkm_lin m') (.gw id n sz)) (fun p hp => ih' (j + 1) acc _ _ (fun cs bs mm rd h1 h2 => hk _ _ _ _ (fun i hi => by
          rcases List.mem_cons.1 hi with rfl | hi
          · exact h0
          · exact h1 i hi) h2) hp) h
      · rename_i id off n sz
        have h0 := hs.own hv id (by simp [idsV, idsC, idsL])
        have hc : contentK (lkm m) (.gs id off n sz) = contentK (lkm m') (.gs id off n sz) := contentK_loc _ fun i hi => by simp [idsL] at hi; subst hi; exact h0
        change contentK (lkm m) (.gs id off n sz) (fun c m0 => argsK (lkm m) r (j + 1) acc fun cs bs mm rd => K (.o (.sl c m0) :: cs) bs mm (id :: rd)) at h
        change contentK (lkm m') (.gs id off n sz) (fun c m0 => argsK (lkm m') r (j + 1) acc fun cs bs mm rd => K' (.o (.sl c m0) :: cs) bs mm (id :: rd))
        rw [hc] at h
        exact Lin.mono (K := fun p : List L × Nat => argsK (lkm m) r (j + 1) acc fun cs bs mm rd => K (.o (.sl p.1 p.2) :: cs) bs mm (id :: rd)) (K' := fun p => argsK (lkm m') r (j + 1) acc fun cs bs mm rd => K' (.o (.sl p.1 p.2) :: cs) bs mm (id :: rd)) (contentK_lin (lkm_lin m') (.gs id off n sz)) (fun p hp => ih' (j + 1) acc _ _ (fun cs bs mm rd h1 h2 => hk _ _ _ _ (fun i hi => by
          rcases List.mem_cons.1 hi with rfl | hi
          · exact h0
          · exact h1 i hi) h2) hp) h
      · rename_i id off
        have h : match (generalizing := false) assocR acc id with
          | some nm => argsK (lkm m) r (j + 1) acc fun cs bs m rd => K (.o (.p nm off) :: cs) bs m rd
          | none => match (generalizing := false) off with
            | 0 => lkm m id fun bx => match bx with
              | .st cl => heldA (lkm m) (1100 + 16 * j) cl 0 fun ls' hb hm => argsK (lkm m) r (j + 1) (hm ++ acc) fun cs bs m rd => K (.o (.p (1000 + j) 0) :: cs) ((1000 + j, .st ls') :: (hb ++ bs)) ((1000 + j, id) :: (hm ++ m)) rd
              | .ar cl => argsK (lkm m) r (j + 1) acc fun cs bs m rd => K (.o (.p (1000 + j) 0) :: cs) ((1000 + j, .ar cl) :: bs) ((1000 + j, id) :: m) rd
              | _ => False
            | _ => False := h
        show match (generalizing := false) assocR acc id with
          | some nm => argsK (lkm m') r (j + 1) acc fun cs bs m rd => K' (.o (.p nm off) :: cs) bs m rd
          | none => match (generalizing := false) off with
            | 0 => lkm m' id fun bx => match bx with
              | .st cl => heldA (lkm m') (1100 + 16 * j) cl 0 fun ls' hb hm => argsK (lkm m') r (j + 1) (hm ++ acc) fun cs bs m rd => K' (.o (.p (1000 + j) 0) :: cs) ((1000 + j, .st ls') :: (hb ++ bs)) ((1000 + j, id) :: (hm ++ m)) rd
              | .ar cl => argsK (lkm m') r (j + 1) acc fun cs bs m rd => K' (.o (.p (1000 + j) 0) :: cs) ((1000 + j, .ar cl) :: bs) ((1000 + j, id) :: m) rd
              | _ => False
            | _ => False
        cases ha : assocR acc id with
        | some nm => rw [ha] at h; exact ih' (j + 1) acc _ _ (fun cs bs mm rd h1 h2 => hk _ _ _ _ h1 h2) h
        | none =>
        rw [ha] at h
        cases off with
        | succ n => exact h.elim
        | zero =>
          obtain ⟨bx, hb, h⟩ := h
          have h0 := hs id (touch_own hv (by simp [idsV, idsC, idsL]))
          refine ⟨bx, by rw [← h0]; exact hb, ?_⟩
          cases bx with
          | fz cs => exact h.elim
          | mp cs => exact h.elim
          | ar cl => exact ih' (j + 1) acc _ _ (fun cs bs mm rd h1 h2 => hk _ _ _ _ h1 h2) h
          | st cl =>
            have hc : heldA (lkm m) (1100 + 16 * j) cl 0 = heldA (lkm m') (1100 + 16 * j) cl 0 := heldA_loc cl 0 fun i hi => lkm_eq (hs i (touch_cell hv (by simp [idsV, idsC, idsL]) hb hi))
            simp only at h ⊢
            rw [hc] at h
            exact Lin.mono (K := fun p : List L × Bxs × List (Nat × Nat) => argsK (lkm m) r (j + 1) (p.2.2 ++ acc) fun cs bs mm rd => K (.o (.p (1000 + j) 0) :: cs) ((1000 + j, .st p.1) :: (p.2.1 ++ bs)) ((1000 + j, id) :: (p.2.2 ++ mm)) rd) (K' := fun p => argsK (lkm m') r (j + 1) (p.2.2 ++ acc) fun cs bs mm rd => K' (.o (.p (1000 + j) 0) :: cs) ((1000 + j, .st p.1) :: (p.2.1 ++ bs)) ((1000 + j, id) :: (p.2.2 ++ mm)) rd) (heldA_lin (lkm_lin m') (1100 + 16 * j) cl 0) (fun p hp => ih' (j + 1) _ _ _ (fun cs bs mm rd h1 h2 => hk _ _ _ _ h1 h2) hp) h
theorem fzK_loc (ids : List Nat) : (∀ id ∈ ids, lkm m id = lkm m' id) → fzK (lkm m) ids = fzK (lkm m') ids := by
  induction ids with
  | nil => intro _; rfl
  | cons id r ih =>
    intro h
    have hr := ih fun i hi => h i (List.mem_cons_of_mem _ hi)
    have h0 := h id (List.mem_cons_self ..)
    funext K
    show lkm m id (fun bx => match bx with
      | .ar cs => bif isPar id then False else fzK (lkm m) r fun ef => K ((id, some (.fz cs)) :: ef)
      | .fz _ => fzK (lkm m) r fun ef => K ef
      | _ => False) = lkm m' id (fun bx => match bx with
      | .ar cs => bif isPar id then False else fzK (lkm m') r fun ef => K ((id, some (.fz cs)) :: ef)
      | .fz _ => fzK (lkm m') r fun ef => K ef
      | _ => False)
    rw [h0, hr]
theorem callSem_loc {F : FnT} {f : FuncId} {dst : Nat} {vs all : List V} (hin : ∀ v ∈ vs, v ∈ all) (hs : Same m m' all) {K : V → Eff → Prop} (h : callSem F f dst vs (lkm m) K) : callSem F f dst vs (lkm m') K := by
  unfold callSem at h ⊢
  cases hb : Nat.ble 100 vs.length with
  | true => simp [hb] at h
  | false =>
    simp only [hb, _root_.cond_false] at h ⊢
    refine argsK_loc vs 0 [] all hin hs _ _ (fun cs bs mm rd h1 h2 => ?_) h
    rw [fzK_loc rd h1] at h2
    exact h2
theorem srcK_loc {d : D} {y : V} {all : List V} (hin : y ∈ all) (hs : Same m m' all) : srcK (lkm m) d y = srcK (lkm m') d y := by
  funext K
  match y, hin with
  | .t _, _ => rfl
  | .c (.a _), _ => rfl
  | .c (.o l), hin =>
    cases d <;> first | rfl | skip
    show contentK (lkm m) l K = contentK (lkm m') l K
    rw [contentK_loc l fun id hid => hs.own hin id (by simpa [idsV, idsC] using hid)]
theorem appendSem_loc {dst : Nat} {ti : TI} {d : D} {s y : V} {all : List V} (h1 : s ∈ all) (h2 : y ∈ all) (hs : Same m m' all) : appendSem dst ti (lkm m) d s y = appendSem dst ti (lkm m') d s y := by
  funext K
  unfold appendSem
  rw [srcK_loc h2 hs]
  congr 1
  funext ys n
  match s, h1 with
  | .t _, _ => rfl
  | .c (.a _), _ => rfl
  | .c (.o l), h1 =>
    cases l <;> first | rfl | (simp only []; rw [hs.own h1 _ (by simp [idsV, idsC, idsL])])
theorem sliceSem_loc {T : TypeId → TI} {t : TypeId} {s : V} {lo hi : Option V} {all : List V} (h1 : s ∈ all) (hs : Same m m' all) : sliceSem T t s (lkm m) lo hi = sliceSem T t s (lkm m') lo hi := by
  funext K
  match s, h1 with
  | .t _, _ => rfl
  | .c (.a _), _ => rfl
  | .c (.o l), h1 =>
    unfold sliceSem
    cases (T t).d <;> cases l <;> first | rfl | (simp only []; rw [hs.own h1 _ (by simp [idsV, idsC, idsL])])
theorem loadSem_loc {ti : TI} {a : V} {all : List V} (h1 : a ∈ all) (hs : Same m m' all) : loadSem ti a (lkm m) = loadSem ti a (lkm m') := by
  funext K
  unfold loadSem
  match a, h1 with
  | .t _, _ => rfl
  | .c (.a _), _ => rfl
  | .c (.o l), h1 =>
    cases l <;> first | rfl | (simp only []; rw [hs.own h1 _ (by simp [idsV, idsC, idsL])])
theorem storeSem_loc {ti : TI} {a v : V} {all : List V} (h1 : a ∈ all) (h2 : v ∈ all) (hs : Same m m' all) {K : Eff → Prop} (h : storeSem ti a v (lkm m) K) : storeSem ti a v (lkm m') K := by
  unfold storeSem at h ⊢
  split
  · rename_i id off
    simp only at h
    have h0 := hs.own h1 id (by simp [idsV, idsC, idsL])
    rw [h0] at h
    refine Lin.mono (lkm_lin m' id) (fun bx hb => ?_) h
    obtain ⟨ls, hb', hi⟩ := hs.leaves h2 hb
    have : closeK (lkm m) ls = closeK (lkm m') ls := closeK_loc ls hi
    rw [this] at hb'
    match v, hb, hb' with
    | .c (.o l), hb, _ =>
      unfold leavesK at hb ⊢
      cases hu : isU l with
      | true => simp [hu] at hb
      | false =>
        simp only [hu, _root_.cond_false] at hb ⊢
        have : closeK (lkm m) [l] = closeK (lkm m') [l] := closeK_loc _ fun i hi => hs.own h2 i (by simpa [idsLs, idsV, idsC] using hi)
        rw [this] at hb
        exact hb
    | .c (.a ls), hb, _ =>
      unfold leavesK at hb ⊢
      cases hu : ls.any isU with
      | true => simp [hu] at hb
      | false =>
        simp only [hu, _root_.cond_false] at hb ⊢
        have : closeK (lkm m) ls = closeK (lkm m') ls := closeK_loc _ fun i hi => hs.own h2 i (by simpa [idsV, idsC] using hi)
        rw [this] at hb
        exact hb
    | .t _, hb, _ => exact hb.elim
  · rename_i hne
    split at h
    · rename_i id off; exact absurd rfl (hne id off)
    · exact h
theorem convSem_loc {T : TypeId → TI} {s d : TypeId} {dst : Nat} {a : V} {all : List V} (h1 : a ∈ all) (hs : Same m m' all) : convSem T s d dst a (lkm m) = convSem T s d dst a (lkm m') := by
  funext K
  unfold convSem
  match a, h1 with
  | .t _, _ => rfl
  | .c (.a _), _ => rfl
  | .c (.o l), h1 =>
    have hc : contentK (lkm m) l = contentK (lkm m') l := contentK_loc l fun id hid => hs.own h1 id (by simpa [idsV, idsC] using hid)
    simp only []
    cases l with
    | gw id n sz =>
      have hi : lkm m id = lkm m' id := hs.own h1 id (by simp [idsV, idsC, idsL])
      simp only [hc, hi]
    | _ => first | rfl | simp only [hc]
theorem idsLs_put (cs : List L) (off : Nat) (ls : List L) : ∀ id ∈ idsLs (putAt cs off ls), id ∈ idsLs cs ∨ id ∈ idsLs ls := by
  have mem : ∀ (l : List L) (id : Nat), id ∈ idsLs l ↔ ∃ q ∈ l, id ∈ idsL q := by
    intro l id
    induction l with
    | nil => simp [idsLs]
    | cons a r ih => simp [idsLs, ih]
  intro id hid
  rw [mem] at hid
  obtain ⟨q, hq, hid⟩ := hid
  simp only [putAt, List.mem_append] at hq
  rcases hq with (hq | hq) | hq
  · left; rw [mem]; exact ⟨q, List.mem_of_mem_take hq, hid⟩
  · right; rw [mem]; exact ⟨q, hq, hid⟩
  · left; rw [mem]; exact ⟨q, List.mem_of_mem_drop hq, hid⟩
theorem fillK_ids (l : List ((Nat × Nat) × V)) : ∀ (zs ls : List L), fillK l zs (fun a => a = ls) → ∀ id ∈ idsLs ls, id ∈ idsLs zs ∨ ∃ q ∈ l, id ∈ idsV q.2 := by
  induction l with
  | nil => intro zs ls h id hid; have : zs = ls := h; subst this; exact .inl hid
  | cons q r ih =>
    intro zs ls h id hid
    have h : leavesK q.2 fun ls' => bif Nat.beq ls'.length q.1.2 then putK zs q.1.1 ls' fun zs' => fillK r zs' fun a => a = ls else False := h
    obtain ⟨ls', h1, h2⟩ := (leavesK_lin q.2 _).1 h
    cases hb : Nat.beq ls'.length q.1.2 with
    | false => simp [hb] at h2
    | true =>
      simp only [hb, _root_.cond_true] at h2
      obtain ⟨_, h2⟩ := (putK_iff _ _ _ _).1 h2
      rcases ih _ _ h2 id hid with h3 | ⟨q', h3, h4⟩
      · rcases idsLs_put _ _ _ id h3 with h4 | h4
        · exact .inl h4
        · refine .inr ⟨q, List.mem_cons_self .., ?_⟩
          revert h1
          match q.2 with
          | .c (.o a) =>
            intro h1
            unfold leavesK at h1
            cases hu : isU a with
            | true => simp [hu] at h1
            | false => simp only [hu, _root_.cond_false] at h1; rw [← h1] at h4; simpa [idsLs, idsV, idsC] using h4
          | .c (.a a) =>
            intro h1
            unfold leavesK at h1
            cases hu : a.any isU with
            | true => simp [hu] at h1
            | false => simp only [hu, _root_.cond_false] at h1; rw [← h1] at h4; simpa [idsV, idsC] using h4
          | .t _ => exact fun h1 => h1.elim
      · exact .inr ⟨q', List.mem_cons_of_mem _ h3, h4⟩
theorem idsLs_rep (zs : List L) (h : idsLs zs = []) : ∀ n, idsLs (rep zs n) = [] := by
  have app : ∀ a b : List L, idsLs (a ++ b) = idsLs a ++ idsLs b := by
    intro a b
    induction a with
    | nil => rfl
    | cons x r ih => simp [idsLs, ih]
  intro n
  induction n with
  | zero => rfl
  | succ n ih => simp [rep, app, h, ih]
theorem buildSliceSem_loc {T : TypeId → TI} (hz : ∀ t e, (T t).d = .slice e → idsLs (T e).zero = []) {t : TypeId} {n dst : Nat} {ps : List (Nat × Operand)} {vs : List V} (hs : Same m m' vs) {K : V → Eff → Prop} (h : buildSliceSem T t n dst ps vs (lkm m) K) : buildSliceSem T t n dst ps vs (lkm m') K := by
  unfold buildSliceSem at h ⊢
  cases hd : (T t).d <;> simp only [hd] at h ⊢
  rename_i e
  cases hb : Nat.ble (n * (T e).size) 16777216 with
  | false => simp [hb] at h
  | true =>
    simp only [hb, Bool.not_true, _root_.cond_false] at h ⊢
    obtain ⟨l, h1, h2⟩ := (zipK_lin _ ps vs _).1 h
    refine (zipK_lin _ ps vs _).2 ⟨l, h1, ?_⟩
    obtain ⟨_, hl⟩ := zipK_elim _ _ _ _ h1
    rw [repK_eq] at h2 ⊢
    obtain ⟨ls, h3, h4⟩ := (fillK_lin l _ _).1 h2
    refine (fillK_lin l _ _).2 ⟨ls, h3, ?_⟩
    have hids : ∀ id ∈ idsLs ls, lkm m id = lkm m' id := by
      intro id hid
      rcases fillK_ids _ _ _ h3 id hid with h5 | ⟨q, h5, h6⟩
      · rw [idsLs_rep _ (hz t e hd)] at h5; cases h5
      · rw [← hl] at h5
        obtain ⟨q', h7, rfl⟩ := List.mem_map.1 h5
        exact hs.own (List.of_mem_zip h7).2 id h6
    rw [closeK_loc ls hids] at h4
    exact h4
theorem cloF_sub (n : Nat) : ∀ todo acc, ∀ id ∈ acc, id ∈ cloF m n todo acc := by
  induction n with
  | zero => exact fun _ _ _ h => h
  | succ n ih =>
    intro todo acc id hid
    cases todo with
    | nil => exact hid
    | cons a r =>
      show id ∈ (bif elemN a acc then cloF m n r acc else match m a with
        | some (.st cs) => cloF m n (idLsR cs r) (a :: acc)
        | _ => cloF m n r (a :: acc))
      cases elemN a acc with
      | true => exact ih r acc id hid
      | false =>
        rw [_root_.cond_false]
        split
        · exact ih _ _ id (List.mem_cons_of_mem _ hid)
        · exact ih _ _ id (List.mem_cons_of_mem _ hid)
theorem cloK_loc (n : Nat) : ∀ todo acc (K : List Nat → Prop), (∀ id ∈ cloF m n todo acc, m id = m' id) → cloK (lkm m) n todo acc K → K (cloF m n todo acc) ∧ cloK (lkm m') n todo acc K := by
  induction n with
  | zero => exact fun _ _ _ _ h => False.elim h
  | succ n ih =>
    intro todo acc K hd h
    cases todo with
    | nil => exact ⟨h, h⟩
    | cons a r =>
      have e : cloF m (n + 1) (a :: r) acc = (bif elemN a acc then cloF m n r acc else match m a with
        | some (.st cs) => cloF m n (idLsR cs r) (a :: acc)
        | _ => cloF m n r (a :: acc)) := rfl
      rw [e] at hd ⊢
      have h : (bif elemN a acc then cloK (lkm m) n r acc K else lkm m a fun bx => match bx with
        | .st cs => cloK (lkm m) n (idLsR cs r) (a :: acc) K
        | _ => cloK (lkm m) n r (a :: acc) K) := h
      show _ ∧ (bif elemN a acc then cloK (lkm m') n r acc K else lkm m' a fun bx => match bx with
        | .st cs => cloK (lkm m') n (idLsR cs r) (a :: acc) K
        | _ => cloK (lkm m') n r (a :: acc) K)
      cases hb : elemN a acc with
      | true => rw [hb] at hd h; exact ih r acc K hd h
      | false =>
        rw [hb, _root_.cond_false] at hd h
        simp only [_root_.cond_false]
        obtain ⟨bx, hbx, h⟩ := h
        rw [hbx] at hd ⊢
        cases bx with
        | st cs =>
          have h0 := hd a (cloF_sub n _ _ a List.mem_cons_self)
          obtain ⟨k1, k2⟩ := ih _ _ K hd h
          exact ⟨k1, _, by rw [← h0]; exact hbx, k2⟩
        | ar cs =>
          have h0 := hd a (cloF_sub n _ _ a List.mem_cons_self)
          obtain ⟨k1, k2⟩ := ih _ _ K hd h
          exact ⟨k1, _, by rw [← h0]; exact hbx, k2⟩
        | fz cs =>
          have h0 := hd a (cloF_sub n _ _ a List.mem_cons_self)
          obtain ⟨k1, k2⟩ := ih _ _ K hd h
          exact ⟨k1, _, by rw [← h0]; exact hbx, k2⟩
        | mp cs =>
          have h0 := hd a (cloF_sub n _ _ a List.mem_cons_self)
          obtain ⟨k1, k2⟩ := ih _ _ K hd h
          exact ⟨k1, _, by rw [← h0]; exact hbx, k2⟩
theorem inBsK_loc {r : List (Nat × Nat)} (l : List (Nat × Nat)) : (∀ q ∈ l, m q.1 = m' q.1) → inBsK (lkm m) r l = inBsK (lkm m') r l := by
  induction l with
  | nil => intro _; rfl
  | cons q l ih =>
    intro h
    obtain ⟨id, nm⟩ := q
    funext K
    show lkm m id (fun bx => renBK r bx fun bx' => inBsK (lkm m) r l fun bs => K ((nm, bx') :: bs)) = lkm m' id (fun bx => renBK r bx fun bx' => inBsK (lkm m') r l fun bs => K ((nm, bx') :: bs))
    rw [ih fun q hq => h q (List.mem_cons_of_mem _ hq), lkm_eq (h (id, nm) List.mem_cons_self)]
theorem callX_loc {F : FnTX} {f : FuncId} {dst : Nat} {todo : List Nat} {vs : List V} (hd : ∀ id ∈ cloF m 400 todo [], m id = m' id) {K : V → Eff → Prop} (h : callX F f dst todo vs (lkm m) K) : callX F f dst todo vs (lkm m') K := by
  unfold callX at h ⊢
  refine Lin.mono (compsK_lin vs) (fun cs h => ?_) h
  obtain ⟨ids, h1, h2⟩ := (cloK_lin (lkm_lin m) 400 todo [] _).1 h
  obtain ⟨k1, k2⟩ := cloK_loc 400 todo [] _ hd h1
  refine (cloK_lin (lkm_lin m') 400 todo [] _).2 ⟨ids, k2, ?_⟩
  subst k1
  obtain ⟨hc, h2⟩ := cond_false h2
  rw [hc, _root_.cond_false]
  obtain ⟨r, h3, h4⟩ := (pairK_lin _ _ _).1 h2
  refine (pairK_lin _ _ _).2 ⟨r, h3, ?_⟩
  obtain ⟨r', e, hr, _⟩ := pairK_elim h3
  subst e
  refine Lin.mono (renCsK_lin _ _) (fun cs' h => ?_) h4
  rw [← inBsK_loc r' fun q hq => hd q.1 (by rw [← hr]; exact List.mem_map.2 ⟨q, hq, rfl⟩)]
  exact h
theorem callR_loc {F : FnTX} {f : FuncId} {todo : List Nat} {vs : List V} (hd : ∀ id ∈ cloF m 400 todo [], m id = m' id) {K : V → Eff → Prop} (h : callR F f todo vs (lkm m) K) : callR F f todo vs (lkm m') K := by
  unfold callR at h ⊢
  refine Lin.mono (compsK_lin vs) (fun cs h => ?_) h
  obtain ⟨ids, h1, h2⟩ := (cloK_lin (lkm_lin m) 400 todo [] _).1 h
  obtain ⟨k1, k2⟩ := cloK_loc 400 todo [] _ hd h1
  refine (cloK_lin (lkm_lin m') 400 todo [] _).2 ⟨ids, k2, ?_⟩
  subst k1
  obtain ⟨hc, h2⟩ := cond_false h2
  rw [hc, _root_.cond_false]
  obtain ⟨r, h3, h4⟩ := (pairK_lin _ _ _).1 h2
  refine (pairK_lin _ _ _).2 ⟨r, h3, ?_⟩
  obtain ⟨r', e, hr, _⟩ := pairK_elim h3
  subst e
  refine Lin.mono (renCsK_lin _ _) (fun cs' h => ?_) h4
  rw [← inBsK_loc r' fun q hq => hd q.1 (by rw [← hr]; exact List.mem_map.2 ⟨q, hq, rfl⟩)]
  exact h
theorem callA_loc {F : Fs} {f : FuncId} {dst : Nat} {todo : List Nat} {vs : List V} (hd : ∀ id ∈ cloF m 400 todo [], m id = m' id) (hs : Same m m' vs) {K : V → Eff → Prop} (h : callA F f dst todo vs (lkm m) K) : callA F f dst todo vs (lkm m') K := by
  unfold callA at h ⊢
  cases hx : elemN f F.xs with
  | true =>
    rw [hx] at h
    rcases (show eitherK (callX F.FX f dst todo vs (lkm m) K) (eitherK (callR F.FX f todo vs (lkm m) K) (callSem F.F f dst vs (lkm m) K)) from h) with h | h | h
    · exact eitherK.l (callX_loc hd h)
    · exact eitherK.r (eitherK.l (callR_loc hd h))
    · exact eitherK.r (eitherK.r (callSem_loc (all := vs) (fun v hv => hv) hs h))
  | false => rw [hx] at h; exact callSem_loc (all := vs) (fun v hv => hv) hs h
theorem Same.sub {vs us : List V} (h : Same m m' vs) (hs : ∀ id ∈ us.flatMap idsV, id ∈ vs.flatMap idsV) : Same m m' us := fun id hid => by
  obtain ⟨i, hi, hid⟩ := List.mem_flatMap.1 hid
  exact h id (List.mem_flatMap.2 ⟨i, hs i hi, hid⟩)
theorem idsC_unflat {sh : List Nat} : ∀ {ls : List L} {cs : List C} {K : List C → Prop}, unflatK sh ls (fun a => a = cs) → ∀ c ∈ cs, ∀ id ∈ idsC c, ∃ l ∈ ls, id ∈ idsL l := by
  have mem : ∀ (l : List L) (id : Nat), id ∈ idsLs l → ∃ q ∈ l, id ∈ idsL q := by
    intro l id
    induction l with
    | nil => simp [idsLs]
    | cons a r ih =>
      intro h
      simp only [idsLs, List.mem_append] at h
      rcases h with h | h
      · exact ⟨a, List.mem_cons_self, h⟩
      · obtain ⟨q, hq, hh⟩ := ih h
        exact ⟨q, List.mem_cons_of_mem _ hq, hh⟩
  induction sh with
  | nil =>
    intro ls cs K h
    cases ls with
    | nil => have h : [] = cs := h; subst h; simp
    | cons _ _ => exact False.elim h
  | cons s r ih =>
    intro ls cs K h c hc id hid
    cases s with
    | zero =>
      cases ls with
      | nil => exact False.elim h
      | cons l q =>
        obtain ⟨cs', h1, h2⟩ := (unflatK_lin r q _).1 (show unflatK r q fun cs' => C.o l :: cs' = cs from h)
        subst h2
        rcases List.mem_cons.1 hc with rfl | hc
        · exact ⟨l, List.mem_cons_self, hid⟩
        · obtain ⟨l', k1, k2⟩ := ih (K := K) h1 c hc id hid
          exact ⟨l', List.mem_cons_of_mem _ k1, k2⟩
    | succ n =>
      obtain ⟨_, h⟩ := (cutK_iff _ _ _ _).1 (show cutK ls 0 n fun c => restK n ls fun q => unflatK r q fun cs' => C.a c :: cs' = cs from h)
      have h := restK_elim h
      obtain ⟨cs', h1, h2⟩ := (unflatK_lin r _ _).1 h
      subst h2
      rcases List.mem_cons.1 hc with rfl | hc
      · obtain ⟨l, k1, k2⟩ := mem _ id hid
        exact ⟨l, List.mem_of_mem_drop (List.mem_of_mem_take k1), k2⟩
      · obtain ⟨l', k1, k2⟩ := ih (K := K) h1 c hc id hid
        exact ⟨l', List.mem_of_mem_drop k1, k2⟩
theorem lookupSem_loc {T : TypeId → TI} {t : TypeId} {a k : V} {ok : Bool} (hs : ∀ id ∈ idsV a, m id = m' id) : lookupSem T t a k ok (lkm m) = lookupSem T t a k ok (lkm m') := by
  funext K
  unfold lookupSem
  split <;> try rfl
  split <;> try rfl
  rename_i id
  rw [lkm_eq (hs id (by simp [idsV, idsC, idsL]))]
theorem mapSetSem_loc {T : TypeId → TI} {t : TypeId} {a k v : V} {all : List V} (h1 : a ∈ all) (h2 : v ∈ all) (hs : Same m m' all) {K : Eff → Prop} (h : mapSetSem T t a k v (lkm m) K) : mapSetSem T t a k v (lkm m') K := by
  unfold mapSetSem at h ⊢
  cases htd : (T t).d <;> rw [htd] at h <;> try exact h
  rename_i kt e
  match a, h1, h with
  | .t _, _, h => exact h
  | .c (.a _), _, h => exact h
  | .c (.o la), h1, h =>
  cases la <;> try exact h
  rename_i id
  match k, h with
  | .t _, h => exact h
  | .c (.a _), h => exact h
  | .c (.o l), h =>
  simp only at h ⊢
  obtain ⟨hb, h⟩ := cond_false h
  rw [hb, _root_.cond_false, ← hs.own h1 id (by simp [idsV, idsC, idsL])]
  obtain ⟨bx, hbx, h⟩ := h
  refine ⟨bx, hbx, ?_⟩
  cases bx <;> try exact h
  obtain ⟨hl, h⟩ := h
  refine ⟨hl, ?_⟩
  have key : ∀ ls, (∀ id ∈ idsLs ls, lkm m id = lkm m' id) → closeK (lkm m) ls = closeK (lkm m') ls := fun ls hi => closeK_loc ls hi
  match v, h2, h with
  | .c (.o l'), h2, h =>
    obtain ⟨hu, h⟩ := cond_false (show bif isU l' then False else _ from h)
    show bif isU l' then False else _
    dsimp only at h ⊢
    rw [hu, _root_.cond_false, ← key [l'] fun i hi => hs.own h2 i (by simpa [idsLs, idsV, idsC] using hi)]
    exact h
  | .c (.a ls), h2, h =>
    obtain ⟨hu, h⟩ := cond_false (show bif ls.any isU then False else _ from h)
    show bif ls.any isU then False else _
    dsimp only at h ⊢
    rw [hu, _root_.cond_false, ← key ls fun i hi => hs.own h2 i (by simpa [idsV, idsC] using hi)]
    exact h
  | .t _, _, h => exact h.elim
theorem opSem_loc {T : TypeId → TI} (hz : ∀ t e, (T t).d = .slice e → idsLs (T e).zero = []) {F : Fs} {op : Op} {dst : Nat} {vs : List V} (hs : Same m m' vs) (hd : ∀ id ∈ cloF m 400 (idVsR vs []) [], m id = m' id) {K : V → Eff → Prop} (h : opSem T F op dst vs (lkm m) K) : opSem T F op dst vs (lkm m') K := by
  cases op
  case load t a =>
    match vs, h, hs with
    | [a], h, hs =>
      change loadSem (T t) a (lkm m) _ at h
      change loadSem (T t) a (lkm m') _
      rwa [← loadSem_loc (List.mem_singleton.2 rfl) hs]
  case store t a v =>
    match vs, h, hs with
    | [a, v], h, hs => exact storeSem_loc (all := [a, v]) (by simp) (by simp) hs h
  case convert s d a =>
    match vs, h, hs with
    | [a], h, hs =>
      change convSem T s d dst a (lkm m) K at h
      change convSem T s d dst a (lkm m') K
      rwa [← convSem_loc (List.mem_singleton.2 rfl) hs]
  case lookup t a b ok =>
    match vs, h, hs with
    | [a, b], h, hs =>
      change lookupSem T t a b ok (lkm m) (fun v => K v []) at h
      change lookupSem T t a b ok (lkm m') (fun v => K v [])
      rwa [← lookupSem_loc fun id hid => hs id (touch_own (v := a) (by simp) hid)]
  case mapUpdate t a b c =>
    match vs, h, hs with
    | [a, b, c], h, hs => exact mapSetSem_loc (all := [a, b, c]) (by simp) (by simp) hs h
  case slice t a lo hi mx =>
    cases mx with
    | some _ => exact h
    | none =>
      have key : ∀ (s : V) (lo hi : Option V), s ∈ vs → sliceSem T t s (lkm m) lo hi = sliceSem T t s (lkm m') lo hi := fun s lo hi hin => sliceSem_loc hin hs
      cases lo with
      | none => cases hi with
        | none =>
          match vs, h, key with
          | [s], h, key =>
            change sliceSem T t s (lkm m) none none (fun v => K v []) at h
            change sliceSem T t s (lkm m') none none (fun v => K v [])
            rwa [← key _ _ _ (by simp)]
        | some _ =>
          match vs, h, key with
          | [s, .c (.o (.i k b))], h, key =>
            change eitherK (sliceSem T t s (lkm m) none (some (.c (.o (.i k b)))) (fun v => K v [])) (takeSem T t dst s b (lkm m) K) at h
            change eitherK (sliceSem T t s (lkm m') none (some (.c (.o (.i k b)))) (fun v => K v [])) (takeSem T t dst s b (lkm m') K)
            rcases h with h | h
            · exact .l (by rwa [← key _ _ _ (by simp)])
            · refine .r ?_
              unfold takeSem at h ⊢
              match s, h, hs with
              | .t _, h, _ => exact h.elim
              | .c (.a _), h, _ => exact h.elim
              | .c (.o l), h, hs =>
                simp only at h ⊢
                generalize (T t).d = td at h
                cases td <;> cases l <;> try exact h.elim
                rename_i e id n sz
                have h0 := hs.own (v := .c (.o (.gw id n sz))) (by simp) id (by simp [idsV, idsC, idsL])
                simp only at h ⊢
                rw [h0] at h
                exact h
      | some _ => cases hi with
        | none =>
          match vs, h, key with
          | [s, .c (.o (.i k b))], h, key =>
            change sliceSem T t s (lkm m) (some (.c (.o (.i k b)))) none (fun v => K v []) at h
            change sliceSem T t s (lkm m') (some (.c (.o (.i k b)))) none (fun v => K v [])
            rwa [← key _ _ _ (by simp)]
        | some _ =>
          match vs, h, key with
          | [s, .c (.o (.i k a)), .c (.o (.i k' b))], h, key =>
            change sliceSem T t s (lkm m) (some (.c (.o (.i k a)))) (some (.c (.o (.i k' b)))) (fun v => K v []) at h
            change sliceSem T t s (lkm m') (some (.c (.o (.i k a)))) (some (.c (.o (.i k' b)))) (fun v => K v [])
            rwa [← key _ _ _ (by simp)]
  case call c =>
    obtain ⟨callee, args, ats⟩ := c
    cases callee with
    | invoke r n => exact h.elim
    | value f =>
      have tail : ∀ (v : V) (us : List V), vs = v :: us → Same m m' us := fun v us e => hs.sub fun id hid => by
        subst e
        obtain ⟨u, h1, h2⟩ := List.mem_flatMap.1 hid
        exact List.mem_flatMap.2 ⟨u, List.mem_cons_of_mem _ h1, h2⟩
      cases f with
      | func f =>
        match vs, h, hd, tail with
        | v :: us, h, hd, tail => exact callA_loc hd (tail v us rfl) h
      | tmp t =>
        match vs, h, hd, hs, tail with
        | .t _ :: _, h, _, _, _ => exact h.elim
        | .c (.a _) :: _, h, _, _, _ => exact h.elim
        | [], h, _, _, _ => exact h.elim
        | .c (.o l) :: us, h, hd, hs, tail =>
          cases l with
          | f f => exact callA_loc hd (tail _ us rfl) h
          | fc f n sh ls =>
            obtain ⟨hf, h⟩ := cond_false (show bif ls.any isFc then False else unflatK sh ls fun cs => closK n cs us fun us' => callA F f dst (idVsR (.c (.o (.fc f n sh ls)) :: us) []) us' (lkm m) K from h)
            show bif ls.any isFc then False else unflatK sh ls fun cs => closK n cs us fun us' => callA F f dst (idVsR (.c (.o (.fc f n sh ls)) :: us) []) us' (lkm m') K
            rw [hf, _root_.cond_false]
            obtain ⟨cs, h1, h⟩ := (unflatK_lin sh ls _).1 h
            refine (unflatK_lin sh ls _).2 ⟨cs, h1, ?_⟩
            obtain ⟨us', h2, h⟩ := (closK_lin n cs us _).1 h
            refine (closK_lin n cs us _).2 ⟨us', h2, ?_⟩
            obtain ⟨_, h3⟩ := closK_elim h2
            refine callA_loc hd (hs.sub fun id hid => ?_) h
            rw [← h3] at hid
            have inC : ∀ c ∈ cs, ∀ id ∈ idsC c, id ∈ (V.c (C.o (L.fc f n sh ls)) :: us).flatMap idsV := by
              intro c hc id hid
              obtain ⟨l, k1, k2⟩ := idsC_unflat (K := fun _ => True) h1 c hc id hid
              have : isFc l = false := by simpa using List.any_eq_false.1 hf l k1
              have e : idsL l = idsL0 l := by cases l <;> first | rfl | cases this
              rw [e] at k2
              exact List.mem_flatMap.2 ⟨_, List.mem_cons_self, idsL0s_mem k1 id k2⟩
            obtain ⟨u, g1, g2⟩ := List.mem_flatMap.1 hid
            rcases List.mem_append.1 g1 with g1 | g1
            · obtain ⟨c, hc, rfl⟩ := List.mem_map.1 g1
              exact inC c (List.mem_of_mem_take hc) id g2
            · rcases List.mem_append.1 g1 with g1 | g1
              · exact List.mem_flatMap.2 ⟨u, List.mem_cons_of_mem _ g1, g2⟩
              · obtain ⟨c, hc, rfl⟩ := List.mem_map.1 g1
                exact inC c (List.mem_of_mem_drop hc) id g2
          | _ => exact h.elim
      | _ => exact h.elim
    | builtin b =>
      by_cases hb : b = .append
      · subst hb
        match vs, h, hs with
        | [s, y], h, hs =>
          have key : ∀ d e, appendSem dst (T e) (lkm m) d s y K → appendSem dst (T e) (lkm m') d s y K := fun d e h => by rwa [← appendSem_loc (by simp) (by simp) hs]
          change (match ats.toList with
            | [t, u] => match (T t).d with
              | .slice e => match (T u).d with
                | .int _ => zeroAppend dst (T e) s y K
                | d => appendSem dst (T e) (lkm m) d s y K
              | _ => False
            | _ => False) at h
          change (match ats.toList with
            | [t, u] => match (T t).d with
              | .slice e => match (T u).d with
                | .int _ => zeroAppend dst (T e) s y K
                | d => appendSem dst (T e) (lkm m') d s y K
              | _ => False
            | _ => False)
          match ats.toList, h with
          | [t, u], h =>
            simp only at h ⊢
            generalize (T t).d = td at h
            cases td <;> first | exact h.elim | skip
            simp only at h ⊢
            generalize (T u).d = ud at h
            cases ud <;> first | exact h | exact key _ _ h
      · cases b <;> first | exact h | exact absurd rfl hb
  all_goals first
    | exact h
    | exact buildSliceSem_loc hz hs h
theorem loadSem_loc1 {ti : TI} {a : V} (hs : ∀ id ∈ idsV a, m id = m' id) : loadSem ti a (lkm m) = loadSem ti a (lkm m') := by
  funext K
  unfold loadSem
  match a with
  | .t _ => rfl
  | .c (.a _) => rfl
  | .c (.o l) =>
    cases l <;> first | rfl | (simp only []; rw [lkm_eq (hs _ (by simp [idsV, idsC, idsL]))])
theorem opSem_loc' {T : TypeId → TI} (hz : ∀ t e, (T t).d = .slice e → idsLs (T e).zero = []) {F : Fs} {op : Op} {dst : Nat} {vs : List V} (hs : ∀ id ∈ touchO op m vs, m id = m' id) {K : V → Eff → Prop} (h : opSem T F op dst vs (lkm m) K) : opSem T F op dst vs (lkm m') K := by
  cases hb : blind op with
  | true =>
    cases op
    case call c => exact Bool.noConfusion hb
    all_goals first | exact h | exact absurd hb (by simp [blind])
  | false =>
    cases hb2 : shallow op with
    | false => exact opSem_loc hz (fun id hid => hs id (by simp only [touchO, hb, hb2, cond_false]; exact List.mem_append_left _ hid)) (fun id hid => hs id (by simp only [touchO, hb, hb2, cond_false]; exact List.mem_append_right _ hid)) h
    | true =>
      cases op <;> first | (exact absurd hb2 (fun h => Bool.noConfusion h)) | skip
      case load =>
        match vs, h, hs with
        | [a], h, hs =>
          change loadSem (T _) a (lkm m) _ at h
          change loadSem (T _) a (lkm m') _
          rwa [← loadSem_loc1 (m := m) (m' := m') (fun id hid => hs id (by simp only [touchO, hb, hb2, cond_false, cond_true]; simpa using hid))]
      case lookup t x y ok =>
        match vs, h, hs with
        | [a, b], h, hs =>
          change lookupSem T t a b ok (lkm m) (fun v => K v []) at h
          change lookupSem T t a b ok (lkm m') (fun v => K v [])
          rwa [← lookupSem_loc fun id hid => hs id (by simp only [touchO, hb, hb2, cond_false, cond_true]; simpa using Or.inl hid)]
end
end Go.Sx

namespace Go.Sx
def Eqv (v v' : V) : Prop := ∀ (B : Nat → Prop) (w : World) (μ : Mu) (u : Value), RelV B w μ v u → RelV B w μ v' u
theorem Eqv.refl (v : V) : Eqv v v := fun _ _ _ _ h => h
theorem Eqv.trans {a b c : V} (h : Eqv a b) (k : Eqv b c) : Eqv a c := fun B w μ u hu => k B w μ u (h B w μ u hu)
structure Ev where
  want : Bool
  e' : Env
  vs : List V
  v : V
  ef : Eff
def dd (o : Oper) : Nat := o.dst.getD 99998
structure Fact (G : Par) (all : List Oper) (o : Oper) (ev : Ev) (eB : Nat → V) (mB : Nat → Option Bx) (inf : List Nat × List Nat) : Prop where
  dst : dstOk G.N o.dst = true
  none : o.guard = none → ev.want = true
  some : ∀ j b, o.guard = some (j, b) → ∀ B w μ u, RelV B w μ (eB (dstOf all j)) u → (∃ t, u = .bool t ∧ ev.want = (t == b)) ∨ (u = undef ∧ ev.want = false)
  env : ∀ t, Eqv (eB t) (lookE ev.e' t)
  op : ev.want = true → ev.vs = o.op.operands.toList.map (operandV ev.e') ∧ opSem G.T G.F o.op (dd o) ev.vs (lkm mB) (fun v ef => v = ev.v ∧ ef = ev.ef) ∧
    (∀ q ∈ ev.ef, (mB q.1).isSome = true ∨ (creates o.op = true ∧ q.1 % 10000 = dd o % 10000)) ∧ inf = (touchO o.op mB ev.vs ++ ev.ef.map (·.1), ev.ef.map (·.1))
  skip : ev.want = false → ev.v = .t [] ∧ ev.ef = [] ∧ inf = ([], [])
def over {κ β : Type} (b : κ → β) (u : κ → Option β) : κ → β := fun k => (u k).getD (b k)
def preF {κ β : Type} : List (κ → Option β) → (κ → β) → κ → β
  | [], b => b
  | u :: us, b => preF us (over b u)
def upE (o : Oper) (ev : Ev) : Nat → Option V := fun t => if o.dst = some t then some ev.v else none
def effL : Eff → Nat → Option (Option Bx)
  | [], _ => none
  | (k, b) :: r, id => if k = id then some b else effL r id
def upM (ev : Ev) : Nat → Option (Option Bx) := effL ev.ef
theorem applyF_eq (m : Nat → Option Bx) (ef : Eff) : applyF m ef = over m (effL ef) := by
  funext id
  induction ef with
  | nil => rfl
  | cons q r ih =>
    obtain ⟨k, b⟩ := q
    unfold applyF over effL
    by_cases h : k = id
    · simp [h]
    · simp only [h, if_false]; exact ih
theorem effL_none {ef : Eff} {id : Nat} (h : id ∉ ef.map (·.1)) : effL ef id = none := by
  induction ef with
  | nil => rfl
  | cons q r ih =>
    obtain ⟨k, b⟩ := q
    simp only [List.map_cons, List.mem_cons, not_or] at h
    simp [effL, Ne.symm h.1, ih h.2]
theorem effL_mem {ef : Eff} {id : Nat} {b : Option Bx} (h : effL ef id = some b) : id ∈ ef.map (·.1) := by
  by_cases hm : id ∈ ef.map (·.1)
  · exact hm
  · rw [effL_none hm] at h; cases h
def upEs : List Oper → List Ev → List (Nat → Option V)
  | o :: os, ev :: evs => upE o ev :: upEs os evs
  | _, _ => []
def upMs : List Ev → List (Nat → Option (Option Bx)) := List.map upM
theorem guard_out {all : List Oper} {e e' : Env} {g : Option (Nat × Bool)} {want : Bool} (h : guardK all e g fun w e => w = want ∧ e = e') :
    (g = none → want = true) ∧ (∀ j b, g = some (j, b) → ∀ B w μ u, RelV B w μ (lookE e (dstOf all j)) u → (∃ t, u = .bool t ∧ want = (t == b)) ∨ (u = undef ∧ want = false)) ∧ ∀ t, Eqv (lookE e t) (lookE e' t) := by
  match g, h with
  | none, h =>
    obtain ⟨rfl, rfl⟩ := h
    exact ⟨fun _ => rfl, (by intro j b h; cases h), fun t => Eqv.refl _⟩
  | some (j, b), h =>
    have h : getK e (dstOf all j) _ := h
    rw [getK_eq] at h
    refine ⟨(by intro h; cases h), ?_⟩
    generalize hv : lookE e (dstOf all j) = v at h
    have fin : (∀ (B : Nat → Prop) (w : World) (μ : Mu) (u : Value), RelV B w μ v u → (∃ t, u = .bool t ∧ want = (t == b)) ∨ (u = undef ∧ want = false)) → (∀ t, Eqv (lookE e t) (lookE e' t)) →
        (∀ j' b', some (j, b) = some (j', b') → ∀ (B : Nat → Prop) (w : World) (μ : Mu) (u : Value), RelV B w μ (lookE e (dstOf all j')) u → (∃ t, u = .bool t ∧ want = (t == b')) ∨ (u = undef ∧ want = false)) ∧ ∀ t, Eqv (lookE e t) (lookE e' t) := by
      intro h1 h2
      refine ⟨fun j' b' hj => ?_, h2⟩
      cases hj
      rw [hv]; exact h1
    match v, h with
    | .t [], h =>
      obtain ⟨rfl, rfl⟩ := h
      exact fin (fun B w μ u hu => .inr ⟨undef_rel hu, rfl⟩) (fun t => Eqv.refl _)
    | .t (_ :: _), h => exact h.elim
    | .c (.a _), h => exact h.elim
    | .c (.o l), h =>
      cases l <;> first | exact h.elim | skip
      · rename_i x
        cases x with
        | true =>
          obtain ⟨rfl, rfl⟩ := h.1 rfl
          refine fin (fun B w μ u hu => ?_) (fun t => ?_)
          · have hu : RelL B w μ (.b true) u := hu
            cases hu; exact .inl ⟨true, rfl, by cases b <;> rfl⟩
          · rw [lookE_cons]
            split
            · rename_i ht; subst ht; rw [hv]
              intro B w μ u hu
              have hu : RelL B w μ (.b true) u := hu
              cases hu; exact RelL.tt
            · exact Eqv.refl _
        | false =>
          obtain ⟨rfl, rfl⟩ := h.2 rfl
          refine fin (fun B w μ u hu => ?_) (fun t => ?_)
          · have hu : RelL B w μ (.b false) u := hu
            cases hu; exact .inl ⟨false, rfl, by cases b <;> rfl⟩
          · rw [lookE_cons]
            split
            · rename_i ht; subst ht; rw [hv]
              intro B w μ u hu
              have hu : RelL B w μ (.b false) u := hu
              cases hu; exact RelL.ff
            · exact Eqv.refl _
      · obtain ⟨rfl, rfl⟩ := h
        refine fin (fun B w μ u hu => ?_) (fun t => Eqv.refl _)
        have hu : RelL B w μ .tt u := hu
        cases hu; exact .inl ⟨true, rfl, by cases b <;> rfl⟩
      · obtain ⟨rfl, rfl⟩ := h
        refine fin (fun B w μ u hu => ?_) (fun t => Eqv.refl _)
        have hu : RelL B w μ .ff u := hu
        cases hu; exact .inl ⟨false, rfl, by cases b <;> rfl⟩
theorem lookE_put (e : Env) (d : Option Nat) (v : V) (t : Nat) : lookE (putE e d v) t = if d = some t then v else lookE e t := by
  cases d with
  | none => simp [putE]
  | some d => simp [putE, lookE_cons]
theorem ops_trace {G : Par} {all : List Oper} (ops : List Oper) : ∀ (st : St) (inf : Info) (K : St → Info → Prop) (eB : Nat → V), (∀ t, Eqv (eB t) (lookE st.e t)) → opsK G all ops st inf K →
    ∃ (evs : List Ev) (new : Info) (st' : St), K st' (new.reverse ++ inf) ∧ evs.length = ops.length ∧ new.length = ops.length ∧
      (∀ (i : Nat) o ev n, ops[i]? = some o → evs[i]? = some ev → new[i]? = some n → Fact G all o ev (preF ((upEs ops evs).take i) eB) (preF ((upMs evs).take i) (boxOf st.x)) n) ∧
      (∀ t, Eqv (preF (upEs ops evs) eB t) (lookE st'.e t)) ∧ boxOf st'.x = preF (upMs evs) (boxOf st.x) := by
  induction ops with
  | nil => exact fun st inf K eB he h => ⟨[], [], st, h, rfl, rfl, by simp, he, rfl⟩
  | cons o r ih =>
    intro st inf K eB he h
    rw [opsK_cons] at h
    cases hd : dstOk G.N o.dst with
    | false => rw [hd] at h; exact h.elim
    | true =>
      rw [hd] at h
      obtain ⟨⟨want, e'⟩, hg, h⟩ := (guardK_lin all st.e o.guard (fun p => match p.1 with
        | true => operandsK p.2 o.op.operands.toList fun vs => opSem G.T G.F o.op (o.dst.getD 99998) vs (lookK st.x) fun v ef =>
            bif !efOk (creates o.op) st.x (o.dst.getD 99998) ef then False else applyK ef st.x fun x => opsK G all r ⟨putE p.2 o.dst v, x⟩ ((touchO o.op (boxOf st.x) vs ++ ef.map (·.1), ef.map (·.1)) :: inf) K
        | false => opsK G all r ⟨putE p.2 o.dst (.t []), st.x⟩ (([], []) :: inf) K)).1 h
      have hg : guardK all st.e o.guard fun w e => w = want ∧ e = e' := Lin.mono (X := fun K' : Bool × Env → Prop => guardK all st.e o.guard fun a b => K' (a, b)) (guardK_lin all st.e o.guard) (K := fun p => p = (want, e')) (K' := fun p => p.1 = want ∧ p.2 = e') (fun p hp => by subst hp; exact ⟨rfl, rfl⟩) hg
      obtain ⟨g1, g2, g3⟩ := guard_out hg
      have henv : ∀ t, Eqv (eB t) (lookE e' t) := fun t => (he t).trans (g3 t)
      have go : ∀ (ev : Ev) (n : List Nat × List Nat) (x' : Bxs), ev.want = want → ev.e' = e' → (∀ id, boxOf x' id = applyF (boxOf st.x) ev.ef id) →
          opsK G all r ⟨putE e' o.dst ev.v, x'⟩ (n :: inf) K → Fact G all o ev eB (boxOf st.x) n →
          ∃ (evs : List Ev) (new : Info) (st' : St), K st' (new.reverse ++ inf) ∧ evs.length = (o :: r).length ∧ new.length = (o :: r).length ∧
            (∀ (i : Nat) o' ev n, (o :: r)[i]? = some o' → evs[i]? = some ev → new[i]? = some n → Fact G all o' ev (preF ((upEs (o :: r) evs).take i) eB) (preF ((upMs evs).take i) (boxOf st.x)) n) ∧
            (∀ t, Eqv (preF (upEs (o :: r) evs) eB t) (lookE st'.e t)) ∧ boxOf st'.x = preF (upMs evs) (boxOf st.x) := by
        intro ev n x' _ he' hx' hk hf
        have hbase : ∀ t, Eqv (over eB (upE o ev) t) (lookE (putE e' o.dst ev.v) t) := by
          intro t
          rw [lookE_put]
          unfold over upE
          by_cases ht : o.dst = some t
          · simp [ht]; exact Eqv.refl _
          · simp only [ht, if_false, Option.getD_none]; exact henv t
        have hx2 : boxOf x' = over (boxOf st.x) (upM ev) := by
          funext id
          rw [hx' id, applyF_eq]; rfl
        obtain ⟨evs, new, st', k1, k2, k3, k4, k5, k6⟩ := ih ⟨putE e' o.dst ev.v, x'⟩ (n :: inf) K _ hbase hk
        refine ⟨ev :: evs, n :: new, st', ?_, by simp [k2], by simp [k3], ?_, ?_, ?_⟩
        · simpa using k1
        · intro i o' ev' n' h1 h2 h3
          cases i with
          | zero =>
            simp only [List.getElem?_cons_zero, Option.some.injEq] at h1 h2 h3
            subst h1; subst h2; subst h3
            exact hf
          | succ i =>
            simp only [List.getElem?_cons_succ] at h1 h2 h3
            have := k4 i o' ev' n' h1 h2 h3
            simp only [hx2] at this
            exact this
        · exact k5
        · rw [k6, hx2]; rfl
      cases want with
      | false =>
        exact go ⟨false, e', [], .t [], []⟩ ([], []) st.x rfl rfl (fun id => rfl) h ⟨hd, fun hn => g1 hn, fun j b hj B w μ u hu => g2 j b hj B w μ u (he _ B w μ u hu), henv, fun hc => (by cases hc), fun _ => ⟨rfl, rfl, rfl⟩⟩
      | true =>
        simp only [operandsK_eq, lookK_eq] at h
        obtain ⟨⟨v, ef⟩, ho, h⟩ := (opSem_lin G.T G.F o.op (o.dst.getD 99998) (o.op.operands.toList.map (operandV e')) (lkm_lin (boxOf st.x)) (fun p =>
            bif !efOk (creates o.op) st.x (o.dst.getD 99998) p.2 then False else applyK p.2 st.x fun x => opsK G all r ⟨putE e' o.dst p.1, x⟩ ((touchO o.op (boxOf st.x) (o.op.operands.toList.map (operandV e')) ++ p.2.map (·.1), p.2.map (·.1)) :: inf) K)).1 h
        simp only at h
        have ho : opSem G.T G.F o.op (dd o) (o.op.operands.toList.map (operandV e')) (lkm (boxOf st.x)) fun v' ef' => v' = v ∧ ef' = ef :=
          Lin.mono (X := fun K' : V × Eff → Prop => opSem G.T G.F o.op (o.dst.getD 99998) (o.op.operands.toList.map (operandV e')) (lkm (boxOf st.x)) fun a b => K' (a, b)) (opSem_lin G.T G.F o.op _ _ (lkm_lin (boxOf st.x))) (K := fun p => p = (v, ef)) (K' := fun p => p.1 = v ∧ p.2 = ef) (fun p hp => by subst hp; exact ⟨rfl, rfl⟩) ho
        cases hef : efOk (creates o.op) st.x (o.dst.getD 99998) ef with
        | false => simp only [hef] at h; exact h.elim
        | true =>
          simp only [hef, Bool.not_true, _root_.cond_false] at h
          obtain ⟨y, hy, h⟩ := applyK_elim _ _ _ h
          refine go ⟨true, e', _, v, ef⟩ _ y rfl rfl hy h ⟨hd, fun hn => rfl, fun j b hj B w μ u hu => g2 j b hj B w μ u (he _ B w μ u hu), henv, fun _ => ⟨rfl, ho, fun q hq => ?_, rfl⟩, fun hc => (by cases hc)⟩
          have := List.all_eq_true.1 hef q hq
          simp only [Bool.or_eq_true, Bool.and_eq_true] at this
          rcases this with h1 | h1
          · exact .inl h1
          · exact .inr ⟨h1.1, Nat.eq_of_beq_eq_true h1.2⟩
end Go.Sx

namespace Go.Sx
section
variable {κ β : Type}
def foldS (S : Nat → Bool) : List (κ → Option β) → Nat → (κ → β) → κ → β
  | [], _, b => b
  | u :: us, i, b => foldS S us (i + 1) (if S i then over b u else b)
theorem foldS_congr {S S' : Nat → Bool} {k : κ} (us : List (κ → Option β)) : ∀ (i : Nat) (b b' : κ → β), b k = b' k → (∀ (j : Nat) u, us[j]? = some u → u k ≠ none → S (i + j) = S' (i + j)) → foldS S us i b k = foldS S' us i b' k := by
  induction us with
  | nil => exact fun i b b' h _ => h
  | cons u us ih =>
    intro i b b' hb h
    refine ih (i + 1) _ _ ?_ fun j u' h1 h2 => ?_
    · have h0 := h 0 u rfl
      cases hu : u k with
      | none =>
        have e1 : over b u k = b k := by simp [over, hu]
        have e2 : over b' u k = b' k := by simp [over, hu]
        by_cases s1 : S i = true <;> by_cases s2 : S' i = true <;> simp [s1, s2, e1, e2, hb]
      | some x =>
        have h0 := h0 (by simp [hu])
        simp only [Nat.add_zero] at h0
        rw [h0]
        by_cases s2 : S' i = true
        · simp [s2, over, hu]
        · simp [s2, hb]
    · have := h (j + 1) u' (by simpa using h1) h2
      rwa [show i + (j + 1) = i + 1 + j by omega] at this
theorem foldS_all {S : Nat → Bool} (us : List (κ → Option β)) : ∀ (i : Nat) (b : κ → β), (∀ j, j < us.length → S (i + j) = true) → foldS S us i b = preF us b := by
  induction us with
  | nil => exact fun i b _ => rfl
  | cons u us ih =>
    intro i b h
    have h0 := h 0 (by simp)
    simp only [Nat.add_zero] at h0
    show foldS S us (i + 1) (if S i then over b u else b) = preF us (over b u)
    rw [h0, if_pos rfl]
    exact ih _ _ fun j hj => by
      have := h (j + 1) (by simp; omega)
      rwa [show i + (j + 1) = i + 1 + j by omega] at this
theorem foldS_none {S : Nat → Bool} (us : List (κ → Option β)) : ∀ (i : Nat) (b : κ → β), (∀ j, j < us.length → S (i + j) = false) → foldS S us i b = b := by
  induction us with
  | nil => exact fun i b _ => rfl
  | cons u us ih =>
    intro i b h
    have h0 := h 0 (by simp)
    simp only [Nat.add_zero] at h0
    show foldS S us (i + 1) (if S i then over b u else b) = b
    rw [h0, if_neg (by simp)]
    exact ih _ _ fun j hj => by
      have := h (j + 1) (by simp; omega)
      rwa [show i + (j + 1) = i + 1 + j by omega] at this
theorem foldS_lt (us : List (κ → Option β)) : ∀ (n i : Nat) (b : κ → β), foldS (fun j => decide (j < i + n)) us i b = preF (us.take n) b := by
  induction us with
  | nil => intro n i b; simp [foldS, preF]
  | cons u us ih =>
    intro n i b
    cases n with
    | zero =>
      rw [foldS_none _ _ _ (fun j _ => by simp)]
      simp [preF]
    | succ n =>
      show foldS _ us (i + 1) (if decide (i < i + (n + 1)) then over b u else b) = preF (us.take n) (over b u)
      rw [if_pos (by simp)]
      have := ih n (i + 1) (over b u)
      rwa [show i + 1 + n = i + (n + 1) by omega] at this
theorem foldS_last {S : Nat → Bool} {k : κ} {x : β} (us : List (κ → Option β)) : ∀ (j0 i : Nat) (b : κ → β) (u : κ → Option β), us[j0]? = some u → u k = some x → S (i + j0) = true → (∀ (j : Nat) u', j0 < j → us[j]? = some u' → u' k ≠ none → S (i + j) = false) → foldS S us i b k = x := by
  induction us with
  | nil => intro j0 i b u h; simp at h
  | cons u us ih =>
    intro j0 i b u0 h1 h2 h3 h4
    cases j0 with
    | zero =>
      simp only [List.getElem?_cons_zero, Option.some.injEq] at h1
      subst h1
      simp only [Nat.add_zero] at h3
      show foldS S us (i + 1) (if S i then over b u else b) k = x
      rw [h3, if_pos rfl]
      have : foldS S us (i + 1) (over b u) k = foldS (fun _ => false) us (i + 1) (over b u) k := foldS_congr us _ _ _ rfl fun j u' g1 g2 => by
        have := h4 (j + 1) u' (by omega) (by simpa using g1) g2
        rw [show i + 1 + j = i + (j + 1) by omega]; exact this
      rw [this, foldS_none us _ _ fun _ _ => rfl]
      simp [over, h2]
    | succ j0 =>
      refine ih j0 (i + 1) _ u0 (by simpa using h1) h2 (by rw [show i + 1 + j0 = i + (j0 + 1) by omega]; exact h3) fun j u' g0 g1 g2 => ?_
      have := h4 (j + 1) u' (by omega) (by simpa using g1) g2
      rw [show i + 1 + j = i + (j + 1) by omega]; exact this
end
theorem pairsB_spec {ρ : Type} {f : ρ → ρ → Bool} (rs : List ρ) : ∀ (E : List (Nat × ρ)) (j0 : Nat) (ms : List Nat), pairsB f E j0 ms rs = true →
    (∀ (p : Nat × ρ) (j : Nat) rj, p ∈ E → rs[j]? = some rj → (nthN ms j).testBit p.1 = true ∨ f p.2 rj = true) ∧
    (∀ (i j : Nat) ri rj, i < j → rs[i]? = some ri → rs[j]? = some rj → (nthN ms j).testBit (j0 + i) = true ∨ f ri rj = true) := by
  induction rs with
  | nil => intro E j0 ms _; simp
  | cons r rs ih =>
    intro E j0 ms h
    match ms, h with
    | [], h => cases h
    | m :: ms, h =>
      simp only [pairsB, Bool.and_eq_true] at h
      obtain ⟨h1, h2⟩ := h
      obtain ⟨k1, k2⟩ := ih _ _ _ h2
      have hall := List.all_eq_true.1 h1
      refine ⟨fun p j rj hp hj => ?_, fun i j ri rj hij hi hj => ?_⟩
      · cases j with
        | zero =>
          simp only [List.getElem?_cons_zero, Option.some.injEq] at hj
          subst hj
          have := hall p hp
          simpa [nthN] using this
        | succ j => exact k1 p j rj (List.mem_cons_of_mem _ hp) (by simpa using hj)
      · cases j with
        | zero => omega
        | succ j =>
          simp only [List.getElem?_cons_succ] at hj
          cases i with
          | zero =>
            simp only [List.getElem?_cons_zero, Option.some.injEq] at hi
            subst hi
            have := k1 (j0, r) j rj (List.mem_cons_self ..) hj
            simpa [nthN] using this
          | succ i =>
            have := k2 i j ri rj (by omega) (by simpa using hi) hj
            rw [show j0 + (i + 1) = j0 + 1 + i by omega]
            exact this
theorem edgesN_bit (ms : List Nat) (es : List Edge) (i : Nat) (h : (edgesN ms es).testBit i = true) : ∃ e ∈ es, bindsB e = true ∧ (e.on = i ∨ (nthN ms e.on).testBit i = true) := by
  induction es with
  | nil => simp [edgesN] at h
  | cons e r ih =>
    simp only [edgesN, Nat.testBit_or, Bool.or_eq_true] at h
    rcases h with h | h
    · cases hb : bindsB e with
      | false => simp [hb] at h
      | true =>
        simp only [hb, _root_.cond_true, Nat.testBit_or, Bool.or_eq_true] at h
        refine ⟨e, List.mem_cons_self .., hb, ?_⟩
        rcases h with h | h
        · left
          rw [Nat.testBit_two_pow] at h
          exact of_decide_eq_true h
        · exact .inr h
    · obtain ⟨e', h1, h2⟩ := ih h
      exact ⟨e', List.mem_cons_of_mem _ h1, h2⟩
theorem masksB_spec {all : List Nat} (os : List Oper) : ∀ (j0 : Nat) (ms : List Nat), masksB all j0 ms os = true → ∀ (j : Nat) o, os[j]? = some o →
    (∀ i, (nthN ms j).testBit i = true → ∃ e ∈ o.after.toList, bindsB e = true ∧ (e.on = i ∨ (nthN all e.on).testBit i = true)) ∧ (∀ e ∈ o.after.toList, bindsB e = true → e.on < j0 + j) := by
  induction os with
  | nil => intro j0 ms _ j o h; simp at h
  | cons o os ih =>
    intro j0 ms h j o' hj
    match ms, h with
    | [], h => cases h
    | m :: ms, h =>
      simp only [masksB, Bool.and_eq_true] at h
      obtain ⟨h1, h2, h3⟩ := h
      cases j with
      | zero =>
        simp only [List.getElem?_cons_zero, Option.some.injEq] at hj
        subst hj
        refine ⟨fun i hi => edgesN_bit all _ i ?_, fun e he hb => ?_⟩
        · rw [← Nat.eq_of_beq_eq_true h1, Nat.testBit_or]
          have : m.testBit i = true := hi
          simp [this]
        · have := List.all_eq_true.1 h2 e he
          simp only [hb, Bool.not_true, Bool.false_or] at this
          have : e.on + 1 ≤ j0 := Nat.le_of_ble_eq_true this
          omega
      | succ j =>
        have := ih (j0 + 1) ms h3 j o' (by simpa using hj)
        refine ⟨this.1, fun e he hb => ?_⟩
        have := this.2 e he hb
        omega
theorem disjB_spec {a b : List Nat} (h : disjB a b = true) {x : Nat} (h1 : x ∈ a) (h2 : x ∈ b) : False := by
  induction a with
  | nil => cases h1
  | cons y r ih =>
    simp only [disjB, Bool.and_eq_true, Bool.not_eq_true'] at h
    rcases List.mem_cons.1 h1 with rfl | h1
    · have := h.1
      rw [List.elem_eq_true_of_mem h2] at this
      cases this
    · exact ih h.2 h1
theorem binds_eq (e : Edge) : Region.binds .any e = bindsB e := by
  unfold Region.binds bindsB
  cases e.ground <;> rfl
theorem tmpsOf_mem {xs : List Operand} {t : Nat} (h : Operand.tmp t ∈ xs) : t ∈ tmpsOf xs := by
  induction xs with
  | nil => cases h
  | cons x r ih =>
    rcases List.mem_cons.1 h with h' | h'
    · subst h'; simp [tmpsOf]
    · have := ih h'
      cases x <;> simp [tmpsOf, this]
end Go.Sx

namespace Go.Sx
section
variable {P : Program} [Gl P] {X : Cx P} {G : Par} {w0 : World} {μ0 : Mu}
theorem upEs_get {ops : List Oper} : ∀ {evs : List Ev} {i : Nat} {u : Nat → Option V}, (upEs ops evs)[i]? = some u → ∃ o ev, ops[i]? = some o ∧ evs[i]? = some ev ∧ u = upE o ev := by
  induction ops with
  | nil => intro evs i u h; simp [upEs] at h
  | cons o os ih =>
    intro evs i u h
    cases evs with
    | nil => simp [upEs] at h
    | cons ev evs =>
      cases i with
      | zero => simp [upEs] at h; exact ⟨o, ev, rfl, rfl, h.symm⟩
      | succ i => simp only [upEs, List.getElem?_cons_succ] at h; exact ih h
theorem upEs_at {ops : List Oper} : ∀ {evs : List Ev} {i : Nat} {o : Oper} {ev : Ev}, ops[i]? = some o → evs[i]? = some ev → (upEs ops evs)[i]? = some (upE o ev) := by
  induction ops with
  | nil => intro evs i o ev h; simp at h
  | cons o os ih =>
    intro evs i o' ev h1 h2
    cases evs with
    | nil => simp at h2
    | cons ev' evs =>
      cases i with
      | zero => simp at h1 h2; subst h1; subst h2; rfl
      | succ i => simp only [upEs, List.getElem?_cons_succ] at h1 h2 ⊢; exact ih h1 h2
theorem upMs_get {evs : List Ev} {i : Nat} {u : Nat → Option (Option Bx)} (h : (upMs evs)[i]? = some u) : ∃ ev, evs[i]? = some ev ∧ u = upM ev := by
  simp only [upMs, List.getElem?_map, Option.map_eq_some_iff] at h
  obtain ⟨ev, h1, h2⟩ := h
  exact ⟨ev, h1, h2.symm⟩
theorem upEs_len {ops : List Oper} : ∀ {evs : List Ev}, evs.length = ops.length → (upEs ops evs).length = ops.length := by
  induction ops with
  | nil => intro evs h; cases evs <;> rfl
  | cons o os ih => intro evs h; cases evs with
    | nil => simp at h
    | cons ev evs => simp [upEs, ih (by simpa using h)]
structure Told (G : Par) (arr : Array Oper) (ms : List Nat) (st : St) (evs : List Ev) (new : Info) : Prop where
  len : evs.length = arr.toList.length
  len' : new.length = arr.toList.length
  fact : ∀ (i : Nat) o ev n, arr.toList[i]? = some o → evs[i]? = some ev → new[i]? = some n → Fact G arr.toList o ev (preF ((upEs arr.toList evs).take i) (lookE st.e)) (preF ((upMs evs).take i) (boxOf st.x)) n
  stat : statB arr.toList ms = true
  dyn : dynB new.reverse ms = true
def eS (arr : Array Oper) (evs : List Ev) (st : St) (S : Nat → Bool) : Nat → V := foldS S (upEs arr.toList evs) 0 (lookE st.e)
def mS (evs : List Ev) (st : St) (S : Nat → Bool) : Nat → Option Bx := foldS S (upMs evs) 0 (boxOf st.x)
structure Closed (arr : Array Oper) (S : Nat → Bool) : Prop where
  pre : ∀ (k : Nat) o, arr[k]? = some o → S k = true → ∀ e ∈ o.after.toList, bindsB e = true → S e.on = true
theorem Told.anc {arr : Array Oper} {ms : List Nat} {st : St} {evs : List Ev} {new : Info} (h : Told G arr ms st evs new) {S : Nat → Bool} (hc : Closed arr S) : ∀ (j : Nat), j < arr.size → S j = true → ∀ i, (nthN ms j).testBit i = true → S i = true := by
  have hm := h.stat
  simp only [statB, Bool.and_eq_true] at hm
  have hsp := masksB_spec _ 0 ms hm.1
  intro j
  induction j using Nat.strongRecOn with
  | ind j ih =>
    intro hj hs i hi
    have ho : arr[j]? = some arr[j] := Array.getElem?_eq_getElem hj
    obtain ⟨k1, k2⟩ := hsp j arr[j] (by rw [Array.getElem?_toList]; exact ho)
    obtain ⟨e, he, hb, hx⟩ := k1 i hi
    have h1 := hc.pre j _ ho hs e he hb
    have h2 := k2 e he hb
    rcases hx with rfl | hx
    · exact h1
    · exact ih e.on (by omega) (by omega) h1 i hx
def addS (S : Nat → Bool) (i : Nat) : Nat → Bool := fun j => S j || j == i
theorem Told.sides {arr : Array Oper} {ms : List Nat} {st : St} {evs : List Ev} {new : Info} (h : Told G arr ms st evs new) {S : Nat → Bool} {i : Nat} (hc : Closed arr S) (hc' : Closed arr (addS S i)) (hi : i < arr.size) (hn : S i = false) :
    ∀ j oj oi, arr[j]? = some oj → arr[i]? = some oi → j ≠ i → (S j = decide (j < i)) ∨ (apartB arr.toList (if j < i then oj else oi) (if j < i then oi else oj) = true ∧ ∀ nj ni, new[j]? = some nj → new[i]? = some ni → calmB (if j < i then nj else ni) (if j < i then ni else nj) = true) := by
  intro j oj oi hj hoi hne
  have hst := h.stat
  simp only [statB, Bool.and_eq_true] at hst
  have hp := (pairsB_spec _ _ _ _ hst.2).2
  have hdy := h.dyn
  unfold dynB at hdy
  rw [List.reverse_reverse] at hdy
  have hd := (pairsB_spec _ _ _ _ hdy).2
  have hjs : j < arr.size := by
    rcases Nat.lt_or_ge j arr.size with h1 | h1
    · exact h1
    · rw [Array.getElem?_eq_none h1] at hj; cases hj
  by_cases hlt : j < i
  · by_cases hb : (nthN ms i).testBit j = true
    · left
      have := h.anc hc' i hi (by simp [addS]) j hb
      simp only [addS, Bool.or_eq_true, beq_iff_eq] at this
      rcases this with h1 | h1
      · simp [h1, hlt]
      · exact absurd h1 hne
    · right
      simp only [hlt, if_true]
      refine ⟨?_, fun nj ni h1 h2 => ?_⟩
      · rcases hp j i oj oi hlt (by rw [Array.getElem?_toList]; exact hj) (by rw [Array.getElem?_toList]; exact hoi) with h1 | h1
        · rw [Nat.zero_add] at h1; exact absurd h1 hb
        · exact h1
      · rcases hd j i nj ni hlt h1 h2 with h3 | h3
        · rw [Nat.zero_add] at h3; exact absurd h3 hb
        · exact h3
  · have hlt' : i < j := by omega
    by_cases hb : (nthN ms j).testBit i = true
    · left
      cases hs : S j with
      | false => simp [hlt]
      | true =>
        have := h.anc hc j hjs hs i hb
        rw [hn] at this; cases this
    · right
      simp only [hlt, if_false]
      refine ⟨?_, fun nj ni h1 h2 => ?_⟩
      · rcases hp i j oi oj hlt' (by rw [Array.getElem?_toList]; exact hoi) (by rw [Array.getElem?_toList]; exact hj) with h1 | h1
        · rw [Nat.zero_add] at h1; exact absurd h1 hb
        · exact h1
      · rcases hd i j ni nj hlt' h2 h1 with h3 | h3
        · rw [Nat.zero_add] at h3; exact absurd h3 hb
        · exact h3
theorem dstIn_false {d : Option Nat} {l : List Nat} (h : dstIn d l = false) {t : Nat} (hd : d = some t) (ht : t ∈ l) : False := by
  subst hd
  change l.elem t = false at h
  rw [List.elem_eq_true_of_mem ht] at h
  cases h
structure Apart (arr : Array Oper) (a b : Oper) : Prop where
  l : ∀ t, a.dst = some t → t ∉ looks arr.toList b
  r : ∀ t, b.dst = some t → t ∉ looks arr.toList a
  d : ∀ t, a.dst = some t → b.dst ≠ some t
theorem apart_of {arr : Array Oper} {a b : Oper} (h : apartB arr.toList a b = true) : Apart arr a b := by
  simp only [apartB, Bool.and_eq_true, Bool.not_eq_true'] at h
  obtain ⟨h1, h2, h3⟩ := h
  refine ⟨fun t ht hm => dstIn_false h1 ht hm, fun t ht hm => dstIn_false h2 ht hm, fun t ht hb => ?_⟩
  rw [ht, hb] at h3
  simp [dstSame] at h3
theorem Told.slot {arr : Array Oper} {ms : List Nat} {st : St} {evs : List Ev} {new : Info} (h : Told G arr ms st evs new) {S : Nat → Bool} {i : Nat} {oi : Oper} (hc : Closed arr S) (hc' : Closed arr (addS S i)) (hoi : arr[i]? = some oi) (hn : S i = false) {t : Nat} (ht : t ∈ looks arr.toList oi) :
    eS arr evs st S t = preF ((upEs arr.toList evs).take i) (lookE st.e) t := by
  have hi : i < arr.size := by
    rcases Nat.lt_or_ge i arr.size with h1 | h1
    · exact h1
    · rw [Array.getElem?_eq_none h1] at hoi; cases hoi
  have hl := foldS_lt (upEs arr.toList evs) i 0 (lookE st.e)
  rw [Nat.zero_add] at hl
  rw [← hl]
  refine foldS_congr _ _ _ _ rfl fun j u h1 h2 => ?_
  rw [Nat.zero_add]
  obtain ⟨oj, ev, k1, k2, rfl⟩ := upEs_get h1
  rw [Array.getElem?_toList] at k1
  have hd : oj.dst = some t := by
    unfold upE at h2
    by_cases hd : oj.dst = some t
    · exact hd
    · simp [hd] at h2
  by_cases hji : j = i
  · subst hji; simp [hn]
  · rcases h.sides hc hc' hi hn j oj oi k1 hoi hji with h3 | ⟨h3, _⟩
    · exact h3
    · exfalso
      by_cases hlt : j < i
      · simp only [hlt, if_true] at h3
        exact (apart_of h3).l t hd ht
      · simp only [hlt, if_false] at h3
        exact (apart_of h3).r t hd ht
theorem Told.box {arr : Array Oper} {ms : List Nat} {st : St} {evs : List Ev} {new : Info} (h : Told G arr ms st evs new) {S : Nat → Bool} {i : Nat} {oi : Oper} {ni : List Nat × List Nat} (hc : Closed arr S) (hc' : Closed arr (addS S i)) (hoi : arr[i]? = some oi) (hni : new[i]? = some ni) (hn : S i = false) {id : Nat} (hid : id ∈ ni.1) :
    mS evs st S id = preF ((upMs evs).take i) (boxOf st.x) id := by
  have hi : i < arr.size := by
    rcases Nat.lt_or_ge i arr.size with h1 | h1
    · exact h1
    · rw [Array.getElem?_eq_none h1] at hoi; cases hoi
  have hl := foldS_lt (upMs evs) i 0 (boxOf st.x)
  rw [Nat.zero_add] at hl
  rw [← hl]
  refine foldS_congr _ _ _ _ rfl fun j u h1 h2 => ?_
  rw [Nat.zero_add]
  obtain ⟨ev, k2, rfl⟩ := upMs_get h1
  have hjl : j < arr.toList.length := by rw [← h.len]; exact (List.getElem?_eq_some_iff.1 k2).1
  have hjl' : j < arr.size := by simpa using hjl
  have k1 : arr[j]? = some arr[j] := Array.getElem?_eq_getElem hjl'
  have k3 : new[j]? = some (new[j]'(by rw [h.len']; exact hjl)) := List.getElem?_eq_getElem _
  have hf := h.fact j _ ev _ (by rw [Array.getElem?_toList]; exact k1) k2 k3
  have hw : id ∈ (new[j]'(by rw [h.len']; exact hjl)).2 := by
    obtain ⟨b, hb⟩ := Option.ne_none_iff_exists'.1 h2
    have hm := effL_mem hb
    cases hwant : ev.want with
    | false => rw [(hf.skip hwant).2.1] at hm; simp at hm
    | true => rw [(hf.op hwant).2.2.2]; exact hm
  by_cases hji : j = i
  · subst hji; simp [hn]
  · rcases h.sides hc hc' hi hn j _ oi k1 hoi hji with h3 | ⟨_, h3⟩
    · exact h3
    · exfalso
      have h3 := h3 _ _ k3 hni
      by_cases hlt : j < i
      · simp only [hlt, if_true, calmB, Bool.and_eq_true] at h3
        exact disjB_spec h3.1 hw hid
      · simp only [hlt, if_false, calmB, Bool.and_eq_true] at h3
        exact disjB_spec h3.2 hw hid
theorem Told.slot' {arr : Array Oper} {ms : List Nat} {st : St} {evs : List Ev} {new : Info} (h : Told G arr ms st evs new) {S : Nat → Bool} {i : Nat} {oi : Oper} {ev : Ev} (hc : Closed arr S) (hc' : Closed arr (addS S i)) (hoi : arr[i]? = some oi) (hev : evs[i]? = some ev) (hn : S i = false) :
    eS arr evs st (addS S i) = over (eS arr evs st S) (upE oi ev) := by
  have hi : i < arr.size := by
    rcases Nat.lt_or_ge i arr.size with h1 | h1
    · exact h1
    · rw [Array.getElem?_eq_none h1] at hoi; cases hoi
  funext t
  have hu := upEs_at (ops := arr.toList) (by rw [Array.getElem?_toList]; exact hoi) hev
  cases hx : upE oi ev t with
  | none =>
    rw [show over (eS arr evs st S) (upE oi ev) t = eS arr evs st S t by simp [over, hx]]
    refine foldS_congr _ _ _ _ rfl fun j u h1 h2 => ?_
    rw [Nat.zero_add]
    by_cases hji : j = i
    · subst hji; rw [h1] at hu; cases hu; exact absurd hx h2
    · simp [addS, hji]
  | some x =>
    rw [show over (eS arr evs st S) (upE oi ev) t = x by simp [over, hx]]
    refine foldS_last _ i 0 _ _ hu hx (by simp [addS]) fun j u hlt h1 h2 => ?_
    rw [Nat.zero_add]
    obtain ⟨oj, ev', k1, k2, rfl⟩ := upEs_get h1
    rw [Array.getElem?_toList] at k1
    have hd : oj.dst = some t := by
      unfold upE at h2
      by_cases hd : oj.dst = some t
      · exact hd
      · simp [hd] at h2
    have hd' : oi.dst = some t := by
      unfold upE at hx
      by_cases hd : oi.dst = some t
      · exact hd
      · simp [hd] at hx
    have hji : j ≠ i := by omega
    have hnl : ¬ j < i := by omega
    rcases h.sides hc hc' hi hn j oj oi k1 hoi hji with h3 | ⟨h3, _⟩
    · simp [addS, hji, h3, hnl]
    · simp only [hnl, if_false] at h3
      exact absurd hd ((apart_of h3).d t hd')
theorem Told.box' {arr : Array Oper} {ms : List Nat} {st : St} {evs : List Ev} {new : Info} (h : Told G arr ms st evs new) {S : Nat → Bool} {i : Nat} {oi : Oper} {ev : Ev} (hc : Closed arr S) (hc' : Closed arr (addS S i)) (hoi : arr[i]? = some oi) (hev : evs[i]? = some ev) (hn : S i = false) :
    mS evs st (addS S i) = over (mS evs st S) (upM ev) := by
  have hi : i < arr.size := by
    rcases Nat.lt_or_ge i arr.size with h1 | h1
    · exact h1
    · rw [Array.getElem?_eq_none h1] at hoi; cases hoi
  have entry : ∀ (j : Nat) ev (hjl : j < arr.toList.length), evs[j]? = some ev → ∀ id b, effL ev.ef id = some b → id ∈ (new[j]'(by rw [h.len']; exact hjl)).2 ∧ id ∈ (new[j]'(by rw [h.len']; exact hjl)).1 := by
    intro j ev hjl k2 id b hb
    have hjl' : j < arr.size := by simpa using hjl
    have k1 : arr[j]? = some arr[j] := Array.getElem?_eq_getElem hjl'
    have k3 : new[j]? = some (new[j]'(by rw [h.len']; exact hjl)) := List.getElem?_eq_getElem _
    have hf := h.fact j _ ev _ (by rw [Array.getElem?_toList]; exact k1) k2 k3
    have hm := effL_mem hb
    cases hwant : ev.want with
    | false => rw [(hf.skip hwant).2.1] at hm; simp at hm
    | true => rw [(hf.op hwant).2.2.2]; exact ⟨hm, List.mem_append_right _ hm⟩
  funext id
  have hu : (upMs evs)[i]? = some (upM ev) := by simp [upMs, hev]
  cases hx : upM ev id with
  | none =>
    rw [show over (mS evs st S) (upM ev) id = mS evs st S id by simp [over, hx]]
    refine foldS_congr _ _ _ _ rfl fun j u h1 h2 => ?_
    rw [Nat.zero_add]
    by_cases hji : j = i
    · subst hji; rw [h1] at hu; cases hu; exact absurd hx h2
    · simp [addS, hji]
  | some x =>
    rw [show over (mS evs st S) (upM ev) id = x by simp [over, hx]]
    refine foldS_last _ i 0 _ _ hu hx (by simp [addS]) fun j u hlt h1 h2 => ?_
    rw [Nat.zero_add]
    obtain ⟨ev', k2, rfl⟩ := upMs_get h1
    obtain ⟨b, hb⟩ := Option.ne_none_iff_exists'.1 h2
    have hjl : j < arr.toList.length := by rw [← h.len]; exact (List.getElem?_eq_some_iff.1 k2).1
    have hjl' : j < arr.size := by simpa using hjl
    have k1 : arr[j]? = some arr[j] := Array.getElem?_eq_getElem hjl'
    have hil : i < arr.toList.length := by simpa using hi
    have e1 := entry j ev' hjl k2 id b hb
    have e2 := entry i ev hil hev id x hx
    have hji : j ≠ i := by omega
    have hnl : ¬ j < i := by omega
    rcases h.sides hc hc' hi hn j _ oi k1 hoi hji with h3 | ⟨_, h3⟩
    · simp [addS, hji, h3, hnl]
    · have h3 := h3 _ _ (List.getElem?_eq_getElem (by rw [h.len']; exact hjl)) (List.getElem?_eq_getElem (by rw [h.len']; exact hil))
      simp only [hnl, if_false, calmB, Bool.and_eq_true] at h3
      exact (disjB_spec h3.1 e2.1 e1.2).elim
structure Mid {P : Program} [Gl P] (X : Cx P) (G : Par) (w0 : World) (μ0 : Mu) (arr : Array Oper) (evs : List Ev) (st : St) (S : Nat → Bool) (a : Act) (w : World) (μ : Mu) (B : Nat → Prop) : Prop where
  sb : SB X (mS evs st S) μ B w
  env : ∀ t, RelV B w μ (eS arr evs st S t) (a.tmps.getD t undef)
  sz : a.tmps.size = G.N
  dfr : a.defers = []
  hist : Hist X w0 μ0 μ w
  pend : ∀ (i : Nat) o, arr[i]? = some o → S i = false → creates o.op = true → ∀ j, μ (dd o % 10000 + 10000 * j) = none
theorem crDsts_ne {ops : List Oper} : nodupB (crDsts ops) = true → ∀ (i j : Nat) oi oj, ops[i]? = some oi → ops[j]? = some oj → i ≠ j → creates oi.op = true → creates oj.op = true → dd oi % 10000 ≠ dd oj % 10000 := by
  induction ops with
  | nil => intro _ i j oi oj h; simp at h
  | cons o r ih =>
    intro h i j oi oj hi hj hne ci cj he
    have mem : ∀ (k : Nat) ok, r[k]? = some ok → creates ok.op = true → dd ok % 10000 ∈ crDsts r := fun k ok hk ck => List.mem_filterMap.2 ⟨ok, List.mem_of_getElem? hk, by simp [ck, dd]⟩
    have tl : nodupB (crDsts r) = true ∧ (creates o.op = true → dd o % 10000 ∉ crDsts r) := by
      unfold crDsts at h ⊢
      cases hc : creates o.op with
      | false => simp [hc] at h; exact ⟨h, by simp⟩
      | true =>
        rw [List.filterMap_cons_some (b := o.dst.getD 99998 % 10000) (by simp [hc])] at h
        simp only [nodupB, Bool.and_eq_true, Bool.not_eq_true'] at h
        refine ⟨h.2, fun _ hm => ?_⟩
        have := h.1
        unfold dd at hm
        rw [List.elem_eq_true_of_mem hm] at this
        cases this
    cases i with
    | zero =>
      cases j with
      | zero => exact hne rfl
      | succ j =>
        simp only [List.getElem?_cons_zero, Option.some.injEq, List.getElem?_cons_succ] at hi hj
        subst hi
        exact tl.2 ci (he ▸ mem j oj hj cj)
    | succ i =>
      cases j with
      | zero =>
        simp only [List.getElem?_cons_zero, Option.some.injEq, List.getElem?_cons_succ] at hi hj
        subst hj
        exact tl.2 cj (he ▸ mem i oi hi ci)
      | succ j =>
        simp only [List.getElem?_cons_succ] at hi hj
        exact ih tl.1 i j oi oj hi hj (by omega) ci cj he
theorem one_step {xs : List Nat} (hF : G.F = ⟨Fn P, FnX P, xs⟩) (hT : TOk P G.T) (hE : ∀ t, (G.T t).eq = true → EqTy P t (G.T t).zero) (hN : G.N ≤ 1000) (hz : ∀ t e, (G.T t).d = .slice e → idsLs (G.T e).zero = []) {arr : Array Oper} {ms : List Nat} {st : St} {evs : List Ev} {new : Info} (h : Told G arr ms st evs new) (hnd : nodupB (crDsts arr.toList) = true)
    {S : Nat → Bool} {i : Nat} {o : Oper} (hc : Closed arr S) (hc' : Closed arr (addS S i)) (ho : arr[i]? = some o) (hn : S i = false) {a : Act} {w : World} {μ : Mu} {B : Nat → Prop} (hm : Mid X G w0 μ0 arr evs st S a w μ B)
    {Q : Exit → Act → World → Prop} {K : Act → World → Prop} (hk : ∀ a' w' μ' B', Mid X G w0 μ0 arr evs st (addS S i) a' w' μ' B' → K a' w') : wpOp P arr Q i K a w := by
  have hi : i < arr.size := by
    rcases Nat.lt_or_ge i arr.size with h1 | h1
    · exact h1
    · rw [Array.getElem?_eq_none h1] at ho; cases ho
  have hil : i < arr.toList.length := by simpa using hi
  have hol : arr.toList[i]? = some o := by rw [Array.getElem?_toList]; exact ho
  have hev : evs[i]? = some (evs[i]'(by rw [h.len]; exact hil)) := List.getElem?_eq_getElem _
  have hni : new[i]? = some (new[i]'(by rw [h.len']; exact hil)) := List.getElem?_eq_getElem _
  generalize evs[i]'(by rw [h.len]; exact hil) = ev at hev
  generalize new[i]'(by rw [h.len']; exact hil) = ni at hni
  have hf := h.fact i o ev ni hol hev hni
  have hslot : ∀ t ∈ looks arr.toList o, eS arr evs st S t = preF ((upEs arr.toList evs).take i) (lookE st.e) t := fun t ht => h.slot hc hc' ho hn ht
  -- the guard
  have hwant : Region.wanted o (yielded arr a.tmps) = ev.want := by
    cases hg : o.guard with
    | none => rw [hf.none hg]; simp [Region.wanted, hg]
    | some q =>
      obtain ⟨j, b⟩ := q
      have hlook : dstOf arr.toList j ∈ looks arr.toList o := by simp [looks, hg]
      have hr := hm.env (dstOf arr.toList j)
      rw [hslot _ hlook] at hr
      rcases hf.some j b hg _ _ _ _ hr with ⟨t, ht, hw⟩ | ⟨hu, hw⟩
      · rw [hw]
        simp only [Region.wanted, hg]
        have hne : (undef : Value) ≠ .bool t := by intro h; cases h
        have hlt : dstOf arr.toList j < a.tmps.size := by
          rcases Nat.lt_or_ge (dstOf arr.toList j) a.tmps.size with h1 | h1
          · exact h1
          · have : a.tmps.getD (dstOf arr.toList j) undef = undef := by simp [Array.getD, Nat.not_lt.2 h1]
            rw [this] at ht; exact absurd ht hne
        have hsz := hm.sz
        unfold dstOf at ht hlt
        rw [Array.getElem?_toList] at ht hlt
        have : yielded arr a.tmps j = some t := by
          unfold yielded
          cases hd : (arr[j]?).bind (·.dst) with
          | none => rw [hd] at hlt; simp at hlt; omega
          | some d =>
            rw [hd] at ht hlt
            simp only [Option.getD_some] at ht hlt
            have : a.tmps[d]? = some (.bool t) := by
              simp only [Array.getD, hlt, dif_pos] at ht
              rw [Array.getElem?_eq_getElem hlt]; exact congrArg some ht
            simp [this]
        rw [this]; rfl
      · rw [hw]
        simp only [Region.wanted, hg, yielded_undef hu]
        rfl
  have e1 := h.slot' hc hc' ho hev hn
  have e2 := h.box' hc hc' ho hev hn
  have hput : ∀ (B' : Nat → Prop) (w' : World) (μ' : Mu) (u : Value), (∀ t, RelV B' w' μ' (eS arr evs st S t) (a.tmps.getD t undef)) → RelV B' w' μ' ev.v u → ∀ t, RelV B' w' μ' (eS arr evs st (addS S i) t) ((a.put o.dst u).tmps.getD t undef) := by
    intro B' w' μ' u he hu t
    rw [e1]
    unfold over upE
    cases hd : o.dst with
    | none => simp only [reduceCtorEq, if_false, Option.getD_none]; exact he t
    | some d =>
      have hdl : d < a.tmps.size := by have := hf.dst; rw [hd] at this; rw [hm.sz]; simpa [dstOk] using this
      by_cases hdt : d = t
      · subst hdt
        have : (a.tmps.setIfInBounds d u).getD d undef = u := by simp [Array.getD, hdl]
        simp only [Act.put, if_true, Option.getD_some, this]; exact hu
      · have : (a.tmps.setIfInBounds d u).getD t undef = a.tmps.getD t undef := by
          simp only [Array.getD_eq_getD_getElem?]
          rw [Array.getElem?_setIfInBounds_ne hdt]
        simp only [Act.put, Option.some.injEq, hdt, if_false, Option.getD_none, this]; exact he t
  have hpar : ∀ j, S j = true → addS S i j = true := fun j hj => by simp [addS, hj]
  unfold wpOp
  simp only [ho, hwant]
  cases hw : ev.want with
  | false =>
    simp only [Bool.false_eq_true, if_false]
    obtain ⟨k1, k2, k3⟩ := hf.skip hw
    refine hk _ _ μ B ⟨?_, hput B w μ undef hm.env (by rw [k1]; exact rel_undef), by rw [put_size]; exact hm.sz, by rw [put_defers]; exact hm.dfr, hm.hist, fun j oj hj hs hcr => hm.pend j oj hj (by simp [addS] at hs; exact hs.1) hcr⟩
    rw [e2]
    have : over (mS evs st S) (upM ev) = mS evs st S := by funext id; simp [over, upM, k2, effL]
    rw [this]; exact hm.sb
  | true =>
    simp only [if_true]
    refine .inl ?_
    obtain ⟨k1, k2, k3, k4⟩ := hf.op hw
    have hsame : ∀ id ∈ touchO o.op (preF ((upMs evs).take i) (boxOf st.x)) ev.vs, preF ((upMs evs).take i) (boxOf st.x) id = mS evs st S id := fun id hid => (h.box hc hc' ho hni hn (by rw [k4]; exact List.mem_append_left _ hid)).symm
    have k2' := opSem_loc' hz hsame k2
    rw [hF] at k2'
    have hD := dst_cases hN hf.dst (dd o) rfl
    have hop := op_sound (P := P) (X := X) (o := o) (a := a) hT hE hm.sb
      (fun hcr j => pend_of hD (hm.pend i o ho hn hcr) j) (fun j => par_no hD j)
      (vs := ev.vs) (fun j v x h1 h2 => by
        rw [k1] at h1
        simp only [List.getElem?_map, h2, Option.map_some, Option.some.injEq] at h1
        subst h1
        cases x with
        | tmp t =>
          have ht : t ∈ looks arr.toList o := List.mem_append_left _ (tmpsOf_mem (List.mem_of_getElem? h2))
          have := hm.env t
          rw [hslot t ht] at this
          exact hf.env t _ _ _ _ this
        | const v => exact const_rel v
        | func f => exact RelL.f
        | global g => exact RelL.u) (by rw [k1]; simp) k2'
    refine wp_of_opWp hop fun v' w' hout => ?_
    obtain ⟨v, ef, μ', B', ⟨rfl, rfl⟩, hst, hv⟩ := hout
    refine hk _ _ μ' B' ⟨?_, hput B' w' μ' v' (fun t => (hm.env t).grow hst.gr hst.mu) hv, by rw [put_size]; exact hm.sz, by rw [put_defers]; exact hm.dfr, hm.hist.step hm.sb hst (fun id hid hmn => ?_), fun j oj hj hs hcr n => ?_⟩
    · have := hst.sb
      rw [applyF_eq] at this
      rw [e2]; exact this
    · rw [hst.new]
      · exact hmn
      · intro hmem
        obtain ⟨q, hq1, hq2⟩ := List.mem_map.1 hmem
        rcases k3 q hq1 with h1 | ⟨h1, h2⟩
        · obtain ⟨bx, hbx⟩ := Option.isSome_iff_exists.1 h1
          have hid : q.1 ∈ ni.1 := by rw [k4]; exact List.mem_append_right _ (List.mem_map.2 ⟨q, hq1, rfl⟩)
          rw [← h.box hc hc' ho hni hn hid] at hbx
          exact hm.sb.muOf hbx (hq2 ▸ hmn)
        · rw [hq2] at h2
          exact own_mod hid hD h2
    · have hs' : S j = false ∧ j ≠ i := by simpa [addS] using hs
      rw [hst.new]
      · exact hm.pend j oj hj hs'.1 hcr n
      · intro hmem
        obtain ⟨q, hq1, hq2⟩ := List.mem_map.1 hmem
        rcases k3 q hq1 with h1 | ⟨h1, h2⟩
        · obtain ⟨bx, hbx⟩ := Option.isSome_iff_exists.1 h1
          have hid : q.1 ∈ ni.1 := by rw [k4]; exact List.mem_append_right _ (List.mem_map.2 ⟨q, hq1, rfl⟩)
          rw [← h.box hc hc' ho hni hn hid] at hbx
          exact hm.sb.muOf hbx (hq2 ▸ hm.pend j oj hj hs'.1 hcr n)
        · rw [hq2, Nat.add_mul_mod_self_left, Nat.mod_mod] at h2
          exact crDsts_ne hnd j i oj o (by rw [Array.getElem?_toList]; exact hj) hol hs'.2 hcr h1 h2
theorem draw_run {xs : List Nat} (hF : G.F = ⟨Fn P, FnX P, xs⟩) (hT : TOk P G.T) (hE : ∀ t, (G.T t).eq = true → EqTy P t (G.T t).zero) (hN : G.N ≤ 1000) (hz : ∀ t e, (G.T t).d = .slice e → idsLs (G.T e).zero = []) {arr : Array Oper} {ms : List Nat} {st : St} {evs : List Ev} {new : Info} (h : Told G arr ms st evs new) (hnd : nodupB (crDsts arr.toList) = true)
    {Q : Exit → Act → World → Prop} (hq : ∀ S a w μ B, (∀ i, i < arr.size → S i = true) → Mid X G w0 μ0 arr evs st S a w μ B → Q .normal a w) :
    ∀ (fuel : Nat) (listed : Array Bool) (l : List Nat), l.length ≤ fuel → listed.size = arr.size → (∀ i, i < arr.size → listed.getD i false = false → i ∈ l) → Closed arr (fun i => listed.getD i false) →
      ∀ a w μ B, Mid X G w0 μ0 arr evs st (fun i => listed.getD i false) a w μ B → wpAny P .any arr Q fuel listed a w := by
  have hst := h.stat
  simp only [statB, Bool.and_eq_true] at hst
  have hsp := masksB_spec _ 0 ms hst.1
  -- where nothing is ready all is done
  have done : ∀ (listed : Array Bool), listed.size = arr.size → Region.ready .any arr listed = [] → ∀ i, i < arr.size → listed.getD i false = true := by
    intro listed hsz hr i
    induction i using Nat.strongRecOn with
    | ind i ih =>
      intro hi
      cases hl : listed.getD i false with
      | true => rfl
      | false =>
        exfalso
        have ho : arr[i]? = some arr[i] := Array.getElem?_eq_getElem hi
        have : i ∈ Region.ready .any arr listed := by
          unfold Region.ready
          refine List.mem_filter.2 ⟨by simpa using hi, ?_⟩
          have hl' : listed.getD i true = false := by
            have hlt : i < listed.size := by omega
            simp only [Array.getD, hlt, dif_pos] at hl ⊢
            exact hl
          simp only [hl', Bool.not_false, Bool.true_and, ho, Option.map_some, Option.getD_some, Array.all_eq_true']
          intro e he
          rw [binds_eq]
          cases hb : bindsB e with
          | false => rfl
          | true =>
            have hel : e ∈ (arr[i]).after.toList := by simpa using he
            have := (hsp i arr[i] (by rw [Array.getElem?_toList]; exact ho)).2 e hel hb
            simp only [Bool.not_true, Bool.false_or]
            exact ih e.on (by omega) (by omega)
        rw [hr] at this; cases this
  intro fuel
  induction fuel with
  | zero =>
    intro listed l hl hsz hin hc a w μ B hm
    have : l = [] := List.eq_nil_of_length_eq_zero (by omega)
    subst this
    have hall : ∀ i, i < arr.size → listed.getD i false = true := fun i hi => by
      cases hx : listed.getD i false with
      | true => rfl
      | false => have := hin i hi hx; cases this
    refine ⟨?_, hq _ a w μ B hall hm⟩
    unfold Region.ready
    refine List.filter_eq_nil_iff.2 fun i hi => ?_
    have hi : i < arr.size := by simpa using hi
    have hl' : listed.getD i true = true := by
      have hlt : i < listed.size := by omega
      have := hall i hi
      simp only [Array.getD, hlt, dif_pos] at this ⊢
      exact this
    simp [hl']
  | succ fuel ih =>
    intro listed l hl hsz hin hc a w μ B hm
    refine ⟨fun hr => hq _ a w μ B (done listed hsz hr) hm, fun i hi => ?_⟩
    unfold Region.ready at hi
    obtain ⟨hi1, hi2⟩ := List.mem_filter.1 hi
    have hi1 : i < arr.size := by simpa using hi1
    have ho : arr[i]? = some arr[i] := Array.getElem?_eq_getElem hi1
    simp only [Bool.and_eq_true, Bool.not_eq_true', ho, Option.map_some, Option.getD_some, Array.all_eq_true'] at hi2
    obtain ⟨hi2, hi3⟩ := hi2
    have hlt : i < listed.size := by omega
    have hn : listed.getD i false = false := by
      simp only [Array.getD, hlt, dif_pos] at hi2 ⊢
      exact hi2
    have hadd : (fun j => (listed.setIfInBounds i true).getD j false) = addS (fun j => listed.getD j false) i := by
      funext j
      by_cases hji : j = i
      · subst hji; simp [addS, Array.getD, hlt]
      · have : (listed.setIfInBounds i true).getD j false = listed.getD j false := by
          simp only [Array.getD_eq_getD_getElem?]
          rw [Array.getElem?_setIfInBounds_ne (Ne.symm hji)]
        rw [this]; simp [addS, hji]
    have hc' : Closed arr (addS (fun j => listed.getD j false) i) := by
      refine ⟨fun k o hk hs e he hb => ?_⟩
      by_cases hki : k = i
      · subst hki
        rw [ho] at hk; cases hk
        have := hi3 e (by simpa using he)
        rw [binds_eq, hb] at this
        simp only [Bool.not_true, Bool.false_or] at this
        simp [addS, this]
      · have hs : listed.getD k false = true := by simpa [addS, hki] using hs
        have := hc.pre k o hk hs e he hb
        simp [addS, this]
    refine one_step hF hT hE hN hz h hnd hc hc' ho hn hm fun a' w' μ' B' hm' => ?_
    rw [← hadd] at hm' hc'
    refine ih (listed.setIfInBounds i true) (l.erase i) ?_ (by simp [hsz]) ?_ hc' a' w' μ' B' hm'
    · have := List.length_erase_of_mem (hin i hi1 hn)
      have hpos : 0 < l.length := List.length_pos_of_mem (hin i hi1 hn)
      omega
    · intro j hj hs
      have hs : addS (fun j => listed.getD j false) i j = false := by rw [← hadd]; exact hs
      have hs' : listed.getD j false = false ∧ j ≠ i := by simpa [addS] using hs
      exact (List.mem_erase_of_ne hs'.2).2 (hin j hj hs'.1)
end
end Go.Sx

namespace Go.Sx
def exOf : Ex → Exit
  | .normal => .normal
  | .exit id => .exit id
  | .ret => .ret
def Inv {P : Program} [Gl P] (X : Cx P) (N : Nat) (w0 : World) (μ0 : Mu) (st : St) (a : Act) (w : World) : Prop := ∃ μ B, SR X N st a w μ B ∧ Hist X w0 μ0 μ w ∧ Dom st.x μ
def Post {P : Program} [Gl P] (X : Cx P) (N : Nat) (w0 : World) (μ0 : Mu) (K : Ex → St → Prop) (e : Exit) (a : Act) (w : World) : Prop := ∃ ex st, e = exOf ex ∧ K ex st ∧ Inv X N w0 μ0 st a w
section
variable {P : Program} [Gl P] {X : Cx P} {G : Par} {w0 : World} {μ0 : Mu}
structure Good (P : Program) [Gl P] (G : Par) : Prop where
  F : ∃ xs, G.F = ⟨Fn P, FnX P, xs⟩
  T : TOk P G.T
  E : ∀ t, (G.T t).eq = true → EqTy P t (G.T t).zero
  N : G.N ≤ 1000
  Z : ∀ t e, (G.T t).d = .slice e → idsLs (G.T e).zero = []
  M : P.follows .mixedOrders = true
theorem pend_start {ops : List Oper} {x : Bxs} {μ : Mu} (h : okStart ops x = true) (hd : Dom x μ) (hN : ∀ o ∈ ops, creates o.op = true → o.dst.getD 99998 % 10000 < 1000 ∨ o.dst.getD 99998 % 10000 = 9998) : nodupB (crDsts ops) = true ∧ Pend μ ops := by
  simp only [okStart, Bool.and_eq_true] at h
  refine ⟨h.1, fun o ho hc j => ?_⟩
  cases hm : μ (o.dst.getD 99998 % 10000 + 10000 * j) with
  | none => rfl
  | some l =>
    exfalso
    have hmem : (o.dst.getD 99998 % 10000) ∈ crDsts ops := List.mem_filterMap.2 ⟨o, ho, by simp [hc]⟩
    rcases hd _ (by rw [hm]; simp) with h1 | ⟨bx, h1⟩
    · have hN := hN o ho hc
      generalize o.dst.getD 99998 % 10000 = d at hN h1
      have : isPar (d + 10000 * j) = false := by
        rcases hN with h2 | h2
        · exact par_no (.inl h2) j
        · subst h2
          unfold isPar
          rw [Bool.and_eq_false_iff]
          right
          cases h2 : Nat.blt (9998 + 10000 * j) 1100 with
          | false => rfl
          | true => have : 9998 + 10000 * j + 1 ≤ 1100 := Nat.le_of_ble_eq_true h2; omega
      rw [this] at h1; cases h1
    · have := List.all_eq_true.1 h.2 _ (mem_of_boxOf h1)
      simp only [Bool.not_eq_true'] at this
      rw [show idMod (o.dst.getD 99998 % 10000 + 10000 * j, bx) = o.dst.getD 99998 % 10000 from (Nat.add_mul_mod_self_left _ _ _).trans (Nat.mod_mod _ _), List.elem_eq_true_of_mem hmem] at this
      cases this
theorem dsts_of_opsK {all : List Oper} (hN : G.N ≤ 1000) (ops : List Oper) : (∀ o ∈ ops, dstOk G.N o.dst = true) → ∀ o ∈ ops, creates o.op = true → o.dst.getD 99998 % 10000 < 1000 ∨ o.dst.getD 99998 % 10000 = 9998 := by
  intro h o ho _
  rcases dst_cases hN (h o ho) _ rfl with h1 | h1
  · left; exact Nat.lt_of_le_of_lt (Nat.mod_le _ _) h1
  · right; rw [h1]
theorem region_sound (hg : Good P G) {id : Nat} {ops : Array Oper} {st : St} {K : Ex → St → Prop} {a : Act} {w : World} (hi : Inv X G.N w0 μ0 st a w) (hk : awp G (.region id ops false) st K) :
    (Code.region id ops false).wp P (Post X G.N w0 μ0 K) a w := by
  obtain ⟨xs, hgF⟩ := hg.F
  obtain ⟨μ, B, hs, hh, hd⟩ := hi
  obtain ⟨st, μ, B, hk, hs, hh, hd⟩ := startK_sound hs hh hd (show startK G ops.toList st fun st => bif !okStart ops.toList st.x || !(ops.toList.all fun o => dstOk G.N o.dst) then False else opsK G ops.toList ops.toList st [] fun st' inf => endK G id inf st' fun st'' => K .normal st'' from hk)
  obtain ⟨h1, hk⟩ := cond_false hk
  simp only [Bool.or_eq_false_iff, Bool.not_eq_false'] at h1
  obtain ⟨h2, h3⟩ := pend_start h1.1 hd (dsts_of_opsK (all := ops.toList) hg.N _ (fun o ho => List.all_eq_true.1 h1.2 o ho))
  refine wp_region ?_
  have := ops_sound (P := P) (X := X) (w0 := w0) (μ0 := μ0) hgF hg.T hg.E hg.N (arr := ops) (Q := Post X G.N w0 μ0 K) ops.toList 0 st [] _ a w μ B (fun j => by simp) hs hh h2 h3 (xs0 := st.x) (μs := μ) ⟨fun id h => .inl h, fun id bx h _ => ⟨bx, h⟩⟩ hk (fun st' inf' a' w' μ' B' hk' hs' hh' hdm => by
    obtain ⟨st2, μ2, B2, k1, k2, k3, k4⟩ := endK_sound hd hdm hs' hh' hk'
    exact ⟨.normal, st2, rfl, k1, μ2, B2, k2, k3, k4⟩)
  rw [List.range_eq_range']
  simpa using this
theorem drawn_sb {w : World} {μ : Mu} {B : Nat → Prop} {m : Nat → Option Bx} (h : SB X m μ B w) : SB X m μ B { w with drawn := w.drawn + 1 } := by
  have g : Grow B w B { w with drawn := w.drawn + 1 } := ⟨Nat.le_refl _, fun _ _ _ => rfl, fun _ h => h, fun _ _ h => h⟩
  have row : ∀ {μ : Mu} {cs : List L} {b o : Nat}, Row B w μ cs b o → Row B { w with drawn := w.drawn + 1 } μ cs b o := fun h => h.grow g (fun _ _ h => h) fun _ => rfl
  refine ⟨fun id bx hm => ?_, h.sep, h.loc, h.bx, h.sz, h.blt, h.gp.grow g⟩
  have hb := h.box id bx hm
  cases bx with
  | st cs => obtain ⟨b, o, k1, k2, k3, k4⟩ := hb; exact ⟨b, o, k1, row k2, k3, k4⟩
  | ar cs => rcases hb with k | ⟨b, o, k1, k2, k3, k4⟩
             · exact .inl k
             · exact .inr ⟨b, o, k1, row k2, k3, k4⟩
  | fz cs => rcases hb with k | ⟨b, o, k1, k2, k4⟩
             · exact .inl k
             · exact .inr ⟨b, o, k1, row k2, k4⟩
  | mp es => obtain ⟨b, k1, k2, k3, k4⟩ := hb; exact ⟨b, k1, k2.grow g rfl, k3, k4⟩
theorem drawn_sound (hg : Good P G) {id : Nat} {ops : Array Oper} {st : St} {K : Ex → St → Prop} {a : Act} {w : World} (hi : Inv X G.N w0 μ0 st a w) (hk : awp G (.region id ops true) st K) :
    (Code.region id ops true).wp P (Post X G.N w0 μ0 K) a w := by
  obtain ⟨xs, hgF⟩ := hg.F
  obtain ⟨μ, B, hs, hh, hd⟩ := hi
  obtain ⟨st, μ, B, hk, hs, hh, hd⟩ := startK_sound hs hh hd (show startK G ops.toList st fun st => bif !okStart ops.toList st.x || !(ops.toList.all fun o => dstOk G.N o.dst) then False else opsK G ops.toList ops.toList st [] fun st' inf => drawK (statB ops.toList (G.mask id)) (dynB inf (G.mask id)) (canonG G id st' fun st'' => K .normal st'') from hk)
  obtain ⟨h1, hk⟩ := cond_false hk
  simp only [Bool.or_eq_false_iff, Bool.not_eq_false'] at h1
  obtain ⟨h2, h3⟩ := pend_start h1.1 hd (dsts_of_opsK (all := ops.toList) hg.N _ (fun o ho => List.all_eq_true.1 h1.2 o ho))
  obtain ⟨evs, new, st', ⟨⟨hstat, hdyn⟩, hk⟩, k2, k3, k4, k5, k6⟩ := ops_trace ops.toList st [] _ (lookE st.e) (fun t => Eqv.refl _) hk
  rw [List.append_nil] at hdyn
  have told : Told G ops (G.mask id) st evs new := ⟨k2, k3, k4, hstat, hdyn⟩
  refine wp_region_any hg.M ?_
  refine draw_run (X := X) (w0 := w0) (μ0 := μ0) hgF hg.T hg.E hg.N hg.Z told h2 (fun S a w μ B hall hm => ?_) ops.size (Array.replicate ops.size false) (List.range ops.size) (by simp) (by simp) (fun i hi _ => by simpa using hi) ⟨fun k o hk hs => ?_⟩ a _ μ B ?_
  · have he : eS ops evs st S = preF (upEs ops.toList evs) (lookE st.e) := foldS_all _ _ _ fun j hj => by
      rw [Nat.zero_add]; exact hall j (by rw [upEs_len k2] at hj; simpa using hj)
    have hx : mS evs st S = preF (upMs evs) (boxOf st.x) := foldS_all _ _ _ fun j hj => by
      rw [Nat.zero_add]; exact hall j (by simp only [upMs, List.length_map] at hj; rw [k2] at hj; simpa using hj)
    have hsr : SR X G.N st' a w μ B := ⟨by rw [k6, ← hx]; exact hm.sb, fun t => k5 t _ _ _ _ (by rw [← he]; exact hm.env t), hm.sz, hm.dfr⟩
    obtain ⟨st2, μ2, B2, g1, g2, g3, g4⟩ := canonG_sound hsr hm.hist hk
    exact ⟨.normal, st2, rfl, g1, μ2, B2, g2, g3, g4⟩
  · have : (Array.replicate ops.size false).getD k false = false := by
      simp only [Array.getD]; split <;> simp
    rw [this] at hs; cases hs
  · have hS : ∀ j, (Array.replicate ops.size false).getD j false = false := fun j => by
      simp only [Array.getD]; split <;> simp
    have he : eS ops evs st (fun i => (Array.replicate ops.size false).getD i false) = lookE st.e := foldS_none _ _ _ fun j _ => hS _
    have hx : mS evs st (fun i => (Array.replicate ops.size false).getD i false) = boxOf st.x := foldS_none _ _ _ fun j _ => hS _
    have g : Grow B w B { w with drawn := w.drawn + 1 } := ⟨Nat.le_refl _, fun _ _ _ => rfl, fun _ h => h, fun _ _ h => h⟩
    refine ⟨by rw [hx]; exact drawn_sb hs.sb, fun t => ?_, hs.sz, hs.dfr, ⟨hh.base, hh.blk, hh.os, hh.tape, hh.output, hh.par, hh.own, hh.ex⟩, fun i o ho _ hc j => h3 o ?_ hc j⟩
    · rw [he]; exact (hs.env t).grow g fun _ _ h => h
    · have : o ∈ ops := Array.mem_of_getElem? ho
      simpa using this
theorem awp_sound (hg : Good P G) (c : Code) : ∀ (st : St) (K : Ex → St → Prop) (a : Act) (w : World), Inv X G.N w0 μ0 st a w → awp G c st K → c.wp P (Post X G.N w0 μ0 K) a w := by
  induction c with
  | skip => exact fun st K a w hi hk => wp_skip ⟨.normal, st, rfl, hk, hi⟩
  | region id ops draw =>
    intro st K a w hi hk
    cases draw with
    | false => exact region_sound hg hi hk
    | true => exact drawn_sound hg hi hk
  | seq x y ihx ihy =>
    intro st K a w hi hk
    refine wp_seq (wp_mono (ihx st _ a w hi hk) ?_)
    rintro e a' w' ⟨ex, st', rfl, hk', hi'⟩
    cases ex with
    | normal => exact ihy st' K a' w' hi' hk'
    | exit id => exact ⟨.exit id, st', rfl, hk', hi'⟩
    | ret => exact ⟨.ret, st', rfl, hk', hi'⟩
  | cond c x y ihx ihy =>
    intro st K a w hi hk
    change operandK st.e c _ at hk
    rw [operandK_eq] at hk
    have hi' := hi
    obtain ⟨μ, B, hs, hh, hd⟩ := hi'
    have hr := operand_rel hs c
    generalize operandV st.e c = v at hk hr
    generalize hu : a.eval c = u at hr
    cases v with
    | t _ => exact hk.elim
    | c v => cases v with
      | a _ => exact hk.elim
      | o l =>
        cases l <;> try exact hk.elim
        case tt => cases hr; exact wp_cond_true hu (ihx st K a w hi hk)
        case ff => cases hr; exact wp_cond_false hu (ihy st K a w hi hk)
        case b t => cases hr; exact wp_cond_split hu (fun ht => ihx st K a w hi (hk.1 ht)) (fun ht => ihy st K a w hi (hk.2 ht))
  | block id body ih =>
    intro st K a w hi hk
    refine wp_block (wp_mono (ih st _ a w hi hk) ?_)
    rintro e a' w' ⟨ex, st', rfl, hk', hi'⟩
    cases ex with
    | normal => exact ⟨.normal, st', rfl, hk', hi'⟩
    | ret => exact ⟨.ret, st', rfl, hk', hi'⟩
    | exit j =>
      show if j = id then _ else _
      change (bif Nat.beq j id then K .normal st' else K (.exit j) st') at hk'
      by_cases hj : j = id
      · subst hj
        rw [if_pos rfl]
        simp at hk'
        exact ⟨.normal, st', rfl, hk', hi'⟩
      · rw [if_neg hj]
        rw [beq_ne hj] at hk'
        exact ⟨.exit j, st', rfl, hk', hi'⟩
  | loop body ih =>
    intro st K a w hi hk
    obtain ⟨n, hk⟩ := hk
    refine wp_loop_rounds n ?_
    induction n generalizing st a w with
    | zero => exact hk.elim
    | succ n ihn =>
      refine wp_mono (ih st _ a w hi hk) ?_
      rintro e a' w' ⟨ex, st', rfl, hk', hi'⟩
      cases ex with
      | normal => exact ihn st' a' w' hi' hk'
      | exit id => exact ⟨.exit id, st', rfl, hk', hi'⟩
      | ret => exact ⟨.ret, st', rfl, hk', hi'⟩
  | exit id => exact fun st K a w hi hk => wp_exit ⟨.exit id, st, rfl, hk, hi⟩
  | ret => exact fun st K a w hi hk => wp_ret ⟨.ret, st, rfl, hk, hi⟩
  | rangeFunc f ps as b _ _ => exact fun st K a w hi hk => hk.elim
  | scope b _ => exact fun st K a w hi hk => hk.elim
  | label l => exact fun st K a w hi hk => hk.elim
  | goto l => exact fun st K a w hi hk => hk.elim
  | refuse y => exact fun st K a w hi hk => hk.elim
end
end Go.Sx

/-
  An evaluator of the model's code, proved right; an evaluator that runs, proved right by it: for every program; the conditions stand in each theorem.
-/
import Derived.Orders
import Derived.Calls
import Derived.Laws.IdiomCopy
import Derived.Laws.Append
import Derived.Laws.AppendOwn
import Derived.Laws.Entries
import Derived.Laws.BytesString
import Derived.Laws.Strings
import Derived.Laws.MakeOwn
set_option linter.all false
namespace Go.Sx
inductive L where
  | i (k : IntKind) (n : Int)
  | b (x : Bool)
  | tt
  | ff
  | s (x : List UInt8)
  | nl
  | sl (cs : List L) (n : Nat)
  | gw (id n sz : Nat)
  | gs (id off n sz : Nat)
  | np
  | p (id off : Nat)
  | pf (cs : List L)
  | f (fn : FuncId)
  | u
  | mp (id : Nat)
  | nz (m : Bool)
  | fc (fn : FuncId) (n : Nat) (sh : List Nat) (ls : List L)
inductive C where
  | o (l : L)
  | a (ls : List L)
inductive V where
  | c (x : C)
  | t (xs : List C)
inductive Bx where
  | st (cs : List L)
  | ar (cs : List L)
  | fz (cs : List L)
  | mp (es : List (L × C))
abbrev Env := List (Nat × V)
abbrev Bxs := List (Nat × Bx)
structure St where
  e : Env
  x : Bxs
inductive D where
  | int (k : IntKind)
  | bool
  | str
  | slice (e : TypeId)
  | ptr (e : TypeId)
  | struct (fs : List (Nat × TypeId))
  | array (n : Nat) (e : TypeId)
  | map (k e : TypeId)
  | func
  | other
def isOther : D → Bool
  | .other => true
  | _ => false
def isAgg : D → Bool
  | .struct _ => true
  | .array _ _ => true
  | _ => false
structure TI where
  size : Nat
  bytes : Nat
  agg : Bool
  zero : List L
  d : D
  eq : Bool
inductive R where
  | c (x : C)
  | fr (cs : List L) (n sz : Nat)
  | pt (cs : List L)
  | sa (pre cs : List L) (n sz : Nat) (post : List L)
  | pe (j off : Nat)
def rBox : R → Option Bx
  | .c _ => none
  | .fr cs _ _ => some (.ar cs)
  | .pt cs => some (.st cs)
  | .sa _ cs _ _ _ => some (.ar cs)
  | .pe _ _ => none
inductive Res where
  | one (r : R)
  | tup (rs : List R)
inductive sideK (p k : Prop) : Prop where
  | mk (h : p) (hk : k)
inductive wrapK (k : IntKind) (n : Int) (K : Int → Prop) : Prop where
  | mk (hk : K (k.wrap n))
inductive convK (k : IntKind) (n : Int) (K : Int → Prop) : Prop where
  | mk (hk : K (k.wrap n))
def bitN (op : BinOp) (k : IntKind) (a b : Int) : Int :=
  match op with
  | .and => (BitVec.ofInt k.bits a &&& BitVec.ofInt k.bits b).toNat
  | .or => (BitVec.ofInt k.bits a ||| BitVec.ofInt k.bits b).toNat
  | _ => (BitVec.ofInt k.bits a ^^^ BitVec.ofInt k.bits b).toNat
inductive bitK (op : BinOp) (k : IntKind) (a b : Int) (K : Int → Prop) : Prop where
  | mk (hk : K (k.wrap (bitN op k a b)))
inductive shlK (k : IntKind) (a b : Int) (K : Int → Prop) : Prop where
  | mk (h : 0 ≤ b) (hk : K (k.wrap (a * 2 ^ (min b.toNat k.bits))))
inductive shrK (k : IntKind) (a b : Int) (K : Int → Prop) : Prop where
  | mk (h : 0 ≤ b) (hk : K (a.fdiv (2 ^ (min b.toNat k.bits))))
inductive quoK (k : IntKind) (a b : Int) (K : Int → Prop) : Prop where
  | mk (h : b ≠ 0) (hk : K (k.wrap (a.tdiv b)))
inductive remK (a b : Int) (K : Int → Prop) : Prop where
  | mk (h : b ≠ 0) (hk : K (a.tmod b))
inductive catK (a b : List L) (K : List L → Prop) : Prop where
  | mk (hk : K (a ++ b))
inductive takeC (cs : List L) (n : Nat) (K : List L → Prop) : Prop where
  | mk (hk : K (cs.take n))
inductive dropC (cs : List L) (n : Nat) (K : List L → Prop) : Prop where
  | mk (hk : K (cs.drop n))
inductive nilK (n : Nat) (K : Bool → Prop) : Prop where
  | mk (h0 : n ≠ 0) (h1 : K false)
inductive eitherK (A B : Prop) : Prop where
  | l (h : A)
  | r (h : B)
inductive nlK (K : L → Prop) : Prop where
  | nl (h : K .nl)
  | sl (h : K (.sl [] 0))
inductive packK (cs : List L) (K : List L → Prop) : Prop where
  | mk (hk : K cs)
inductive natK (i : Int) (K : Nat → Prop) : Prop where
  | mk (hk : K i.toNat)
inductive headI (k : IntKind) (cs : List L) (K : Int → List L → Prop) : Prop where
  | mk (n : Int) (r : List L) (h : cs = .i k n :: r) (hk : K n r)
inductive headB (cs : List L) (K : Bool → List L → Prop) : Prop where
  | mk (x : Bool) (r : List L) (h : cs = .b x :: r) (hk : K x r)
inductive headS (cs : List L) (K : List UInt8 → List L → Prop) : Prop where
  | mk (x : List UInt8) (r : List L) (h : cs = .s x :: r) (hk : K x r)
inductive headV (cs : List L) (K : List L → Nat → List L → Prop) : Prop where
  | mk (x : List L) (n : Nat) (r : List L) (h : cs = .sl x n :: r) (hk : K x n r)
inductive headX (cs : List L) (K : L → List L → Prop) : Prop where
  | mk (x : L) (r : List L) (h : cs = x :: r) (hk : K x r)
noncomputable def getK (e : Env) : Nat → (V → Prop) → Prop :=
  List.rec (motive := fun _ => Nat → (V → Prop) → Prop) (fun _ K => K (.c (.o .u))) (fun kv _ ih t K => Prod.rec (motive := fun _ => Prop) (fun k v => bif Nat.beq k t then K v else ih t K) kv) e
abbrev LK := Nat → (Bx → Prop) → Prop
noncomputable def lookK (x : Bxs) : LK :=
  List.rec (motive := fun _ => LK) (fun _ _ => False) (fun kv _ ih t K => Prod.rec (motive := fun _ => Prop) (fun k v => bif Nat.beq k t then K v else ih t K) kv) x
def leafOf : Value → L
  | .int k n => .i k n
  | .bool true => .tt
  | .bool false => .ff
  | .string ⟨⟨l⟩⟩ => .s l
  | .slice none 0 0 => .nl
  | .pointer none => .np
  | .func (.func f) ⟨[]⟩ ⟨[]⟩ => .f f
  | .map none => .nz true
  | .nilFunc => .nz false
  | _ => .u
noncomputable def leavesOfK (vs : List Value) : (List L → Prop) → Prop :=
  List.rec (motive := fun _ => (List L → Prop) → Prop) (fun K => K []) (fun v _ ih K => ih fun ls => K (leafOf v :: ls)) vs
noncomputable def constK (v : Value) (K : V → Prop) : Prop :=
  match v with
  | .agg cs => leavesOfK cs.toList fun ls => K (.c (.a ls))
  | v => K (.c (.o (leafOf v)))
noncomputable def operandK (e : Env) (x : Operand) (K : V → Prop) : Prop :=
  match x with
  | .tmp t => getK e t K
  | .const v => constK v K
  | .func f => K (.c (.o (.f f)))
  | .global _ => K (.c (.o .u))
noncomputable def operandsK (e : Env) (xs : List Operand) : (List V → Prop) → Prop :=
  List.rec (motive := fun _ => (List V → Prop) → Prop) (fun K => K []) (fun x _ ih K => operandK e x fun v => ih fun vs => K (v :: vs)) xs
noncomputable def cutK (cs : List L) : (off n : Nat) → (List L → Prop) → Prop :=
  List.rec (motive := fun _ => Nat → Nat → (List L → Prop) → Prop)
    (fun off n K => match off, n with
      | 0, 0 => K []
      | _, _ => False)
    (fun c _ ih off n K => match off, n with
      | 0, 0 => K []
      | 0, n + 1 => ih 0 n fun ls => K (c :: ls)
      | o + 1, n => ih o n K) cs
noncomputable def putK (cs : List L) : (off : Nat) → List L → (List L → Prop) → Prop :=
  List.rec (motive := fun _ => Nat → List L → (List L → Prop) → Prop)
    (fun off ls K => match off, ls with
      | 0, [] => K []
      | _, _ => False)
    (fun c r ih off ls K => match off, ls with
      | 0, [] => K (c :: r)
      | 0, l :: ls => ih 0 ls fun q => K (l :: q)
      | o + 1, ls => ih o ls fun q => K (c :: q)) cs
noncomputable def loadK (zs : List L) : List L → (List L → Prop) → Prop :=
  List.rec (motive := fun _ => List L → (List L → Prop) → Prop) (fun _ K => K [])
    (fun z _ ih cs K => match z with
      | .i k _ => headI k cs fun n r => ih r fun ls => K (.i k n :: ls)
      | .ff => headB cs fun x r => ih r fun ls => K (.b x :: ls)
      | .s _ => headS cs fun x r => ih r fun ls => K (.s x :: ls)
      | .nl => headV cs fun x n r => ih r fun ls => K (.sl x n :: ls)
      | _ => headX cs fun x r => ih r fun ls => K (x :: ls)) zs
def cz : L → L
  | .ff => .b false
  | .nl => .sl [] 0
  | l => l
noncomputable def czK (zs : List L) : (List L → Prop) → Prop :=
  List.rec (motive := fun _ => (List L → Prop) → Prop) (fun K => K []) (fun z _ ih K => ih fun r => K (cz z :: r)) zs
def putAt (cs : List L) (off : Nat) (ls : List L) : List L := cs.take off ++ ls ++ cs.drop (off + ls.length)
def mkV (agg : Bool) (ls : List L) (K : V → Prop) : Prop :=
  match agg with
  | true => K (.c (.a ls))
  | false => match ls with
    | [l] => K (.c (.o l))
    | _ => False
def isU : L → Bool
  | .u => true
  | _ => false
def leavesK (v : V) (K : List L → Prop) : Prop :=
  match v with
  | .c (.o l) => bif isU l then False else K [l]
  | .c (.a ls) => bif ls.any isU then False else K ls
  | .t _ => False
def isPar (id : Nat) : Bool := Nat.ble 1000 id && Nat.blt id 1100
def isOwn (id : Nat) : Bool := Nat.ble 1100 id && Nat.blt id 2000
def isRes (id : Nat) : Bool := isPar id || isOwn id
def u8 (x : UInt8) : L := .i .u8 x.toNat
abbrev Eff := List (Nat × Option Bx)
noncomputable def closeK (x : LK) (ls : List L) : (List L → Eff → Prop) → Prop :=
  List.rec (motive := fun _ => (List L → Eff → Prop) → Prop) (fun K => K [] [])
    (fun l _ ih K => match l with
      | .gw id n _ => x id fun bx => match bx with
        | .ar cs => bif isPar id then False else ih fun ls ef => K (.sl cs n :: ls) ((id, some (.fz cs)) :: ef)
        | .fz cs => ih fun ls ef => K (.sl cs n :: ls) ef
        | _ => False
      | .gs id off n sz => x id fun bx => match bx with
        | .ar cs => bif isPar id then False else ih fun ls ef => K (.sl ((cs.drop off).take (n * sz)) n :: ls) ((id, some (.fz cs)) :: ef)
        | .fz cs => ih fun ls ef => K (.sl ((cs.drop off).take (n * sz)) n :: ls) ef
        | _ => False
      | .nl => ih fun ls ef => K (.sl [] 0 :: ls) ef
      | .tt => ih fun ls ef => K (.b true :: ls) ef
      | .ff => ih fun ls ef => K (.b false :: ls) ef
      | .p _ _ => False
      | .u => False
      | .mp _ => False
      | .fc _ _ _ _ => False
      | l => ih fun ls ef => K (l :: ls) ef) ls
structure boolK (x : Bool) (A B : Prop) : Prop where
  yes : x = true → A
  no : x = false → B
def intOp (op : BinOp) (k : IntKind) (a b : Int) (K : L → Prop) : Prop :=
  match op with
  | .add => wrapK k (a + b) fun n => K (.i k n)
  | .sub => wrapK k (a - b) fun n => K (.i k n)
  | .mul => wrapK k (a * b) fun n => K (.i k n)
  | .quo => quoK k a b fun n => K (.i k n)
  | .rem => remK a b fun n => K (.i k n)
  | .and => bitK .and k a b fun n => K (.i k n)
  | .or => bitK .or k a b fun n => K (.i k n)
  | .xor => bitK .xor k a b fun n => K (.i k n)
  | .eql => K (.b (a == b))
  | .neq => K (.b (a != b))
  | .lss => K (.b (decide (a < b)))
  | .leq => K (.b (decide (a ≤ b)))
  | .gtr => K (.b (decide (a > b)))
  | .geq => K (.b (decide (a ≥ b)))
  | _ => False
def shiftOp (op : BinOp) (k : IntKind) (a b : Int) (K : L → Prop) : Prop :=
  match op with
  | .shl => shlK k a b fun n => K (.i k n)
  | .shr => shrK k a b fun n => K (.i k n)
  | _ => False
def strOp (op : BinOp) (a b : List UInt8) (K : L → Prop) : Prop :=
  match op with
  | .add => sideK (a.length + b.length ≤ 9223372036854775807) (K (.s (a ++ b)))
  | .eql => K (.b (a == b))
  | .neq => K (.b (!(a == b)))
  | .lss => K (.b (Op.bytesLess a b))
  | .leq => K (.b (Op.bytesLess a b || a == b))
  | .gtr => K (.b (!(Op.bytesLess a b || a == b)))
  | .geq => K (.b (!Op.bytesLess a b))
  | _ => False
def boolOf (l : L) (K : Bool → Prop) : Prop :=
  match l with
  | .b x => K x
  | .tt => K true
  | .ff => K false
  | _ => False
def kindEq (k k' : IntKind) : Bool :=
  match k, k' with
  | .i8, .i8 | .i16, .i16 | .i32, .i32 | .i64, .i64 | .u8, .u8 | .u16, .u16 | .u32, .u32 | .u64, .u64 => true
  | _, _ => false
noncomputable def eqK (zs : List L) : List L → List L → (Bool → Prop) → Prop :=
  List.rec (motive := fun _ => List L → List L → (Bool → Prop) → Prop)
    (fun xs ys K => match xs, ys with
      | [], [] => K true
      | _, _ => False)
    (fun z _ ih xs ys K => match xs, ys with
      | l :: p, m :: q => match z with
        | .i k _ => match l, m with
          | .i k1 a, .i k2 b => bif kindEq k k1 && kindEq k k2 then ih p q fun x => K (a == b && x) else False
          | _, _ => False
        | .s _ => match l, m with
          | .s a, .s b => ih p q fun x => K (a == b && x)
          | _, _ => False
        | .ff => boolOf l fun a => boolOf m fun b => ih p q fun x => K (a == b && x)
        | _ => False
      | _, _ => False) zs
def nilSem (l m : L) (K : Bool → Prop) : Prop :=
  match m with
  | .nl => match l with
    | .nl => K true
    | .sl _ n => nilK n K
    | .gw _ n _ => nilK n K
    | .gs _ _ n _ => nilK n K
    | _ => False
  | _ => False
def boolSem (ti : TI) (op : BinOp) (l m : L) (K : L → Prop) : Prop :=
  match ti.d with
  | .slice _ => match op with
    | .eql => nilSem l m fun b => K (.b b)
    | .neq => nilSem l m fun b => K (.b (!b))
    | _ => False
  | .bool => match op with
    | .eql => boolOf l fun a => boolOf m fun b => K (.b (a == b))
    | .neq => boolOf l fun a => boolOf m fun b => K (.b (!(a == b)))
    | _ => False
  | _ => False
noncomputable def binSem (ti : TI) (op : BinOp) (x y : V) (K : L → Prop) : Prop :=
  match x, y with
  | .c (.o l), .c (.o m) => match l with
    | .i k a => match m with
      | .i k' b => match op with
        | .shl => shiftOp .shl k a b K
        | .shr => shiftOp .shr k a b K
        | op => bif kindEq k k' then intOp op k a b K else False
      | _ => False
    | .s a => match m with
      | .s b => strOp op a b K
      | _ => False
    | l => boolSem ti op l m K
  | .c (.a xs), .c (.a ys) => bif ti.eq then match op with
      | .eql => eqK ti.zero xs ys fun r => K (.b r)
      | .neq => eqK ti.zero xs ys fun r => K (.b (!r))
      | _ => False
    else False
  | _, _ => False
inductive bytesK (cs : List L) (K : List UInt8 → Prop) : Prop where
  | mk (l : List UInt8) (h : cs = l.map u8) (hk : K l)
def contentK (x : LK) (l : L) (K : List L → Nat → Prop) : Prop :=
  match l with
  | .nl => K [] 0
  | .sl cs n => K cs n
  | .gw id n _ => x id fun bx => match bx with
    | .ar cs => K cs n
    | .fz cs => K cs n
    | _ => False
  | .gs id off n sz => x id fun bx => match bx with
    | .ar cs => dropC cs off fun cs => takeC cs (n * sz) fun cs => K cs n
    | .fz cs => dropC cs off fun cs => takeC cs (n * sz) fun cs => K cs n
    | _ => False
  | _ => False
def offK (n : Nat) (i : Int) (K : Nat → Prop) : Prop := sideK (0 ≤ i ∧ i < n) (natK i K)
noncomputable def fillK (ps : List ((Nat × Nat) × V)) : List L → (List L → Prop) → Prop :=
  List.rec (motive := fun _ => List L → (List L → Prop) → Prop) (fun zs K => K zs)
    (fun q _ ih zs K => leavesK q.2 fun ls => bif Nat.beq ls.length q.1.2 then putK zs q.1.1 ls fun zs' => ih zs' K else False) ps
noncomputable def zipK (f : Nat → Nat × Nat) (ps : List (Nat × Operand)) : List V → (List ((Nat × Nat) × V) → Prop) → Prop :=
  List.rec (motive := fun _ => List V → (List ((Nat × Nat) × V) → Prop) → Prop)
    (fun vs K => match vs with
      | [] => K []
      | _ => False)
    (fun a _ ih vs K => match vs with
      | [] => False
      | v :: q => ih q fun l => K ((f a.1, v) :: l)) ps
noncomputable def repK (zs : List L) (n : Nat) : (List L → Prop) → Prop :=
  Nat.rec (motive := fun _ => (List L → Prop) → Prop) (fun K => K []) (fun _ ih K => ih fun r => K (zs ++ r)) n
def rep (zs : List L) : Nat → List L
  | 0 => []
  | n + 1 => zs ++ rep zs n
noncomputable def nthK (cs : List C) : Nat → (C → Prop) → Prop :=
  List.rec (motive := fun _ => Nat → (C → Prop) → Prop) (fun _ _ => False)
    (fun c _ ih n K => match n with
      | 0 => K c
      | n + 1 => ih n K) cs
def boundsK (n : Nat) (lo hi : Option V) (K : Nat → Nat → Prop) : Prop :=
  match lo, hi with
  | none, none => K 0 n
  | some (.c (.o (.i _ a))), none => sideK (0 ≤ a ∧ a ≤ n) (natK a fun a => K a n)
  | none, some (.c (.o (.i _ b))) => sideK (0 ≤ b ∧ b ≤ n) (natK b fun b => K 0 b)
  | some (.c (.o (.i _ a))), some (.c (.o (.i _ b))) => sideK (0 ≤ a ∧ a ≤ b ∧ b ≤ n) (natK a fun a => natK b fun b => K a b)
  | _, _ => False
def cutL {α : Type} (l : List α) (lo hi : Option V) (a b sz : Nat) : List α :=
  match lo, hi with
  | none, none => l
  | some _, none => l.drop (a * sz)
  | none, some _ => l.take (b * sz)
  | some _, some _ => (l.take (b * sz)).drop (a * sz)
def cutLK (l : List L) (lo hi : Option V) (a b sz : Nat) (K : List L → Prop) : Prop :=
  match lo, hi with
  | none, none => K l
  | some _, none => dropC l (a * sz) K
  | none, some _ => takeC l (b * sz) K
  | some _, some _ => takeC l (b * sz) fun l => dropC l (a * sz) K
theorem cutLK_elim {l : List L} {lo hi : Option V} {a b sz : Nat} {K : List L → Prop} (h : cutLK l lo hi a b sz K) : K (cutL l lo hi a b sz) := by
  match lo, hi, h with
  | none, none, h => exact h
  | some _, none, ⟨h⟩ => exact h
  | none, some _, ⟨h⟩ => exact h
  | some _, some _, ⟨⟨h⟩⟩ => exact h
def cutS (l : List UInt8) (lo hi : Option V) (a b : Nat) : List UInt8 :=
  match lo, hi with
  | none, none => l
  | some _, none => l.drop a
  | none, some _ => l.take b
  | some _, some _ => (l.take b).drop a
theorem cutS_eq (l : List UInt8) (lo hi : Option V) (a b : Nat) : cutS l lo hi a b = cutL l lo hi a b 1 := by
  cases lo <;> cases hi <;> simp [cutS, cutL]
def cutSK (l : List UInt8) (lo hi : Option V) (a b : Nat) (K : List UInt8 → Prop) : Prop :=
  match lo, hi with
  | none, none => K l
  | some _, none => K (l.drop a)
  | none, some _ => K (l.take b)
  | some _, some _ => K ((l.take b).drop a)
theorem cutSK_elim {l : List UInt8} {lo hi : Option V} {a b : Nat} {K : List UInt8 → Prop} (h : cutSK l lo hi a b K) : K (cutS l lo hi a b) := by
  match lo, hi, h with
  | none, none, h => exact h
  | some _, none, h => exact h
  | none, some _, h => exact h
  | some _, some _, h => exact h
abbrev FnT := FuncId → List C → Bxs → Res → Bxs → Prop
noncomputable def heldA (x : LK) (b : Nat) (cl : List L) : Nat → (List L → Bxs → List (Nat × Nat) → Prop) → Prop :=
  List.rec (motive := fun _ => Nat → (List L → Bxs → List (Nat × Nat) → Prop) → Prop) (fun _ K => K [] [] [])
    (fun l _ ih i K => match l with
      | .gw id n sz => x id fun bx => match bx with
        | .ar cs => bif isPar id then False else ih (i + 1) fun ls bs mp => K (.gw (b + i) n sz :: ls) ((b + i, .ar cs) :: bs) ((b + i, id) :: mp)
        | .fz cs => ih (i + 1) fun ls bs mp => K (.sl cs n :: ls) bs mp
        | _ => False
      | .gs id off n sz => x id fun bx => match bx with
        | .fz cs => ih (i + 1) fun ls bs mp => K (.sl ((cs.drop off).take (n * sz)) n :: ls) bs mp
        | _ => False
      | .nl => ih (i + 1) fun ls bs mp => K (.sl [] 0 :: ls) bs mp
      | .tt => ih (i + 1) fun ls bs mp => K (.b true :: ls) bs mp
      | .ff => ih (i + 1) fun ls bs mp => K (.b false :: ls) bs mp
      | .p _ _ => False
      | .u => False
      | .mp _ => False
      | .fc _ _ _ _ => False
      | l => ih (i + 1) fun ls bs mp => K (l :: ls) bs mp) cl
def assocR : List (Nat × Nat) → Nat → Option Nat
  | [], _ => none
  | (k, v) :: r, t => bif Nat.beq v t then some k else assocR r t
noncomputable def argsK (x : LK) (vs : List V) : Nat → List (Nat × Nat) → (List C → Bxs → List (Nat × Nat) → List Nat → Prop) → Prop :=
  List.rec (motive := fun _ => Nat → List (Nat × Nat) → (List C → Bxs → List (Nat × Nat) → List Nat → Prop) → Prop) (fun _ _ K => K [] [] [] [])
    (fun v _ ih j acc K => match v with
      | .c (.o l) => match l with
        | .p id off => match assocR acc id with
          | some nm => ih (j + 1) acc fun cs bs m rd => K (.o (.p nm off) :: cs) bs m rd
          | none => match off with
            | 0 => x id fun bx => match bx with
              | .st cl => heldA x (1100 + 16 * j) cl 0 fun ls' hb hm => ih (j + 1) (hm ++ acc) fun cs bs m rd => K (.o (.p (1000 + j) 0) :: cs) ((1000 + j, .st ls') :: (hb ++ bs)) ((1000 + j, id) :: (hm ++ m)) rd
              | .ar cl => ih (j + 1) acc fun cs bs m rd => K (.o (.p (1000 + j) 0) :: cs) ((1000 + j, .ar cl) :: bs) ((1000 + j, id) :: m) rd
              | _ => False
            | _ => False
        | .gw id n sz => contentK x (.gw id n sz) fun c m' => ih (j + 1) acc fun cs bs m rd => K (.o (.sl c m') :: cs) bs m (id :: rd)
        | .gs id off n sz => contentK x (.gs id off n sz) fun c m' => ih (j + 1) acc fun cs bs m rd => K (.o (.sl c m') :: cs) bs m (id :: rd)
        | .nl => nlK fun l => ih (j + 1) acc fun cs bs m rd => K (.o l :: cs) bs m rd
        | .tt => ih (j + 1) acc fun cs bs m rd => K (.o (.b true) :: cs) bs m rd
        | .ff => ih (j + 1) acc fun cs bs m rd => K (.o (.b false) :: cs) bs m rd
        | .u => False
        | .mp _ => False
        | .fc _ _ _ _ => False
        | l => ih (j + 1) acc fun cs bs m rd => K (.o l :: cs) bs m rd
      | .c (.a ls) => closeK x ls fun ls' ef => ih (j + 1) acc fun cs bs m rd => K (.a ls' :: cs) bs m (ef.map (·.1) ++ rd)
      | .t _ => False) vs
def isFc : L → Bool
  | .fc _ _ _ _ => true
  | _ => false
def frozenLeaf : L → Bool
  | .sl _ _ => true
  | .fc _ _ _ _ => true
  | .pf _ => true
  | _ => false
def frozenRes : List R → Bool
  | [] => false
  | .c (.o l) :: r => frozenLeaf l || frozenRes r
  | .c (.a ls) :: r => ls.any frozenLeaf || frozenRes r
  | .fr _ _ _ :: _ => true
  | .pt _ :: _ => true
  | .sa _ _ _ _ _ :: _ => true
  | .pe _ _ :: _ => true
noncomputable def fzK (x : LK) (ids : List Nat) : (Eff → Prop) → Prop :=
  List.rec (motive := fun _ => (Eff → Prop) → Prop) (fun K => K [])
    (fun id _ ih K => x id fun bx => match bx with
      | .ar cs => bif isPar id then False else ih fun ef => K ((id, some (.fz cs)) :: ef)
      | .fz _ => ih fun ef => K ef
      | _ => False) ids
def assocN : List (Nat × Nat) → Nat → Option Nat
  | [], _ => none
  | (k, v) :: r, t => bif Nat.beq k t then some v else assocN r t
def nmB (dst : Nat) (m : List (Nat × Nat)) (id : Nat) : Nat := bif isOwn id then (assocN m id).getD 0 else dst + 10000 * (id - 2000)
def rC (dst : Nat) (m : List (Nat × Nat)) (j : Nat) : R → C
  | .c x => x
  | .fr _ n sz => .o (.gw (dst + 10000 * j) n sz)
  | .pt _ => .o (.p (dst + 10000 * j) 0)
  | .sa pre _ n sz post => .a (pre ++ .gw (dst + 10000 * j) n sz :: post)
  | .pe nm off => .o (.p (nmB dst m nm) off)
noncomputable def resK (dst : Nat) (m : List (Nat × Nat)) (rs : List R) : Nat → (List C → Eff → Prop) → Prop :=
  List.rec (motive := fun _ => Nat → (List C → Eff → Prop) → Prop) (fun _ K => K [] [])
    (fun r _ ih j K => match r with
      | .c x => ih (j + 1) fun cs ef => K (x :: cs) ef
      | .fr cs n sz => ih (j + 1) fun cs' ef => K (.o (.gw (dst + 10000 * j) n sz) :: cs') ((dst + 10000 * j, some (.ar cs)) :: ef)
      | .pt cs => ih (j + 1) fun cs' ef => K (.o (.p (dst + 10000 * j) 0) :: cs') ((dst + 10000 * j, some (.st cs)) :: ef)
      | .sa pre cs n sz post => ih (j + 1) fun cs' ef => K (.a (pre ++ .gw (dst + 10000 * j) n sz :: post) :: cs') ((dst + 10000 * j, some (.ar cs)) :: ef)
      | .pe nm off => ih (j + 1) fun cs' ef => K (.o (.p (nmB dst m nm) off) :: cs') ef) rs
def renL (dst : Nat) (m : List (Nat × Nat)) : L → L
  | .gw id n sz => .gw (nmB dst m id) n sz
  | l => l
noncomputable def renK (dst : Nat) (m : List (Nat × Nat)) (cs : List L) : (List L → Prop) → Prop :=
  List.rec (motive := fun _ => (List L → Prop) → Prop) (fun K => K [])
    (fun l _ ih K => match l with
      | .gw id n sz => ih fun r => K (.gw (nmB dst m id) n sz :: r)
      | l => ih fun r => K (l :: r)) cs
noncomputable def backK (dst : Nat) (m : List (Nat × Nat)) (bs : Bxs) : (Eff → Prop) → Prop :=
  List.rec (motive := fun _ => (Eff → Prop) → Prop) (fun K => K [])
    (fun q _ ih K => bif isPar q.1 then match assocN m q.1 with
      | some id' => match q.2 with
        | .st cs => renK dst m cs fun cs' => ih fun ef => K ((id', some (.st cs')) :: ef)
        | bx => ih fun ef => K ((id', some bx) :: ef)
      | none => False
    else match q.2 with
      | .ar cs => ih fun ef => K ((nmB dst m q.1, some (.ar cs)) :: ef)
      | _ => False) bs
def goneEf (bs : Bxs) : List (Nat × Nat) → Eff
  | [] => []
  | (k, id) :: r => bif isPar k || (bs.map (·.1)).elem k then goneEf bs r else (id, none) :: goneEf bs r
def frozenBx : Bx → Bool
  | .st cs => cs.any frozenLeaf
  | _ => true
def nodupB : List Nat → Bool
  | [] => true
  | a :: r => !r.elem a && nodupB r
def okArgs (m : List (Nat × Nat)) (rd : List Nat) : Bool := nodupB (m.map (·.1)) && (nodupB (m.map (·.2)) && ((m.map (·.2)).all (fun id => !rd.elem id) && (m.map (·.1)).all fun k => isPar k || isOwn k))
def resList : Res → List R
  | .one r => [r]
  | .tup rs => rs
def resV (res : Res) (cs : List C) (K : V → Prop) : Prop :=
  match res with
  | .one _ => match cs with
    | [c] => K (.c c)
    | _ => False
  | .tup _ => K (.t cs)
inductive callK (F : FnT) (f : FuncId) (cs : List C) (bs : Bxs) (K : Res → Bxs → Prop) : Prop where
  | mk (res : Res) (bs' : Bxs) (h : F f cs bs res bs') (hk : K res bs')
noncomputable def callSem (F : FnT) (f : FuncId) (dst : Nat) (vs : List V) (x : LK) (K : V → Eff → Prop) : Prop :=
  bif Nat.ble 100 vs.length then False else
  argsK x vs 0 [] fun cs bs m rd => bif !okArgs m rd then False else callK F f cs bs fun res bs' => backK dst m bs' fun ef0 =>
    resK dst m (resList res) 0 fun cs' ef => resV res cs' fun v =>
      bif frozenRes (resList res) || bs'.any fun q => frozenBx q.2 then fzK x rd fun ef1 => K v (ef ++ (ef0 ++ goneEf bs' m) ++ ef1) else K v (ef ++ (ef0 ++ goneEf bs' m))
def boxOf : Bxs → Nat → Option Bx
  | [], _ => none
  | (k, v) :: r, t => bif Nat.beq k t then some v else boxOf r t
def idsL0 : L → List Nat
  | .gw id _ _ | .gs id _ _ _ | .p id _ | .mp id => [id]
  | _ => []
def idsL0s : List L → List Nat
  | [] => []
  | l :: r => idsL0 l ++ idsL0s r
def idsL : L → List Nat
  | .gw id _ _ | .gs id _ _ _ | .p id _ | .mp id => [id]
  | .fc _ _ _ ls => idsL0s ls
  | _ => []
def idsLs : List L → List Nat
  | [] => []
  | l :: r => idsL l ++ idsLs r
def idsC : C → List Nat
  | .o l => idsL l
  | .a ls => idsLs ls
def idsV : V → List Nat
  | .c x => idsC x
  | .t xs => xs.flatMap idsC
def idsE : Env → List Nat
  | [] => []
  | (_, v) :: r => idsV v ++ idsE r
def idsX : Bxs → List Nat
  | [] => []
  | (_, .st cs) :: r => idsLs cs ++ idsX r
  | _ :: r => idsX r
abbrev FnTX := FuncId → List C → Bxs → List C → Bxs → Prop
structure Fs where
  F : FnT
  FX : FnTX
  xs : List Nat
noncomputable def elemN (a : Nat) (l : List Nat) : Bool := List.rec (motive := fun _ => Bool) false (fun b _ ih => bif Nat.beq b a then true else ih) l
def idL0R (l : L) (r : List Nat) : List Nat :=
  match l with
  | .gw id _ _ => id :: r
  | .gs id _ _ _ => id :: r
  | .p id _ => id :: r
  | .mp id => id :: r
  | _ => r
noncomputable def idL0sR (ls : List L) (r : List Nat) : List Nat := List.rec (motive := fun _ => List Nat) r (fun l _ ih => idL0R l ih) ls
noncomputable def idLR (l : L) (r : List Nat) : List Nat :=
  match l with
  | .gw id _ _ => id :: r
  | .gs id _ _ _ => id :: r
  | .p id _ => id :: r
  | .mp id => id :: r
  | .fc _ _ _ ls => idL0sR ls r
  | _ => r
noncomputable def idLsR (ls : List L) (r : List Nat) : List Nat := List.rec (motive := fun _ => List Nat) r (fun l _ ih => idLR l ih) ls
noncomputable def idCR (c : C) (r : List Nat) : List Nat :=
  match c with
  | .o l => idLR l r
  | .a ls => idLsR ls r
noncomputable def idCsR (cs : List C) (r : List Nat) : List Nat := List.rec (motive := fun _ => List Nat) r (fun l _ ih => idCR l ih) cs
noncomputable def idVR (v : V) (r : List Nat) : List Nat :=
  match v with
  | .c c => idCR c r
  | .t cs => idCsR cs r
noncomputable def idVsR (vs : List V) (r : List Nat) : List Nat := List.rec (motive := fun _ => List Nat) r (fun l _ ih => idVR l ih) vs
noncomputable def cloK (x : LK) (n : Nat) : List Nat → List Nat → (List Nat → Prop) → Prop :=
  Nat.rec (motive := fun _ => List Nat → List Nat → (List Nat → Prop) → Prop) (fun _ _ _ => False)
    (fun _ ih todo acc K => match todo with
      | [] => K acc
      | a :: r => bif elemN a acc then ih r acc K else x a fun bx => match bx with
        | .st cs => ih (idLsR cs r) (a :: acc) K
        | _ => ih r (a :: acc) K) n
noncomputable def cloF (m : Nat → Option Bx) (n : Nat) : List Nat → List Nat → List Nat :=
  Nat.rec (motive := fun _ => List Nat → List Nat → List Nat) (fun _ acc => acc)
    (fun _ ih todo acc => match todo with
      | [] => acc
      | a :: r => bif elemN a acc then ih r acc else match m a with
        | some (.st cs) => ih (idLsR cs r) (a :: acc)
        | _ => ih r (a :: acc)) n
def ownTab : List Nat := [1100, 1101, 1102, 1103, 1104, 1105, 1106, 1107, 1108, 1109, 1110, 1111, 1112, 1113, 1114, 1115, 1116, 1117, 1118, 1119, 1120, 1121, 1122, 1123, 1124, 1125, 1126, 1127, 1128, 1129, 1130, 1131, 1132, 1133, 1134, 1135, 1136, 1137, 1138, 1139, 1140, 1141, 1142, 1143, 1144, 1145, 1146, 1147, 1148, 1149, 1150, 1151, 1152, 1153, 1154, 1155, 1156, 1157, 1158, 1159, 1160, 1161, 1162, 1163, 1164, 1165, 1166, 1167, 1168, 1169, 1170, 1171, 1172, 1173, 1174, 1175, 1176, 1177, 1178, 1179, 1180, 1181, 1182, 1183, 1184, 1185, 1186, 1187, 1188, 1189, 1190, 1191, 1192, 1193, 1194, 1195, 1196, 1197, 1198, 1199]
def nmTab : List Nat := [2000, 2001, 2002, 2003, 2004, 2005, 2006, 2007, 2008, 2009, 2010, 2011, 2012, 2013, 2014, 2015, 2016, 2017, 2018, 2019, 2020, 2021, 2022, 2023, 2024, 2025, 2026, 2027, 2028, 2029, 2030, 2031, 2032, 2033, 2034, 2035, 2036, 2037, 2038, 2039, 2040, 2041, 2042, 2043, 2044, 2045, 2046, 2047, 2048, 2049, 2050, 2051, 2052, 2053, 2054, 2055, 2056, 2057, 2058, 2059, 2060, 2061, 2062, 2063, 2064, 2065, 2066, 2067, 2068, 2069, 2070, 2071, 2072, 2073, 2074, 2075, 2076, 2077, 2078, 2079, 2080, 2081, 2082, 2083, 2084, 2085, 2086, 2087, 2088, 2089, 2090, 2091, 2092, 2093, 2094, 2095, 2096, 2097, 2098, 2099]
noncomputable def pairK (ids : List Nat) : List Nat → (List (Nat × Nat) → Prop) → Prop :=
  List.rec (motive := fun _ => List Nat → (List (Nat × Nat) → Prop) → Prop) (fun _ K => K [])
    (fun id _ ih tab K => match tab with
      | [] => False
      | t :: ts => ih ts fun r => K ((id, t) :: r)) ids
noncomputable def assocK (r : List (Nat × Nat)) (t : Nat) (K : Nat → Prop) : Prop :=
  List.rec (motive := fun _ => Prop) False (fun q _ ih => Prod.rec (motive := fun _ => Prop) (fun k v => bif Nat.beq k t then K v else ih) q) r
noncomputable def ren0K (r : List (Nat × Nat)) (l : L) (K : L → Prop) : Prop :=
  match l with
  | .gw id n sz => assocK r id fun j => K (.gw j n sz)
  | .gs id off n sz => assocK r id fun j => K (.gs j off n sz)
  | .p id off => assocK r id fun j => K (.p j off)
  | .mp id => assocK r id fun j => K (.mp j)
  | .fc _ _ _ _ => False
  | l => K l
noncomputable def ren0sK (r : List (Nat × Nat)) (ls : List L) : (List L → Prop) → Prop :=
  List.rec (motive := fun _ => (List L → Prop) → Prop) (fun K => K []) (fun l _ ih K => ren0K r l fun l' => ih fun q => K (l' :: q)) ls
noncomputable def renLK (r : List (Nat × Nat)) (l : L) (K : L → Prop) : Prop :=
  match l with
  | .gw id n sz => assocK r id fun j => K (.gw j n sz)
  | .gs id off n sz => assocK r id fun j => K (.gs j off n sz)
  | .p id off => assocK r id fun j => K (.p j off)
  | .mp id => assocK r id fun j => K (.mp j)
  | .fc g n sh ls => ren0sK r ls fun ls' => K (.fc g n sh ls')
  | l => K l
noncomputable def renLsK (r : List (Nat × Nat)) (ls : List L) : (List L → Prop) → Prop :=
  List.rec (motive := fun _ => (List L → Prop) → Prop) (fun K => K []) (fun l _ ih K => renLK r l fun l' => ih fun q => K (l' :: q)) ls
noncomputable def renCK (r : List (Nat × Nat)) (c : C) (K : C → Prop) : Prop :=
  match c with
  | .o l => renLK r l fun l' => K (.o l')
  | .a ls => renLsK r ls fun ls' => K (.a ls')
noncomputable def renCsK (r : List (Nat × Nat)) (cs : List C) : (List C → Prop) → Prop :=
  List.rec (motive := fun _ => (List C → Prop) → Prop) (fun K => K []) (fun l _ ih K => renCK r l fun l' => ih fun q => K (l' :: q)) cs
noncomputable def renBK (r : List (Nat × Nat)) (b : Bx) (K : Bx → Prop) : Prop :=
  match b with
  | .st cs => renLsK r cs fun cs' => K (.st cs')
  | b => K b
noncomputable def compsK (vs : List V) : (List C → Prop) → Prop :=
  List.rec (motive := fun _ => (List C → Prop) → Prop) (fun K => K [])
    (fun v _ ih K => match v with
      | .c c => ih fun q => K (c :: q)
      | .t _ => False) vs
noncomputable def inBsK (x : LK) (r : List (Nat × Nat)) (l : List (Nat × Nat)) : (Bxs → Prop) → Prop :=
  List.rec (motive := fun _ => (Bxs → Prop) → Prop) (fun K => K [])
    (fun q _ ih K => Prod.rec (motive := fun _ => Prop) (fun id nm => x id fun bx => renBK r bx fun bx' => ih fun bs => K ((nm, bx') :: bs)) q) l
noncomputable def backXK (bs' : Bxs) (r : List (Nat × Nat)) (l : List (Nat × Nat)) : (Eff → Prop) → Prop :=
  List.rec (motive := fun _ => (Eff → Prop) → Prop) (fun K => K [])
    (fun q _ ih K => Prod.rec (motive := fun _ => Prop) (fun id nm => match boxOf bs' nm with
      | none => ih fun ef => K ((id, none) :: ef)
      | some bx => renBK r bx fun bx' => ih fun ef => K ((id, some bx') :: ef)) q) l
noncomputable def invK (bs' : Bxs) (l : List (Nat × Nat)) : (List (Nat × Nat) → List Nat → Prop) → Prop :=
  List.rec (motive := fun _ => (List (Nat × Nat) → List Nat → Prop) → Prop) (fun K => K [] [])
    (fun q _ ih K => Prod.rec (motive := fun _ => Prop) (fun id nm => match boxOf bs' nm with
      | none => ih K
      | some _ => ih fun r t => K ((nm, id) :: r) (nm :: t)) q) l
noncomputable def newK (d : Nat) (l : List Nat) : Nat → (List (Nat × Nat) → Prop) → Prop :=
  List.rec (motive := fun _ => Nat → (List (Nat × Nat) → Prop) → Prop) (fun _ K => K [])
    (fun i _ ih k K => bif isOwn i then ih k K else bif isPar i then False else ih (k + 1) fun r => K ((i, d + 10000 * k) :: r)) l
def packV : List C → V
  | [c] => .c c
  | cs => .t cs
inductive callXK (F : FnTX) (f : FuncId) (cs : List C) (bs : Bxs) (K : List C → Bxs → Prop) : Prop where
  | mk (rs : List C) (bs' : Bxs) (h : F f cs bs rs bs') (hk : K rs bs')
noncomputable def callX (F : FnTX) (f : FuncId) (dst : Nat) (todo : List Nat) (vs : List V) (x : LK) (K : V → Eff → Prop) : Prop :=
  compsK vs fun cs => cloK x 400 todo [] fun ids => bif !nodupB ids || ids.any isPar then False else
  pairK ids ownTab fun r => renCsK r cs fun cs' => inBsK x r r fun bs => callXK F f cs' bs fun rs bs' =>
  invK bs' r fun r1 t1 => cloK (lookK bs') 400 (idCsR rs t1) [] fun all => bif !nodupB all then False else
  newK dst all 0 fun r2 => renCsK (r1 ++ r2) rs fun rs' => backXK bs' (r1 ++ r2) r fun ef1 => backXK bs' (r1 ++ r2) (r2.map fun q => (q.2, q.1)) fun ef2 =>
  K (packV rs') (ef2 ++ ef1)
inductive rdnK (F : FnTX) (f : FuncId) (cs : List C) (bs : Bxs) (K : List C → Prop) : Prop where
  | mk (rs : List C) (h : F f cs bs rs bs) (hk : K rs)
noncomputable def callR (F : FnTX) (f : FuncId) (todo : List Nat) (vs : List V) (x : LK) (K : V → Eff → Prop) : Prop :=
  compsK vs fun cs => cloK x 400 todo [] fun ids => bif !nodupB ids || ids.any isPar then False else
  pairK ids ownTab fun r => renCsK r cs fun cs' => inBsK x r r fun bs => rdnK F f cs' bs fun rs =>
  bif !rs.all fun c => (idsC c).isEmpty then False else K (packV rs) []
noncomputable def restK (n : Nat) : List L → (List L → Prop) → Prop :=
  Nat.rec (motive := fun _ => List L → (List L → Prop) → Prop) (fun ls K => K ls)
    (fun _ ih ls K => match ls with
      | [] => False
      | _ :: r => ih r K) n
noncomputable def unflatK (sh : List Nat) : List L → (List C → Prop) → Prop :=
  List.rec (motive := fun _ => List L → (List C → Prop) → Prop)
    (fun ls K => match ls with
      | [] => K []
      | _ => False)
    (fun s _ ih ls K => match s with
      | 0 => match ls with
        | l :: r => ih r fun cs => K (.o l :: cs)
        | [] => False
      | n + 1 => cutK ls 0 n fun c => restK n ls fun q => ih q fun cs => K (.a c :: cs)) sh
noncomputable def flatK (cs : List C) : (List Nat → List L → Prop) → Prop :=
  List.rec (motive := fun _ => (List Nat → List L → Prop) → Prop) (fun K => K [] [])
    (fun c _ ih K => match c with
      | .o l => ih fun sh ls => K (0 :: sh) (l :: ls)
      | .a cs => ih fun sh ls => K ((cs.length + 1) :: sh) (cs ++ ls)) cs
noncomputable def callA (F : Fs) (f : FuncId) (dst : Nat) (todo : List Nat) (vs : List V) (x : LK) (K : V → Eff → Prop) : Prop :=
  bif elemN f F.xs then eitherK (callX F.FX f dst todo vs x K) (eitherK (callR F.FX f todo vs x K) (callSem F.F f dst vs x K)) else callSem F.F f dst vs x K
noncomputable def mapC (cs : List C) : List V := List.rec (motive := fun _ => List V) [] (fun c _ ih => .c c :: ih) cs
noncomputable def apV (vs : List V) (r : List V) : List V := List.rec (motive := fun _ => List V) r (fun c _ ih => c :: ih) vs
noncomputable def closK (n : Nat) : List C → List V → (List V → Prop) → Prop :=
  Nat.rec (motive := fun _ => List C → List V → (List V → Prop) → Prop) (fun cs vs K => K (apV vs (mapC cs)))
    (fun _ ih cs vs K => match cs with
      | [] => False
      | c :: r => ih r vs fun l => K (.c c :: l)) n
def keyEq : L → L → Bool
  | .i k a, .i k' b => kindEq k k' && a == b
  | .s a, .s b => a == b
  | _, _ => false
def keyLike : L → L → Bool
  | .i k _, .i k' _ => kindEq k k'
  | .s _, .s _ => true
  | _, _ => false
def getKey (l : L) : List (L × C) → Option C
  | [] => none
  | q :: r => if keyEq l q.1 then some q.2 else getKey l r
def setKey (l : L) (c : C) : List (L × C) → List (L × C)
  | [] => [(l, c)]
  | q :: r => if keyEq l q.1 then (l, c) :: r else q :: setKey l c r
inductive getMK (l : L) (es : List (L × C)) (K : Option C → Prop) : Prop where
  | mk (r : Option C) (h : getKey l es = r) (hk : K r)
inductive setMK (l : L) (c : C) (es : List (L × C)) (K : List (L × C) → Prop) : Prop where
  | mk (r : List (L × C)) (h : setKey l c es = r) (hk : K r)
def okElem (agg : Bool) (ls : List L) (K : C → Prop) : Prop :=
  match agg with
  | true => K (.a ls)
  | false => match ls with
    | [l] => K (.o l)
    | _ => False
def keyTyB (d : D) (l : L) : Bool :=
  match d with
  | .int k => match l with
    | .i k' _ => kindEq k k'
    | _ => false
  | .str => match l with
    | .s _ => true
    | _ => false
  | _ => false
noncomputable def lookupSem (T : TypeId → TI) (t : TypeId) (m k : V) (ok : Bool) (x : LK) (K : V → Prop) : Prop :=
  match (T t).d with
  | .map kt e => match m with
    | .c (.o (.mp id)) => match k with
      | .c (.o l) => bif !keyTyB (T kt).d l then False else x id fun bx => match bx with
        | .mp es => sideK (∀ q ∈ es, keyLike l q.1 = true) <| getMK l es fun r => match r with
          | some c => bif ok then K (.t [c, .o .tt]) else K (.c c)
          | none => czK (T e).zero fun zs => okElem (T e).agg zs fun c => bif ok then K (.t [c, .o .ff]) else K (.c c)
        | _ => False
      | _ => False
    | _ => False
  | _ => False
def aggV : V → Bool
  | .c (.a _) => true
  | _ => false
noncomputable def mapSetSem (T : TypeId → TI) (t : TypeId) (m k v : V) (x : LK) (K : Eff → Prop) : Prop :=
  match (T t).d with
  | .map kt e => match m with
    | .c (.o (.mp id)) => match k with
      | .c (.o l) => bif !keyTyB (T kt).d l then False else x id fun bx => match bx with
        | .mp es => sideK (∀ q ∈ es, keyLike l q.1 = true) <| leavesK v fun ls => closeK x ls fun ls' ef => bif ef.isEmpty && Nat.beq ls'.length (T e).size then okElem (aggV v) ls' fun c => setMK l c es fun es' => K [(id, some (.mp es'))] else False
        | _ => False
      | _ => False
    | _ => False
  | _ => False
def srcK (x : LK) (d : D) (y : V) (K : List L → Nat → Prop) : Prop :=
  match y with
  | .c (.o l) => match d with
    | .str => match l with
      | .s l => K (l.map u8) l.length
      | _ => False
    | .slice _ => contentK x l K
    | _ => False
  | _ => False
noncomputable def withSz (ti : TI) (K : Nat → Nat → Prop) : Prop := TI.rec (motive := fun _ => Prop) (fun size bytes _ _ _ _ => K size bytes) ti
noncomputable def zeroAppend (dst : Nat) (ti : TI) (s y : V) (K : V → Eff → Prop) : Prop :=
  match s, y with
  | .c (.o .nl), .c (.o (.i _ n)) => withSz ti fun size bytes => sideK (1 ≤ n ∧ n * bytes ≤ 140737488355328) <| czK ti.zero fun zs => natK n fun n => K (.c (.o (.gw dst n size))) [(dst, some (.ar (rep zs n)))]
  | _, _ => False
noncomputable def appendSem (dst : Nat) (ti : TI) (x : LK) (d : D) (s y : V) (K : V → Eff → Prop) : Prop :=
  srcK x d y fun ys m => withSz ti fun size bytes =>
    match s with
    | .c (.o l) => match l with
      | .nl => sideK (m * bytes ≤ 140737488355328 ∧ ys.length = m * size) <| K (.c (.o (.gw dst m size))) [(dst, some (.ar ys))]
      | .gw id n sz => x id fun bx => match bx with
        | .ar cs => bif isPar id || !Nat.beq sz size then False else sideK ((n + m) * bytes ≤ 140737488355328 ∧ ys.length = m * size) <| catK cs ys fun zs => K (.c (.o (.gw dst (n + m) size))) [(dst, some (.ar zs)), (id, none)]
        | _ => False
      | .gs id off n sz => x id fun bx => match bx with
        | .ar cs => bif isPar id || !Nat.beq sz size then False else sideK ((n + m) * bytes ≤ 140737488355328 ∧ ys.length = m * size) <| dropC cs off fun cs => takeC cs (n * size) fun cs => catK cs ys fun zs => K (.c (.o (.gw dst (n + m) size))) [(dst, some (.ar zs)), (id, none)]
        | _ => False
      | _ => False
    | _ => False
def lenSem (d : D) (v : V) (K : L → Prop) : Prop :=
  match v with
  | .c (.o l) => match d with
    | .slice _ => match l with
      | .nl => K (.i .i64 0)
      | .sl _ n => K (.i .i64 n)
      | .gw _ n _ => K (.i .i64 n)
      | .gs _ _ n _ => K (.i .i64 n)
      | _ => False
    | .str => match l with
      | .s l => K (.i .i64 l.length)
      | _ => False
    | _ => False
  | _ => False
def fieldAt (fs : List (Nat × TypeId)) (fl : Nat) : Nat × TypeId := (fs[fl]?).getD (0, 0)
noncomputable def sliceSem (T : TypeId → TI) (t : TypeId) (s : V) (x : LK) (lo hi : Option V) (K : V → Prop) : Prop :=
  match s with
  | .c (.o l) => match (T t).d, l with
    | .str, .s l => boundsK l.length lo hi fun a b => cutSK l lo hi a b fun r => K (.c (.o (.s r)))
    | .slice e, .sl cs n => withSz (T e) fun size _ => sideK (cs.length = n * size) <| boundsK n lo hi fun a b => cutLK cs lo hi a b size fun cs => K (.c (.o (.sl cs (b - a))))
    | .slice e, .gw id n sz => bif Nat.beq sz (T e).size then boundsK n lo hi fun a b => K (.c (.o (.gs id (a * sz) (b - a) sz))) else False
    | .slice e, .gs id off n sz => bif Nat.beq sz (T e).size then boundsK n lo hi fun a b => K (.c (.o (.gs id (off + a * sz) (b - a) sz))) else False
    | .slice _, .nl => boundsK 0 lo hi fun _ _ => K (.c (.o .nl))
    | .array m e, .p id off => x id fun bx => match bx with
      | .ar cs => withSz (T e) fun size _ => sideK (off + m * size ≤ cs.length) <| boundsK m lo hi fun a b => K (.c (.o (.gs id (off + a * size) (b - a) size)))
      | _ => False
    | _, _ => False
  | _ => False
noncomputable def cut3Sem (T : TypeId → TI) (t : TypeId) (s : V) (a b c : Int) (K : V → Prop) : Prop :=
  match s with
  | .c (.o l) => match (T t).d, l with
    | .slice e, .sl cs n => withSz (T e) fun size _ => sideK (cs.length = n * size) <| sideK (0 ≤ a ∧ a ≤ b ∧ b ≤ c ∧ c ≤ n) <| natK a fun a => natK b fun b => takeC cs (b * size) fun cs => dropC cs (a * size) fun cs => K (.c (.o (.sl cs (b - a))))
    | .slice e, .gw id n sz => bif Nat.beq sz (T e).size then sideK (0 ≤ a ∧ a ≤ b ∧ b ≤ c ∧ c ≤ n) <| natK a fun a => natK b fun b => K (.c (.o (.gs id (a * sz) (b - a) sz))) else False
    | .slice e, .gs id off n sz => bif Nat.beq sz (T e).size then sideK (0 ≤ a ∧ a ≤ b ∧ b ≤ c ∧ c ≤ n) <| natK a fun a => natK b fun b => K (.c (.o (.gs id (off + a * sz) (b - a) sz))) else False
    | _, _ => False
  | _ => False
def isSlL : L → Bool
  | .sl _ _ | .gw _ _ _ | .gs _ _ _ _ | .nl => true
  | _ => false
noncomputable def zero3Sem (T : TypeId → TI) (t : TypeId) (dst : Nat) (s : V) (b c : Int) (K : V → Eff → Prop) : Prop :=
  match s with
  | .c (.o l) => match (T t).d with
    | .slice e => bif isSlL l then withSz (T e) fun size _ => sideK (b = 0 ∧ c = 0) <| K (.c (.o (.gw dst 0 size))) [(dst, some (.ar []))] else False
    | _ => False
  | _ => False
noncomputable def indexSem (T : TypeId → TI) (t : TypeId) (a : V) (i : Int) (K : V → Prop) : Prop :=
  match a with
  | .c (.o l) => match (T t).d, l with
    | .slice e, .sl cs n => withSz (T e) fun size _ => offK n i fun j => K (.c (.o (.pf (cs.drop (j * size)))))
    | .slice e, .gw id n _ => withSz (T e) fun size _ => offK n i fun j => K (.c (.o (.p id (j * size))))
    | .slice e, .gs id off n _ => withSz (T e) fun size _ => offK n i fun j => K (.c (.o (.p id (off + j * size))))
    | .array m e, .p id off => withSz (T e) fun size _ => offK m i fun j => K (.c (.o (.p id (off + j * size))))
    | .array m e, .pf cs => withSz (T e) fun size _ => offK m i fun j => K (.c (.o (.pf (cs.drop (j * size)))))
    | _, _ => False
  | _ => False
noncomputable def loadSem (ti : TI) (a : V) (x : LK) (K : V → Prop) : Prop :=
  bif isOther ti.d then False else match a with
  | .c (.o l) => match l with
    | .p id off => x id fun bx => match bx with
      | .st cs => cutK cs off ti.size fun ls => mkV ti.agg ls K
      | .ar cs => loadK ti.zero (cs.drop off) fun ls => mkV ti.agg ls K
      | .fz cs => loadK ti.zero (cs.drop off) fun ls => mkV ti.agg ls K
      | .mp _ => False
    | .pf cs => loadK ti.zero cs fun ls => mkV ti.agg ls K
    | _ => False
  | _ => False
noncomputable def storeSem (ti : TI) (a v : V) (x : LK) (K : Eff → Prop) : Prop :=
  match a with
  | .c (.o (.p id off)) => x id fun bx => leavesK v fun ls => bif Nat.beq ls.length ti.size && !isOther ti.d then match bx with
      | .st cs => putK cs off ls fun cs' => K [(id, some (.st cs'))]
      | .ar cs => closeK x ls fun ls' ef => bif (ef.map (·.1)).elem id then False else sideK (off + ls'.length ≤ cs.length) <| K ((id, some (.ar (putAt cs off ls'))) :: ef)
      | _ => False
    else False
  | _ => False
noncomputable def convSem (T : TypeId → TI) (s d : TypeId) (dst : Nat) (a : V) (x : LK) (K : V → Eff → Prop) : Prop :=
  match a with
  | .c (.o l) => bif isOther (T s).d then False else match (T d).d with
    | .int k => match l with
      | .i _ n => convK k n fun n => K (.c (.o (.i k n))) []
      | _ => False
    | .str => match l with
      | .s l => K (.c (.o (.s l))) []
      | l => match (T s).d with
        | .slice e => match (T e).d with
          | .int .u8 => contentK x l fun cs n => bytesK cs fun l => sideK (l.length = n) <| K (.c (.o (.s l))) []
          | _ => False
        | _ => False
    | .slice e => match l with
      | .s l => match (T e).d with
        | .int .u8 => K (.c (.o (.gw dst l.length 1))) [(dst, some (.ar (l.map u8)))]
        | _ => False
      | .gw id n sz => match (T e).d with
        | .int .u8 => bif !Nat.beq s d then False else bif isPar id then False else x id fun bx => match bx with
          | .ar cs => match cs with
            | [] => False
            | _ :: _ => K (.c (.o (.gw id n sz))) [(id, some (.fz cs))]
          | _ => False
        | _ => False
      | _ => False
    | _ => False
  | _ => False
noncomputable def buildSem (T : TypeId → TI) (t : TypeId) (ps : List (Nat × Operand)) (vs : List V) (K : V → Prop) : Prop :=
  match (T t).d with
  | .struct fs => bif !(ps.all fun q => Nat.blt q.1 fs.length) then False else zipK (fun q => ((fieldAt fs q).1, (T (fieldAt fs q).2).size)) ps vs fun l => fillK l (T t).zero fun ls => K (.c (.a ls))
  | .array _ e => zipK (fun q => (q * (T e).size, (T e).size)) ps vs fun l => fillK l (T t).zero fun ls => K (.c (.a ls))
  | _ => False
noncomputable def buildSliceSem (T : TypeId → TI) (t : TypeId) (n dst : Nat) (ps : List (Nat × Operand)) (vs : List V) (x : LK) (K : V → Eff → Prop) : Prop :=
  match (T t).d with
  | .slice e => bif !Nat.ble (n * (T e).size) 16777216 then False else zipK (fun q => (q * (T e).size, (T e).size)) ps vs fun l => repK (T e).zero n fun zs => fillK l zs fun ls =>
      withSz (T e) fun size _ => match (T e).d with
      | .ptr _ => K (.c (.o (.gw dst n size))) [(dst, some (.st ls))]
      | .int .u8 => closeK x ls fun ls' ef => packK ls' fun ls' => K (.c (.o (.gw dst n size))) ((dst, some (.ar ls')) :: ef)
      | _ => closeK x ls fun ls' ef => K (.c (.o (.gw dst n size))) ((dst, some (.ar ls')) :: ef)
  | _ => False
noncomputable def callOpSem (T : TypeId → TI) (F : Fs) (c : Call) (dst : Nat) (vs : List V) (x : LK) (K : V → Eff → Prop) : Prop :=
  match c.callee with
  | .value (.func f) => match vs with
    | v :: us => callA F f dst (idVsR (v :: us) []) us x K
    | _ => False
  | .value (.tmp _) => match vs with
    | .c (.o l) :: vs => match l with
      | .f f => callA F f dst (idVsR (.c (.o (.f f)) :: vs) []) vs x K
      | .fc f n sh ls => bif ls.any isFc then False else unflatK sh ls fun cs => closK n cs vs fun us => callA F f dst (idVsR (.c (.o (.fc f n sh ls)) :: vs) []) us x K
      | _ => False
    | _ => False
  | .builtin .len => match vs with
    | [a] => match c.argTypes.toList with
      | [t] => lenSem (T t).d a fun l => K (.c (.o l)) []
      | _ => False
    | _ => False
  | .builtin .cap => match vs with
    | [.c (.o .nl)] => match c.argTypes.toList with
      | [t] => match (T t).d with
        | .slice _ => K (.c (.o (.i .i64 0))) []
        | _ => False
      | _ => False
    | _ => False
  | .builtin .append => match vs with
    | [s, y] => match c.argTypes.toList with
      | [t, u] => match (T t).d with
        | .slice e => match (T u).d with
          | .int _ => zeroAppend dst (T e) s y K
          | d => appendSem dst (T e) x d s y K
        | _ => False
      | _ => False
    | _ => False
  | .builtin .min => match vs with
    | [.c (.o (.i k a)), .c (.o (.i k' b))] => bif kindEq k k' then K (.c (.o (.i k (if b < a then b else a)))) [] else False
    | [.c (.o (.i k a)), .c (.o (.i k' b)), .c (.o (.i k'' c))] => bif kindEq k k' && kindEq k k'' then K (.c (.o (.i k (if c < (if b < a then b else a) then c else (if b < a then b else a))))) [] else False
    | _ => False
  | .builtin .max => match vs with
    | [.c (.o (.i k a)), .c (.o (.i k' b))] => bif kindEq k k' then K (.c (.o (.i k (if b > a then b else a)))) [] else False
    | _ => False
  | _ => False
noncomputable def takeSem (T : TypeId → TI) (t : TypeId) (dst : Nat) (s : V) (b : Int) (x : LK) (K : V → Eff → Prop) : Prop :=
  match s with
  | .c (.o l) => match (T t).d, l with
    | .slice e, .gw id n sz => x id fun bx => match bx with
      | .ar cs => bif isPar id || !Nat.beq sz (T e).size then False else sideK (0 ≤ b ∧ b ≤ n) <| natK b fun b => takeC cs (b * sz) fun cs => K (.c (.o (.gw dst b sz))) [(dst, some (.ar cs)), (id, none)]
      | _ => False
    | _, _ => False
  | _ => False
noncomputable def opSem (T : TypeId → TI) (F : Fs) (op : Op) (dst : Nat) (vs : List V) (x : LK) (K : V → Eff → Prop) : Prop :=
  match op with
  | .move _ => match vs with
    | [v] => K v []
    | _ => False
  | .assign _ => match vs with
    | [v] => K v []
    | _ => False
  | .pick _ _ _ => match vs with
    | [.c (.o c), a, b] => match c with
      | .tt => K a []
      | .ff => K b []
      | .b e => boolK e (K a []) (K b [])
      | _ => False
    | _ => False
  | .alloc t => match (T t).d with
    | .array _ _ => czK (T t).zero fun zs => K (.c (.o (.p dst 0))) [(dst, some (.ar zs))]
    | .other => False
    | _ => K (.c (.o (.p dst 0))) [(dst, some (.st (T t).zero))]
  | .box _ _ => match vs with
    | [v] => leavesK v fun ls => K (.c (.o (.p dst 0))) [(dst, some (.st ls))]
    | _ => False
  | .build t ps => buildSem T t ps.toList vs fun v => K v []
  | .buildSlice t n ps => buildSliceSem T t n dst ps.toList vs x K
  | .load t _ => match vs with
    | [a] => loadSem (T t) a x fun v => K v []
    | _ => False
  | .store t _ _ => match vs with
    | [a, v] => storeSem (T t) a v x fun ef => K (.c (.o .u)) ef
    | _ => False
  | .nilCheck _ => match vs with
    | [.c (.o l)] => match l with
      | .p id off => K (.c (.o (.p id off))) []
      | .pf cs => K (.c (.o (.pf cs))) []
      | .f g => K (.c (.o (.f g))) []
      | .fc g n sh ls => K (.c (.o (.fc g n sh ls))) []
      | _ => False
    | _ => False
  | .binOp op t _ _ _ => match vs with
    | [a, b] => binSem (T t) op a b fun l => K (.c (.o l)) []
    | _ => False
  | .unOp op _ _ => match vs with
    | [.c (.o l)] => match op, l with
      | .not, .tt => K (.c (.o .ff)) []
      | .not, .ff => K (.c (.o .tt)) []
      | .not, .b e => K (.c (.o (.b (!e)))) []
      | .neg, .i k n => wrapK k (0 - n) fun n => K (.c (.o (.i k n))) []
      | _, _ => False
    | _ => False
  | .convert s d _ => match vs with
    | [a] => convSem T s d dst a x K
    | _ => False
  | .makeSlice t _ _ => match vs with
    | [.c (.o (.i .i64 n)), .c (.o (.i .i64 m))] => match (T t).d with
      | .slice e => withSz (T e) fun size bytes => sideK (0 ≤ n ∧ n ≤ m ∧ m * bytes ≤ 140737488355328) <| czK (T e).zero fun zs => natK n fun n => K (.c (.o (.gw dst n size))) [(dst, some (.ar (rep zs n)))]
      | _ => False
    | _ => False
  | .slice t _ lo hi none => match lo, hi, vs with
    | none, none, [s] => sliceSem T t s x none none fun v => K v []
    | some _, none, [s, .c (.o (.i k a))] => sliceSem T t s x (some (.c (.o (.i k a)))) none fun v => K v []
    | none, some _, [s, .c (.o (.i k b))] => eitherK (sliceSem T t s x none (some (.c (.o (.i k b)))) fun v => K v []) (takeSem T t dst s b x K)
    | some _, some _, [s, .c (.o (.i k a)), .c (.o (.i k' b))] => sliceSem T t s x (some (.c (.o (.i k a)))) (some (.c (.o (.i k' b)))) fun v => K v []
    | _, _, _ => False
  | .slice t _ lo hi (some _) => match lo, hi, vs with
    | some _, some _, [s, .c (.o (.i _ a)), .c (.o (.i _ b)), .c (.o (.i _ c))] => cut3Sem T t s a b c fun v => K v []
    | none, some _, [s, .c (.o (.i _ b)), .c (.o (.i _ c))] => zero3Sem T t dst s b c K
    | _, _, _ => False
  | .fieldAddr t _ fl => match vs with
    | [.c (.o l)] => match (T t).d with
      | .struct fs => bif !Nat.blt fl fs.length then False else match l with
        | .p id off => K (.c (.o (.p id (off + (fieldAt fs fl).1)))) []
        | .pf cs => K (.c (.o (.pf (cs.drop (fieldAt fs fl).1)))) []
        | _ => False
      | _ => False
    | _ => False
  | .field t _ fl => match vs with
    | [.c (.a ls)] => match (T t).d with
      | .struct fs => bif !Nat.blt fl fs.length then False else cutK ls (fieldAt fs fl).1 (T (fieldAt fs fl).2).size fun ls' => mkV (T (fieldAt fs fl).2).agg ls' fun v => K v []
      | _ => False
    | _ => False
  | .indexAddr t _ _ => match vs with
    | [a, .c (.o (.i _ i))] => indexSem T t a i fun v => K v []
    | _ => False
  | .index t _ _ => match vs with
    | [.c (.o (.s l)), .c (.o (.i _ i))] => match (T t).d with
      | .str => offK l.length i fun j => K (.c (.o (.i .u8 (l.getD j 0).toNat))) []
      | _ => False
    | [.c (.a ls), .c (.o (.i _ i))] => match (T t).d with
      | .array m e => offK m i fun j => cutK ls (j * (T e).size) (T e).size fun ls' => mkV (T e).agg ls' fun v => K v []
      | _ => False
    | _ => False
  | .extract _ n => match vs with
    | [.t cs] => nthK cs n fun c => K (.c c) []
    | _ => False
  | .call c => callOpSem T F c dst vs x K
  | .makeFunc fn first _ => match fn with
    | .func f => compsK vs fun cs => match cs with
      | [] => K (.c (.o (.f f))) []
      | _ => flatK cs fun sh ls => bif ls.any isU || ls.any isFc then False else K (.c (.o (.fc f first.size sh ls))) []
    | _ => False
  | .makeMap t r => match (T t).d with
    | .map _ _ => match r, vs with
      | none, _ => K (.c (.o (.mp dst))) [(dst, some (.mp []))]
      | some _, [.c (.o (.i _ _))] => K (.c (.o (.mp dst))) [(dst, some (.mp []))]
      | _, _ => False
    | _ => False
  | .lookup t _ _ ok => match vs with
    | [m, k] => lookupSem T t m k ok x fun v => K v []
    | _ => False
  | .mapUpdate t _ _ _ => match vs with
    | [m, k, v] => mapSetSem T t m k v x fun ef => K (.c (.o .u)) ef
    | _ => False
  | _ => False
def creates : Op → Bool
  | .alloc _ => true
  | .box _ _ => true
  | .buildSlice _ _ _ => true
  | .convert _ _ _ => true
  | .makeSlice _ _ _ => true
  | .call _ => true
  | .slice _ _ _ _ _ => true
  | .makeMap _ _ => true
  | _ => false
def putE (e : Env) (d : Option Nat) (v : V) : Env :=
  match d with
  | some d => (d, v) :: e
  | none => e
noncomputable def dropK (x : Bxs) : Nat → (Bxs → Prop) → Prop :=
  List.rec (motive := fun _ => Nat → (Bxs → Prop) → Prop) (fun _ K => K [])
    (fun q _ ih t K => Prod.rec (motive := fun _ => Prop) (fun k v => bif Nat.beq k t then ih t K else ih t fun r => K ((k, v) :: r)) q) x
noncomputable def applyK (ef : Eff) : Bxs → (Bxs → Prop) → Prop :=
  List.rec (motive := fun _ => Bxs → (Bxs → Prop) → Prop) (fun x K => K x)
    (fun q _ ih x K => Prod.rec (motive := fun _ => Prop) (fun k b => ih x fun y => dropK y k fun z => match b with
      | none => K z
      | some b => K ((k, b) :: z)) q) ef
inductive Ex where
  | normal
  | exit (id : Nat)
  | ret
def dstOf (all : List Oper) (j : Nat) : Nat := ((all[j]?).bind (·.dst)).getD 99999
noncomputable def guardK (all : List Oper) (e : Env) (g : Option (Nat × Bool)) (K : Bool → Env → Prop) : Prop :=
  match g with
  | none => K true e
  | some (j, w) => getK e (dstOf all j) fun v => match v with
    | .t xs => match xs with
      | [] => K false e
      | _ => False
    | .c (.o l) => match l with
      | .tt => K w e
      | .ff => K (!w) e
      | .b x => boolK x (K w ((dstOf all j, .c (.o .tt)) :: e)) (K (!w) ((dstOf all j, .c (.o .ff)) :: e))
      | _ => False
    | _ => False
structure Par where
  T : TypeId → TI
  F : Fs
  N : Nat
  live : Nat → List Nat
  mv : List Nat
  mask : Nat → List Nat
  kp : Bool
abbrev Info := List (List Nat × List Nat)
def dstOk (N : Nat) : Option Nat → Bool
  | some d => Nat.blt d N
  | none => true
noncomputable def idMod {β : Type} (q : Nat × β) : Nat := Prod.rec (motive := fun _ => Nat) (fun k _ => k % 10000) q
noncomputable def efOk (c : Bool) (x : Bxs) (d : Nat) (ef : Eff) : Bool := ef.all fun q => (boxOf x q.1).isSome || (c && Nat.beq (idMod q) (d % 10000))
def touch (m : Nat → Option Bx) (vs : List V) : List Nat := (vs.flatMap idsV).flatMap fun id => id :: (match m id with
  | some (.st cs) => idsLs cs
  | _ => [])
def blind : Op → Bool
  | .move _ => true
  | .assign _ => true
  | .pick _ _ _ => true
  | .build _ _ => true
  | .binOp _ _ _ _ _ => true
  | .unOp _ _ _ => true
  | .field _ _ _ => true
  | .fieldAddr _ _ _ => true
  | .nilCheck _ => true
  | .indexAddr _ _ _ => true
  | .index _ _ _ => true
  | .extract _ _ => true
  | .makeFunc _ _ _ => true
  | _ => false
def shallow : Op → Bool
  | .load _ _ => true
  | .lookup _ _ _ _ => true
  | _ => false
noncomputable def touchO (o : Op) (m : Nat → Option Bx) (vs : List V) : List Nat := bif blind o then [] else bif shallow o then vs.flatMap idsV else touch m vs ++ cloF m 400 (idVsR vs []) []
def putEK (e : Env) (d : Option Nat) (v : V) (K : Env → Prop) : Prop :=
  match d with
  | some d => K ((d, v) :: e)
  | none => K e
noncomputable def opsK (G : Par) (all : List Oper) (ops : List Oper) : St → Info → (St → Info → Prop) → Prop :=
  List.rec (motive := fun _ => St → Info → (St → Info → Prop) → Prop) (fun st inf K => K st inf)
    (fun o _ ih st inf K => St.rec (motive := fun _ => Prop) (fun e0 x0 => bif dstOk G.N o.dst then guardK all e0 o.guard fun want e => match want with
      | true => operandsK e o.op.operands.toList fun vs => opSem G.T G.F o.op (o.dst.getD 99998) vs (lookK x0) fun v ef =>
          bif !efOk (creates o.op) x0 (o.dst.getD 99998) ef then False else applyK ef x0 fun x => putEK e o.dst v fun e' => ih ⟨e', x⟩ ((touchO o.op (boxOf x0) vs ++ ef.map (·.1), ef.map (·.1)) :: inf) K
      | false => putEK e o.dst (.t []) fun e' => ih ⟨e', x0⟩ (([], []) :: inf) K
    else False) st) ops
noncomputable def liveK (e : Env) (ts : List Nat) : (Env → Prop) → Prop :=
  List.rec (motive := fun _ => (Env → Prop) → Prop) (fun K => K []) (fun t _ ih K => getK e t fun v => ih fun e' => K ((t, v) :: e')) ts
def heldN (k j : Nat) : Nat := 2000 + 16 * k + j
def heldL (k : Nat) : Nat → List L → List (Nat × Nat)
  | _, [] => []
  | j, .gw id _ _ :: r => bif isOwn id then (id, id) :: heldL k (j + 1) r else bif !isPar id && !isRes (heldN k j) then (id, heldN k j) :: heldL k (j + 1) r else heldL k (j + 1) r
  | j, _ :: r => heldL k (j + 1) r
def heldBy (mv : List Nat) : Env → List (Nat × Nat)
  | [] => []
  | (t, .c (.o (.gw id _ _))) :: r => bif mv.elem t && (!isRes id && !isRes t) then (id, t) :: heldBy mv r else heldBy mv r
  | (t, .c (.a ls)) :: r => bif mv.elem (t + 100000) then heldL t 0 ls ++ heldBy mv r else heldBy mv r
  | _ :: r => heldBy mv r
def heldX (mv ids : List Nat) : Bxs → List (Nat × Nat)
  | [] => []
  | (k, .st cs) :: r => bif mv.elem (k + 100000) && (isPar k || ids.elem k) then heldL k 0 cs ++ heldX mv ids r else heldX mv ids r
  | _ :: r => heldX mv ids r
def zL0 : L → List Nat
  | .gw id _ _ | .gs id _ _ _ => [id]
  | _ => []
def zL0s : List L → List Nat
  | [] => []
  | l :: r => zL0 l ++ zL0s r
def zL : L → List Nat
  | .gw id _ _ | .gs id _ _ _ => [id]
  | .fc _ _ _ ls => zL0s ls
  | _ => []
def zLs : List L → List Nat
  | [] => []
  | l :: r => zL l ++ zLs r
def zV : V → List Nat
  | .c (.o l) => zL l
  | .c (.a ls) => zLs ls
  | _ => []
def zE : Env → List Nat
  | [] => []
  | (_, v) :: r => zV v ++ zE r
def zX : Bxs → List Nat
  | [] => []
  | (_, .st cs) :: r => zLs cs ++ zX r
  | _ :: r => zX r
def fix0K (x : Bxs) (h : List (Nat × Nat)) (z : List Nat) (l : L) (K : L → Prop) : Prop :=
  match l with
  | .gw id n sz => match boxOf x id with
    | none => K .u
    | some (.st _) => K (.gw id n sz)
    | some (.fz cs) => K (.sl cs n)
    | some (.mp _) => K .u
    | some (.ar cs) => match assocN h id with
      | some t => K (.gw t n sz)
      | none => bif z.elem id then K (.sl cs n) else K .u
  | .p id off => match boxOf x id with
    | some (.st _) => K (.p id off)
    | _ => K .u
  | .mp id => match boxOf x id with
    | some (.mp _) => K (.mp id)
    | _ => K .u
  | .gs _ _ _ _ => K .u
  | .fc _ _ _ _ => K .u
  | l => K l
noncomputable def fix0sK (x : Bxs) (h : List (Nat × Nat)) (z : List Nat) (ls : List L) : (List L → Prop) → Prop :=
  List.rec (motive := fun _ => (List L → Prop) → Prop) (fun K => K []) (fun l _ ih K => fix0K x h z l fun l' => ih fun r' => K (l' :: r')) ls
noncomputable def fixK (x : Bxs) (h : List (Nat × Nat)) (z : List Nat) (top : Bool) (l : L) (K : L → Prop) : Prop :=
  match l with
  | .gw id n sz => match boxOf x id with
    | none => K .u
    | some (.st _) => K (.gw id n sz)
    | some (.mp _) => K .u
    | some (.fz cs) => K (.sl cs n)
    | some (.ar cs) => match assocN h id with
      | some t => K (.gw t n sz)
      | none => bif z.elem id then K (.sl cs n) else K .u
  | .gs id off n sz => match boxOf x id with
    | none => K .u
    | some (.st _) => K .u
    | some (.mp _) => K .u
    | some (.fz cs) => K (.sl ((cs.drop off).take (n * sz)) n)
    | some (.ar cs) => match assocN h id with
      | some _ => K .u
      | none => bif z.elem id then K (.sl ((cs.drop off).take (n * sz)) n) else K .u
  | .p id off => match boxOf x id with
    | none => K .u
    | some (.fz cs) => K (.pf (cs.drop off))
    | some (.mp _) => K .u
    | some (.st _) => K (.p id off)
    | some (.ar cs) => match assocN h id with
      | some _ => K .u
      | none => bif z.elem id then K (.pf (cs.drop off)) else K (.p id off)
  | .mp id => match boxOf x id with
    | some (.mp _) => K (.mp id)
    | _ => K .u
  | .fc g n sh ls => fix0sK x h z ls fun ls' => K (.fc g n sh ls')
  | l => K l
noncomputable def fixLsK (x : Bxs) (h : List (Nat × Nat)) (z : List Nat) (ls : List L) : (List L → Prop) → Prop :=
  List.rec (motive := fun _ => (List L → Prop) → Prop) (fun K => K []) (fun l _ ih K => fixK x h z false l fun l' => ih fun r' => K (l' :: r')) ls
noncomputable def fixVK (x : Bxs) (h : List (Nat × Nat)) (z : List Nat) (v : V) (K : V → Prop) : Prop :=
  match v with
  | .c (.o l) => fixK x h z true l fun l' => K (.c (.o l'))
  | .c (.a ls) => fixLsK x h z ls fun ls' => K (.c (.a ls'))
  | .t _ => K (.c (.o .u))
noncomputable def fixEK (x : Bxs) (h : List (Nat × Nat)) (z : List Nat) (e : Env) : (Env → Prop) → Prop :=
  List.rec (motive := fun _ => (Env → Prop) → Prop) (fun K => K []) (fun q _ ih K => Prod.rec (motive := fun _ => Prop) (fun k v => fixVK x h z v fun v' => ih fun r' => K ((k, v') :: r')) q) e
noncomputable def insK (p : Nat × Bx) (x : Bxs) : (Bxs → Prop) → Prop :=
  List.rec (motive := fun _ => (Bxs → Prop) → Prop) (fun K => K [p]) (fun q r ih K => bif Nat.ble p.1 q.1 then K (p :: q :: r) else ih fun r' => K (q :: r')) x
noncomputable def fixXK (x : Bxs) (h : List (Nat × Nat)) (z keep : List Nat) (y : Bxs) : (Bxs → Prop) → Prop :=
  List.rec (motive := fun _ => (Bxs → Prop) → Prop) (fun K => K [])
    (fun q _ ih K => Prod.rec (motive := fun _ => Prop) (fun k b => match b with
      | .st cs => bif isPar k || keep.elem k then fixLsK x h z cs fun cs' => bif cs'.any isU then False else ih fun r' => insK (k, .st cs') r' K else ih K
      | .ar cs => match assocN h k with
        | some t => ih fun r' => insK (t, .ar cs) r' K
        | none => bif z.elem k then ih K else bif isPar k || keep.elem k then ih fun r' => insK (k, .ar cs) r' K else ih K
      | .mp es => bif isPar k || keep.elem k then ih fun r' => insK (k, .mp es) r' K else ih K
      | .fz _ => ih K) q) y
def zOf (st : St) (e : Env) : List Nat := (zE e ++ zX st.x).filter fun id => !isPar id
noncomputable def canonK (live mv : List Nat) (st : St) (K : St → Prop) : Prop :=
  St.rec (motive := fun _ => Prop) (fun e0 x0 => liveK e0 live fun e => bif !nodupB (x0.map (·.1)) then False else fixEK x0 (heldBy mv e ++ heldX mv (idsE e) x0) (zOf ⟨e0, x0⟩ e) e fun e' =>
    fixXK x0 (heldBy mv e ++ heldX mv (idsE e) x0) (zOf ⟨e0, x0⟩ e) (idsE e ++ idsX x0) x0 fun x' => bif !nodupB (x'.map (·.1)) then False else K ⟨e', x'⟩) st
def crDsts (ops : List Oper) : List Nat := ops.filterMap fun o => bif creates o.op then some (o.dst.getD 99998 % 10000) else none
noncomputable def okStart (ops : List Oper) (x : Bxs) : Bool := nodupB (crDsts ops) && x.all fun q => !(crDsts ops).elem (idMod q)
def tmpsOf : List Operand → List Nat
  | [] => []
  | .tmp t :: r => t :: tmpsOf r
  | _ :: r => tmpsOf r
def looks (all : List Oper) (o : Oper) : List Nat := tmpsOf o.op.operands.toList ++ (match o.guard with
  | some (j, _) => [dstOf all j]
  | none => [])
def dstIn : Option Nat → List Nat → Bool
  | some d, l => l.elem d
  | none, _ => false
def dstSame : Option Nat → Option Nat → Bool
  | some d, some e => Nat.beq d e
  | _, _ => false
def apartB (all : List Oper) (a b : Oper) : Bool := !dstIn a.dst (looks all b) && (!dstIn b.dst (looks all a) && !dstSame a.dst b.dst)
def disjB : List Nat → List Nat → Bool
  | [], _ => true
  | a :: r, l => !l.elem a && disjB r l
def calmB (a b : List Nat × List Nat) : Bool := disjB a.2 b.1 && disjB b.2 a.1
def pairsB {ρ : Type} (f : ρ → ρ → Bool) : List (Nat × ρ) → Nat → List Nat → List ρ → Bool
  | _, _, _, [] => true
  | _, _, [], _ :: _ => false
  | e, j, m :: ms, r :: rs => (e.all fun p => m.testBit p.1 || f p.2 r) && pairsB f ((j, r) :: e) (j + 1) ms rs
def bindsB (e : Edge) : Bool := match e.ground with
  | .textOnly _ => false
  | .gcOnly _ => false
  | _ => true
def nthN : List Nat → Nat → Nat
  | [], _ => 0
  | a :: _, 0 => a
  | _ :: r, n + 1 => nthN r n
def edgesN (ms : List Nat) : List Edge → Nat
  | [] => 0
  | e :: r => (bif bindsB e then (2 ^ e.on) ||| nthN ms e.on else 0) ||| edgesN ms r
def masksB (all : List Nat) : Nat → List Nat → List Oper → Bool
  | _, _, [] => true
  | _, [], _ :: _ => false
  | j, m :: ms, o :: os => Nat.beq (m ||| edgesN all o.after.toList) (edgesN all o.after.toList) && ((o.after.toList.all fun e => !bindsB e || Nat.blt e.on j) && masksB all (j + 1) ms os)
def statB (ops : List Oper) (ms : List Nat) : Bool := masksB ms 0 ms ops && pairsB (apartB ops) [] 0 ms ops
def dynB (inf : Info) (ms : List Nat) : Bool := pairsB calmB [] 0 ms inf.reverse
inductive drawK (a b : Bool) (K : Prop) : Prop where
  | mk (h : a = true ∧ b = true) (hk : K)
inductive loopK (body : Code) (ih : St → (Ex → St → Prop) → Prop) (st : St) (K : Ex → St → Prop) : Prop where
  | mk (n : Nat) (h : Nat.rec (motive := fun _ => St → Prop) (fun _ => False) (fun _ ihn st => ih st fun ex st' => match ex with
      | .normal => ihn st'
      | .exit id => K (.exit id) st'
      | .ret => K .ret st') n st)
noncomputable def renVK (r : List (Nat × Nat)) (v : V) (K : V → Prop) : Prop :=
  match v with
  | .c c => renCK r c fun c' => K (.c c')
  | .t cs => renCsK r cs fun cs' => K (.t cs')
noncomputable def renEK (r : List (Nat × Nat)) (e : Env) : (Env → Prop) → Prop :=
  List.rec (motive := fun _ => (Env → Prop) → Prop) (fun K => K []) (fun q _ ih K => Prod.rec (motive := fun _ => Prop) (fun k v => renVK r v fun v' => ih fun e' => K ((k, v') :: e')) q) e
noncomputable def idER (e : Env) (r : List Nat) : List Nat := List.rec (motive := fun _ => List Nat) r (fun q _ ih => Prod.rec (motive := fun _ => List Nat) (fun _ v => idVR v ih) q) e
noncomputable def ownR (x : Bxs) (r : List Nat) : List Nat := List.rec (motive := fun _ => List Nat) r (fun q _ ih => Prod.rec (motive := fun _ => List Nat) (fun k _ => bif isOwn k then k :: ih else ih) q) x
noncomputable def rhoK (ids : List Nat) : List Nat → (List (Nat × Nat) → Prop) → Prop :=
  List.rec (motive := fun _ => List Nat → (List (Nat × Nat) → Prop) → Prop) (fun _ K => K [])
    (fun id _ ih tab K => bif isOwn id then ih tab fun r => K ((id, id) :: r) else match tab with
      | [] => False
      | t :: ts => ih ts fun r => K ((id, t) :: r)) ids
noncomputable def keepXK (x : Bxs) (r : List (Nat × Nat)) (l : List (Nat × Nat)) : (Bxs → Prop) → Prop :=
  List.rec (motive := fun _ => (Bxs → Prop) → Prop) (fun K => K [])
    (fun q _ ih K => Prod.rec (motive := fun _ => Prop) (fun id nm => lookK x id fun bx => renBK r bx fun bx' => ih fun y => K ((nm, bx') :: y)) q) l
noncomputable def filK (e : Env) : Nat → (Env → Prop) → Prop :=
  List.rec (motive := fun _ => Nat → (Env → Prop) → Prop) (fun _ K => K []) (fun q _ ih m K => Prod.rec (motive := fun _ => Prop) (fun k v => bif Nat.beq (Nat.land (Nat.shiftRight m k) 1) 1 then ih (Nat.xor m (Nat.shiftLeft 1 k)) fun e' => K ((k, v) :: e') else ih m K) q) e
noncomputable def canonX (live : Nat) (st : St) (K : St → Prop) : Prop :=
  St.rec (motive := fun _ => Prop) (fun e0 x0 => filK e0 live fun e => cloK (lookK x0) 400 (ownR x0 (idER e [])) [] fun ids => bif !nodupB ids || ids.any isPar then False else
    rhoK ids nmTab fun r => renEK r e fun e' => keepXK x0 r r fun x' => K ⟨e', x'⟩) st
def maskOf (l : List Nat) : Nat := l.headD 0
def allMask : Nat := 1606938044258990275541962092341162602522202993782792835301375
noncomputable def canonG (G : Par) (id : Nat) (st : St) (K : St → Prop) : Prop := bif G.kp then canonX (maskOf (G.live id)) st K else canonK (G.live id) G.mv st K
def presB (inf : Info) (x : Bxs) : Bool := inf.all fun p => p.2.all fun id => (boxOf x id).isSome
noncomputable def filS (m : Nat) (st : St) (K : St → Prop) : Prop := bif Nat.beq m 0 then K st else filK st.e m fun e => K ⟨e, st.x⟩
noncomputable def endK (G : Par) (id : Nat) (inf : Info) (st : St) (K : St → Prop) : Prop := bif G.kp && presB inf st.x then filS (maskOf (G.live id)) st K else canonG G id st K
noncomputable def startK (G : Par) (ops : List Oper) (st : St) (K : St → Prop) : Prop := bif G.kp && !okStart ops st.x then canonX allMask st K else K st
noncomputable def awp (G : Par) (c : Code) : St → (Ex → St → Prop) → Prop :=
  Code.rec (motive := fun _ => St → (Ex → St → Prop) → Prop)
    (fun st K => K .normal st)
    (fun id ops draw st K => startK G ops.toList st fun st => bif !okStart ops.toList st.x || !(ops.toList.all fun o => dstOk G.N o.dst) then False else opsK G ops.toList ops.toList st [] fun st' inf => match draw with
      | true => drawK (statB ops.toList (G.mask id)) (dynB inf (G.mask id)) <| canonG G id st' fun st'' => K .normal st''
      | false => endK G id inf st' fun st'' => K .normal st'')
    (fun _ _ iha ihb st K => iha st fun ex st' => match ex with
      | .normal => ihb st' K
      | .exit id => K (.exit id) st'
      | .ret => K .ret st')
    (fun c _ _ iha ihb st K => operandK st.e c fun v => match v with
      | .c (.o l) => match l with
        | .tt => iha st K
        | .ff => ihb st K
        | .b x => boolK x (iha st K) (ihb st K)
        | _ => False
      | _ => False)
    (fun id _ ih st K => ih st fun ex st' => match ex with
      | .exit j => bif Nat.beq j id then K .normal st' else K (.exit j) st'
      | .normal => K .normal st'
      | .ret => K .ret st')
    (fun body ih st K => loopK body ih st K)
    (fun _ _ _ _ _ _ _ _ => False)
    (fun id st K => K (.exit id) st)
    (fun _ _ _ _ => False)
    (fun _ _ _ => False)
    (fun _ _ _ => False)
    (fun st K => K .ret st)
    (fun _ _ _ => False) c
end Go.Sx

namespace Go.Sx
abbrev Loc := Nat × Nat × Nat
abbrev Mu := Nat → Option (Option Loc)
def Cells (w : World) (b o : Nat) (vs : List Value) : Prop := ∀ (j : Nat) v, vs[j]? = some v → w.cell? ⟨b, o + j, none⟩ = some v ∧ v.oneCell' = true
theorem Cells.one {w : World} {b o : Nat} {vs : List Value} (h : Cells w b o vs) : ∀ v ∈ vs, v.oneCell' = true := by
  intro v hv
  obtain ⟨j, hj⟩ := List.getElem?_of_mem hv
  exact (h j v hj).2
def unflatV : List Nat → List Value → Option (List Value)
  | [], [] => some []
  | [], _ :: _ => none
  | 0 :: _, [] => none
  | 0 :: r, v :: vs => (unflatV r vs).map (v :: ·)
  | (n + 1) :: r, vs => if n ≤ vs.length then (unflatV r (vs.drop n)).map (.agg ⟨vs.take n⟩ :: ·) else none
inductive RelL (B : Nat → Prop) (w : World) : Mu → L → Value → Prop where
  | i {μ k n} : RelL B w μ (.i k n) (.int k n)
  | b {μ x} : RelL B w μ (.b x) (.bool x)
  | tt {μ} : RelL B w μ .tt (.bool true)
  | ff {μ} : RelL B w μ .ff (.bool false)
  | s {μ l} : RelL B w μ (.s l) (.string ⟨⟨l⟩⟩)
  | np {μ} : RelL B w μ .np (.pointer none)
  | f {μ fn} : RelL B w μ (.f fn) (.func (.func fn) #[] #[])
  | u {μ v} : RelL B w μ .u v
  | nl {μ} : RelL B w μ .nl (.slice none 0 0)
  | sl0 {μ a cap} : RelL B w μ (.sl [] 0) (.slice a 0 cap)
  | sl {μ b o n cap cs vs} (hB : cs ≠ [] → ¬ B b) (hl : cs.length = vs.length) (hv : Cells w b o vs)
      (hr : ∀ (j : Nat) l v, cs[j]? = some l → vs[j]? = some v → RelL B w (fun _ => none) l v) (hn : n ≤ cap) : RelL B w μ (.sl cs n) (.slice (some ⟨b, o, none⟩) n cap)
  | gw0 {μ id sz a} (h : μ id = some none) : RelL B w μ (.gw id 0 sz) (.slice a 0 0)
  | gw {μ id n sz b o cap} (h : μ id = some (some (b, o, n * sz))) (hn : n ≤ cap) (hc : ∀ j, j < cap * sz → (w.cell? ⟨b, o + j, none⟩).isSome = true) :
      RelL B w μ (.gw id n sz) (.slice (some ⟨b, o, none⟩) n cap)
  | nm {μ} : RelL B w μ (.nz true) (.map none)
  | nf {μ} : RelL B w μ (.nz false) .nilFunc
  | mp {μ id b} (h : μ id = some (some (b, 0, 0))) : RelL B w μ (.mp id) (.map (some b))
  | fc {μ fn n sh ls vs us} (hl : ls.length = vs.length) (hr : ∀ (j : Nat) l v, ls[j]? = some l → vs[j]? = some v → RelL B w μ l v) (hu : unflatV sh vs = some us) (hn : n ≤ us.length) (hf : ∀ l ∈ ls, isFc l = false) :
      RelL B w μ (.fc fn n sh ls) (.func (.func fn) ⟨us.take n⟩ ⟨us.drop n⟩)
  | gs0 {μ id off sz a l} (h : μ id = some l) : RelL B w μ (.gs id off 0 sz) (.slice a 0 0)
  | gs {μ id off n sz b o ln cap} (h : μ id = some (some (b, o, ln))) (hf : off + n * sz ≤ ln) (hn : n ≤ cap)
      (hc : ∀ j, j < cap * sz → (w.cell? ⟨b, o + off + j, none⟩).isSome = true) : RelL B w μ (.gs id off n sz) (.slice (some ⟨b, o + off, none⟩) n cap)
  | p {μ id off b o ln} (h : μ id = some (some (b, o, ln))) : RelL B w μ (.p id off) (.pointer (some ⟨b, o + off, none⟩))
  | pf {μ b o cs vs} (hB : cs ≠ [] → ¬ B b) (hl : cs.length = vs.length) (hv : Cells w b o vs)
      (hr : ∀ (j : Nat) l v, cs[j]? = some l → vs[j]? = some v → RelL B w (fun _ => none) l v) : RelL B w μ (.pf cs) (.pointer (some ⟨b, o, none⟩))
def Rels (B : Nat → Prop) (w : World) (μ : Mu) (cs : List L) (vs : List Value) : Prop :=
  cs.length = vs.length ∧ ∀ (j : Nat) l v, cs[j]? = some l → vs[j]? = some v → RelL B w μ l v
def RelC (B : Nat → Prop) (w : World) (μ : Mu) : C → Value → Prop
  | .o l, v => RelL B w μ l v
  | .a ls, v => ∃ vs : List Value, v = .agg ⟨vs⟩ ∧ Rels B w μ ls vs
def RelCs (B : Nat → Prop) (w : World) (μ : Mu) (cs : List C) (vs : List Value) : Prop :=
  cs.length = vs.length ∧ ∀ (j : Nat) c v, cs[j]? = some c → vs[j]? = some v → RelC B w μ c v
def RelV (B : Nat → Prop) (w : World) (μ : Mu) : V → Value → Prop
  | .c x, v => RelC B w μ x v
  | .t xs, v => ∃ vs : List Value, v = .tuple ⟨vs⟩ ∧ RelCs B w μ xs vs
def noMu : Mu := fun _ => none
structure Grow (B : Nat → Prop) (w : World) (B' : Nat → Prop) (w' : World) : Prop where
  size : w.heap.size ≤ w'.heap.size
  old : ∀ b, b < w.heap.size → ¬ B b → w'.heap[b]? = w.heap[b]?
  ex : ∀ a, (w.cell? a).isSome = true → (w'.cell? a).isSome = true
  sub : ∀ b, b < w.heap.size → B' b → B b
theorem Grow.refl (B : Nat → Prop) (w : World) : Grow B w B w := ⟨Nat.le_refl _, fun _ _ _ => rfl, fun _ h => h, fun _ _ h => h⟩
theorem Grow.trans {B B' B'' : Nat → Prop} {w w' w'' : World} (h : Grow B w B' w') (k : Grow B' w' B'' w'') : Grow B w B'' w'' where
  size := Nat.le_trans h.size k.size
  old := fun b hb hn => by
    rw [k.old b (Nat.lt_of_lt_of_le hb h.size) (fun hb' => hn (h.sub b hb hb')), h.old b hb hn]
  ex := fun a ha => k.ex a (h.ex a ha)
  sub := fun b hb hb'' => h.sub b hb (k.sub b (Nat.lt_of_lt_of_le hb h.size) hb'')
theorem lt_of_cell {w : World} {b o : Nat} {v : Value} (h : w.cell? ⟨b, o, none⟩ = some v) : b < w.heap.size := World.block_lt_of_cell? w ⟨b, o, none⟩ h
theorem Cells.lt {w : World} {b o : Nat} {vs : List Value} (h : Cells w b o vs) (hne : vs ≠ []) : b < w.heap.size := by
  cases vs with
  | nil => exact absurd rfl hne
  | cons v r => exact lt_of_cell (h 0 v rfl).1
theorem Cells.same {w w' : World} {b o : Nat} {vs : List Value} (h : Cells w b o vs) (hb : b < w.heap.size → w'.heap[b]? = w.heap[b]?) : Cells w' b o vs := by
  intro j v hv
  obtain ⟨h1, h2⟩ := h j v hv
  exact ⟨by rw [World.cell?_of_block (w := w) (w' := w') (a := ⟨b, o + j, none⟩) (hb (lt_of_cell h1)), h1], h2⟩
theorem ne_nil_of_length {α β : Type} {a : List α} {b : List β} (h : a.length = b.length) (ha : b ≠ []) : a ≠ [] := by
  rintro rfl; cases b <;> simp_all
theorem RelL.grow {B B' : Nat → Prop} {w w' : World} (g : Grow B w B' w') {μ : Mu} {l : L} {v : Value} (h : RelL B w μ l v) :
    ∀ {μ' : Mu}, (∀ id x, μ id = some x → μ' id = some x) → RelL B' w' μ' l v := by
  induction h with
  | i => exact fun _ => .i
  | b => exact fun _ => .b
  | tt => exact fun _ => .tt
  | ff => exact fun _ => .ff
  | s => exact fun _ => .s
  | np => exact fun _ => .np
  | f => exact fun _ => .f
  | u => exact fun _ => .u
  | nl => exact fun _ => .nl
  | sl0 => exact fun _ => .sl0
  | sl hB hl hv hr hn ih =>
    intro μ' _
    refine .sl (fun hne hb => ?_) hl (fun j v hj => ?_) (fun j l v h1 h2 => ih j l v h1 h2 (fun _ _ h => by cases h)) hn
    · exact hB hne (g.sub _ (hv.lt (ne_nil_of_length hl.symm hne)) hb)
    · obtain ⟨h1, h2⟩ := hv j v hj
      have hne := ne_nil_of_length hl (List.ne_nil_of_mem (List.mem_of_getElem? hj))
      exact ⟨by rw [World.cell?_of_block (w := w) (w' := w') (a := ⟨_, _, none⟩) (g.old _ (lt_of_cell h1) (hB hne)), h1], h2⟩
  | gw0 h => exact fun hm => .gw0 (hm _ _ h)
  | gw h hn hc => exact fun hm => .gw (hm _ _ h) hn fun j hj => g.ex _ (hc j hj)
  | gs0 h => exact fun hm => .gs0 (hm _ _ h)
  | nm => exact fun _ => .nm
  | nf => exact fun _ => .nf
  | mp h => exact fun hm => .mp (hm _ _ h)
  | fc hl _ hu hn hf ih => exact fun hm => .fc hl (fun j l v h1 h2 => ih j l v h1 h2 hm) hu hn hf
  | gs h hf hn hc => exact fun hm => .gs (hm _ _ h) hf hn fun j hj => g.ex _ (hc j hj)
  | p h => exact fun hm => .p (hm _ _ h)
  | pf hB hl hv hr ih =>
    intro μ' _
    refine .pf (fun hne hb => ?_) hl (fun j v hj => ?_) (fun j l v h1 h2 => ih j l v h1 h2 (fun _ _ h => by cases h))
    · exact hB hne (g.sub _ (hv.lt (ne_nil_of_length hl.symm hne)) hb)
    · obtain ⟨h1, h2⟩ := hv j v hj
      have hne := ne_nil_of_length hl (List.ne_nil_of_mem (List.mem_of_getElem? hj))
      exact ⟨by rw [World.cell?_of_block (w := w) (w' := w') (a := ⟨_, _, none⟩) (g.old _ (lt_of_cell h1) (hB hne)), h1], h2⟩
end Go.Sx

namespace Go.Sx
theorem beq_ne {a b : Nat} (h : a ≠ b) : Nat.beq a b = false := by
  cases hb : Nat.beq a b
  · rfl
  · exact absurd (Nat.eq_of_beq_eq_true hb) h
def lookE : Env → Nat → V
  | [], _ => .c (.o .u)
  | (k, v) :: r, t => bif Nat.beq k t then v else lookE r t
theorem getK_eq (e : Env) (t : Nat) (K : V → Prop) : getK e t K = K (lookE e t) := by
  induction e with
  | nil => rfl
  | cons q r ih =>
    show (bif Nat.beq q.1 t then K q.2 else getK r t K) = K (bif Nat.beq q.1 t then q.2 else lookE r t)
    cases Nat.beq q.1 t <;> simp [ih]
theorem lookK_iff (x : Bxs) (id : Nat) (K : Bx → Prop) : lookK x id K ↔ ∃ bx, boxOf x id = some bx ∧ K bx := by
  induction x with
  | nil =>
    show False ↔ _
    simp [boxOf]
  | cons q r ih =>
    show (bif Nat.beq q.1 id then K q.2 else lookK r id K) ↔ ∃ bx, (bif Nat.beq q.1 id then some q.2 else boxOf r id) = some bx ∧ K bx
    cases Nat.beq q.1 id <;> simp [ih]
def lkm (m : Nat → Option Bx) : LK := fun id K => ∃ bx, m id = some bx ∧ K bx
theorem lookK_eq (x : Bxs) : lookK x = lkm (boxOf x) := by
  funext id K
  exact propext (lookK_iff x id K)
def constV : Value → V
  | .agg cs => .c (.a (cs.toList.map leafOf))
  | v => .c (.o (leafOf v))
theorem leavesOfK_eq (vs : List Value) (K : List L → Prop) : leavesOfK vs K = K (vs.map leafOf) := by
  induction vs generalizing K with
  | nil => rfl
  | cons v r ih =>
    show leavesOfK r (fun ls => K (leafOf v :: ls)) = _
    rw [ih]; rfl
theorem constK_eq (v : Value) (K : V → Prop) : constK v K = K (constV v) := by
  cases v <;> first | rfl | exact leavesOfK_eq _ _
def operandV (e : Env) : Operand → V
  | .tmp t => lookE e t
  | .const v => constV v
  | .func f => .c (.o (.f f))
  | .global _ => .c (.o .u)
theorem operandK_eq (e : Env) (x : Operand) (K : V → Prop) : operandK e x K = K (operandV e x) := by
  cases x with
  | tmp t => exact getK_eq e t K
  | const v => exact constK_eq v K
  | func f => rfl
  | global g => rfl
theorem operandsK_eq (e : Env) (xs : List Operand) (K : List V → Prop) : operandsK e xs K = K (xs.map (operandV e)) := by
  induction xs generalizing K with
  | nil => rfl
  | cons x r ih =>
    show operandK e x (fun v => operandsK e r fun vs => K (v :: vs)) = _
    rw [operandK_eq, ih]; rfl
theorem cutK_iff (cs : List L) (off n : Nat) (K : List L → Prop) : cutK cs off n K ↔ off + n ≤ cs.length ∧ K ((cs.drop off).take n) := by
  induction cs generalizing off n K with
  | nil => cases off <;> cases n <;> simp [cutK]
  | cons c r ih =>
    cases off with
    | zero => cases n with
      | zero => simp [cutK]
      | succ n =>
        show cutK r 0 n (fun ls => K (c :: ls)) ↔ _
        rw [ih]; simp
    | succ o =>
      show cutK r o n K ↔ _
      rw [ih]; simp; intro _; omega
theorem putAt_cons (c : L) (r : List L) (o : Nat) (ls : List L) : putAt (c :: r) (o + 1) ls = c :: putAt r o ls := by
  have : o + 1 + ls.length = (o + ls.length) + 1 := by omega
  simp [putAt, this]
theorem putK_iff (cs : List L) (off : Nat) (ls : List L) (K : List L → Prop) : putK cs off ls K ↔ off + ls.length ≤ cs.length ∧ K (putAt cs off ls) := by
  induction cs generalizing off ls K with
  | nil => cases off <;> cases ls <;> simp [putK, putAt]
  | cons c r ih =>
    cases off with
    | zero => cases ls with
      | nil => simp [putK, putAt]
      | cons l ls =>
        show putK r 0 ls (fun q => K (l :: q)) ↔ _
        rw [ih]
        have : 0 + (ls.length + 1) = (0 + ls.length) + 1 := by omega
        simp [putAt]
    | succ o =>
      show putK r o ls (fun q => K (c :: q)) ↔ _
      rw [ih, putAt_cons]
      simp; intro _; omega
theorem loadK_elim (zs cs : List L) (K : List L → Prop) (h : loadK zs cs K) : ∃ ls r, cs = ls ++ r ∧ ls.length = zs.length ∧ K ls := by
  induction zs generalizing cs K with
  | nil => exact ⟨[], cs, rfl, rfl, h⟩
  | cons z zs ih =>
    have key : ∃ x r, cs = x :: r ∧ loadK zs r fun ls => K (x :: ls) := by
      cases z <;> first
        | (obtain ⟨x, r, h1, h2⟩ := h; exact ⟨_, r, h1, h2⟩)
        | (obtain ⟨x, n, r, h1, h2⟩ := h; exact ⟨_, r, h1, h2⟩)
    obtain ⟨x, r, rfl, h2⟩ := key
    obtain ⟨ls, r', rfl, hl, hk⟩ := ih r _ h2
    exact ⟨x :: ls, r', rfl, by simp [hl], hk⟩
theorem nthK_elim (cs : List C) (n : Nat) (K : C → Prop) (h : nthK cs n K) : ∃ c, cs[n]? = some c ∧ K c := by
  induction cs generalizing n with
  | nil => exact False.elim h
  | cons c r ih => cases n with
    | zero => exact ⟨c, rfl, h⟩
    | succ n => exact ih n h
theorem repK_eq (zs : List L) (n : Nat) (K : List L → Prop) : repK zs n K = K (rep zs n) := by
  induction n generalizing K with
  | zero => rfl
  | succ n ih =>
    show repK zs n (fun r => K (zs ++ r)) = _
    rw [ih]; rfl
theorem rep_length (zs : List L) (n : Nat) : (rep zs n).length = n * zs.length := by
  induction n with
  | zero => simp [rep]
  | succ n ih => simp [rep, ih, Nat.succ_mul]; omega
theorem zipK_elim (f : Nat → Nat × Nat) (ps : List (Nat × Operand)) (vs : List V) (K : List ((Nat × Nat) × V) → Prop) (h : zipK f ps vs K) :
    ps.length = vs.length ∧ K ((ps.zip vs).map fun q => (f q.1.1, q.2)) := by
  induction ps generalizing vs K with
  | nil => cases vs with
    | nil => exact ⟨rfl, h⟩
    | cons v r => exact False.elim h
  | cons a r ih => cases vs with
    | nil => exact False.elim h
    | cons v q => obtain ⟨h1, h2⟩ := ih q _ h; exact ⟨by simp [h1], h2⟩
theorem kindEq_iff (k k' : IntKind) : kindEq k k' = true ↔ k = k' := by
  cases k <;> cases k' <;> simp [kindEq]
def applyF (m : Nat → Option Bx) : Eff → Nat → Option Bx
  | [], id => m id
  | (k, b) :: r, id => if k = id then b else applyF m r id
theorem dropK_elim (x : Bxs) (t : Nat) (K : Bxs → Prop) (h : dropK x t K) : ∃ y, (∀ id, boxOf y id = if t = id then none else boxOf x id) ∧ K y := by
  induction x generalizing K with
  | nil => exact ⟨[], fun id => by simp [boxOf], h⟩
  | cons q r ih =>
    have h' : (bif Nat.beq q.1 t then dropK r t K else dropK r t fun r => K (q :: r)) := h
    cases hb : Nat.beq q.1 t with
    | true =>
      rw [hb] at h'
      obtain ⟨y, hy, hk⟩ := ih K h'
      refine ⟨y, fun id => ?_, hk⟩
      rw [hy]
      have : q.1 = t := Nat.eq_of_beq_eq_true hb
      by_cases he : t = id
      · simp [he]
      · have : Nat.beq q.1 id = false := by rw [this]; exact beq_ne he
        simp [he, boxOf, this]
    | false =>
      rw [hb] at h'
      obtain ⟨y, hy, hk⟩ := ih _ h'
      refine ⟨q :: y, fun id => ?_, hk⟩
      have hne : q.1 ≠ t := Nat.ne_of_beq_eq_false hb
      show (bif Nat.beq q.1 id then some q.2 else boxOf y id) = if t = id then none else (bif Nat.beq q.1 id then some q.2 else boxOf r id)
      rw [hy]
      by_cases he : q.1 = id
      · subst he
        have : ¬ t = q.1 := fun h => hne h.symm
        simp [this]
      · have h3 : Nat.beq q.1 id = false := beq_ne he
        simp [h3]
theorem applyK_elim (ef : Eff) (x : Bxs) (K : Bxs → Prop) (h : applyK ef x K) : ∃ y, (∀ id, boxOf y id = applyF (boxOf x) ef id) ∧ K y := by
  induction ef generalizing K with
  | nil => exact ⟨x, fun _ => rfl, h⟩
  | cons q r ih =>
    obtain ⟨y, hy, hk⟩ := ih _ (show applyK r x fun y => dropK y q.1 fun z => match q.2 with
      | none => K z
      | some b => K ((q.1, b) :: z) from h)
    obtain ⟨z, hz, hk⟩ := dropK_elim _ _ _ hk
    obtain ⟨k, b⟩ := q
    cases b with
    | none => exact ⟨z, fun id => by rw [hz]; simp [applyF, hy], hk⟩
    | some b =>
      refine ⟨(k, b) :: z, fun id => ?_, hk⟩
      show (bif Nat.beq k id then some b else boxOf z id) = if k = id then some b else applyF (boxOf x) r id
      rw [hz, hy]
      by_cases he : k = id
      · subst he; simp
      · have h3 : Nat.beq k id = false := beq_ne he
        simp [h3, he]
end Go.Sx

namespace Go.Sx
def Row (B : Nat → Prop) (w : World) (μ : Mu) (cs : List L) (b o : Nat) : Prop := ∃ vs, Rels B w μ cs vs ∧ Cells w b o vs
def Free (w : World) (b : Nat) : Prop := ∀ o, (w.cell? ⟨b, o, none⟩).isSome = true → w.frozen? ⟨b, o, none⟩ = false
def MapR (B : Nat → Prop) (w : World) (es : List (L × C)) (b : Nat) : Prop := ∃ es' clock, w.heap[b]? = some (.map es' clock) ∧ es.length = es'.size ∧
  ∀ (j : Nat) (q : L × C) (e : MapEntry), es[j]? = some q → es'[j]? = some e → RelL B w noMu q.1 e.key ∧ RelC B w noMu q.2 e.val
def live : Bx → Bool
  | .fz _ => false
  | _ => true
def BoxR (B : Nat → Prop) (w : World) (μ : Mu) (id : Nat) : Bx → Prop
  | .st cs => ∃ b o, μ id = some (some (b, o, cs.length)) ∧ Row B w μ cs b o ∧ Free w b ∧ B b ∧ b < w.heap.size
  | .ar cs => (μ id = some none ∧ cs = []) ∨ ∃ b o, μ id = some (some (b, o, cs.length)) ∧ Row B w noMu cs b o ∧ Free w b ∧ B b ∧ b < w.heap.size
  | .fz cs => (μ id = some none ∧ cs = []) ∨ ∃ b o, μ id = some (some (b, o, cs.length)) ∧ Row B w noMu cs b o ∧ ¬ B b ∧ b < w.heap.size
  | .mp es => ∃ b, μ id = some (some (b, 0, 0)) ∧ MapR B w es b ∧ Free w b ∧ B b ∧ b < w.heap.size
class Gl (P : Program) where
  S : Nat → Prop
  ok : Nat → Obj → Prop
structure Cx (P : Program) where
  base : Nat
  Bx : Nat → Prop
  lt : ∀ b, Bx b → b < base
  own : Nat → Prop
  disj : ∀ b, own b → ¬ Bx b
def Cx.ok {P : Program} (X : Cx P) (b : Nat) : Prop := X.base ≤ b ∨ X.own b
theorem Cx.nb {P : Program} {X : Cx P} {b : Nat} (h : X.ok b) : ¬ X.Bx b := by
  intro hb
  rcases h with h | h
  · have := X.lt b hb; omega
  · exact X.disj b h hb
def GPo {P : Program} [Gl P] (X : Cx P) (B : Nat → Prop) (w : World) : Prop := ∀ b, Gl.S P b → ¬ B b ∧ ∃ o, w.heap[b]? = some o ∧ Gl.ok P b o
theorem GPo.grow {P : Program} [Gl P] {X : Cx P} {B B' : Nat → Prop} {w w' : World} (h : GPo X B w) (g : Grow B w B' w') : GPo X B' w' := by
  intro b hb
  obtain ⟨h1, o, h2, h3⟩ := h b hb
  have hlt : b < w.heap.size := by
    rcases Nat.lt_or_ge b w.heap.size with h' | h'
    · exact h'
    · simp [Array.getElem?_eq_none h'] at h2
  exact ⟨fun hB => h1 (g.sub b hlt hB), o, by rw [g.old b hlt h1, h2], h3⟩
structure SB {P : Program} [Gl P] (X : Cx P) (m : Nat → Option Bx) (μ : Mu) (B : Nat → Prop) (w : World) : Prop where
  box : ∀ id bx, m id = some bx → BoxR B w μ id bx
  sep : ∀ id id' bx bx' b o n o' n', m id = some bx → m id' = some bx' → live bx = true → live bx' = true →
    μ id = some (some (b, o, n)) → μ id' = some (some (b, o', n')) → id = id'
  loc : ∀ id bx b o n, m id = some bx → live bx = true → isPar id = false → μ id = some (some (b, o, n)) → X.ok b
  bx : ∀ b, X.Bx b → B b
  sz : X.base ≤ w.heap.size
  blt : ∀ b, B b → b < w.heap.size
  gp : GPo X B w
def Wr (m : Nat → Option Bx) (μ : Mu) (b : Nat) : Prop := ∃ id bx o n, m id = some bx ∧ live bx = true ∧ μ id = some (some (b, o, n))
structure Fr (m : Nat → Option Bx) (μ : Mu) (w w' : World) : Prop where
  wr : ∀ b, b < w.heap.size → ¬ Wr m μ b → w'.heap[b]? = w.heap[b]?
  os : w'.os = w.os
  tape : w'.tape = w.tape
  output : w'.output = w.output
structure Step {P : Program} [Gl P] (X : Cx P) (m : Nat → Option Bx) (μ : Mu) (B : Nat → Prop) (w : World) (ef : Eff) (μ' : Mu) (B' : Nat → Prop) (w' : World) : Prop where
  sb : SB X (applyF m ef) μ' B' w'
  gr : Grow B w B' w'
  mu : ∀ id x, μ id = some x → μ' id = some x
  new : ∀ id, id ∉ ef.map (·.1) → μ' id = μ id
  fr : Fr m μ w w'
  wr : ∀ b, Wr (applyF m ef) μ' b → Wr m μ b ∨ w.heap.size ≤ b
  par : ∀ id, isPar id = true → μ' id = μ id
theorem Fr.refl (m : Nat → Option Bx) (μ : Mu) (w : World) : Fr m μ w w := ⟨fun _ _ _ => rfl, rfl, rfl, rfl⟩
theorem Step.refl {P : Program} [Gl P] {X : Cx P} {m : Nat → Option Bx} {μ : Mu} {B : Nat → Prop} {w : World} (h : SB X m μ B w) : Step X m μ B w [] μ B w :=
  ⟨h, Grow.refl B w, fun _ _ h => h, fun _ _ => rfl, Fr.refl m μ w, fun _ h => .inl h, fun _ _ => rfl⟩
theorem Rels.grow {B B' : Nat → Prop} {w w' : World} (g : Grow B w B' w') {μ μ' : Mu} (hm : ∀ id x, μ id = some x → μ' id = some x) {cs : List L} {vs : List Value}
    (h : Rels B w μ cs vs) : Rels B' w' μ' cs vs := ⟨h.1, fun j l v h1 h2 => (h.2 j l v h1 h2).grow g hm⟩
theorem RelC.grow {B B' : Nat → Prop} {w w' : World} (g : Grow B w B' w') {μ μ' : Mu} (hm : ∀ id x, μ id = some x → μ' id = some x) {c : C} {v : Value}
    (h : RelC B w μ c v) : RelC B' w' μ' c v := by
  cases c with
  | o l => exact RelL.grow g h hm
  | a ls => obtain ⟨vs, rfl, h⟩ := h; exact ⟨vs, rfl, h.grow g hm⟩
theorem RelV.grow {B B' : Nat → Prop} {w w' : World} (g : Grow B w B' w') {μ μ' : Mu} (hm : ∀ id x, μ id = some x → μ' id = some x) {x : V} {v : Value}
    (h : RelV B w μ x v) : RelV B' w' μ' x v := by
  cases x with
  | c x => exact RelC.grow g hm h
  | t xs => obtain ⟨vs, rfl, h⟩ := h; exact ⟨vs, rfl, h.1, fun j c v h1 h2 => (h.2 j c v h1 h2).grow g hm⟩
theorem noMu_le (μ' : Mu) : ∀ id x, noMu id = some x → μ' id = some x := fun _ _ h => by cases h
theorem Row.grow {B B' : Nat → Prop} {w w' : World} (g : Grow B w B' w') {μ μ' : Mu} (hm : ∀ id x, μ id = some x → μ' id = some x) {cs : List L} {b o : Nat}
    (h : Row B w μ cs b o) (hb : b < w.heap.size → w'.heap[b]? = w.heap[b]?) : Row B' w' μ' cs b o := by
  obtain ⟨vs, h1, h2⟩ := h
  exact ⟨vs, h1.grow g hm, h2.same hb⟩
theorem Free.same {w w' : World} {b : Nat} (h : Free w b) (hb : w'.heap[b]? = w.heap[b]?) : Free w' b := by
  intro o ho
  rw [World.frozen?_of_block (w := w) (a := ⟨b, o, none⟩) hb]
  rw [World.cell?_of_block (w := w) (a := ⟨b, o, none⟩) hb] at ho
  exact h o ho
theorem MapR.grow {B B' : Nat → Prop} {w w' : World} (g : Grow B w B' w') {es : List (L × C)} {b : Nat} (h : MapR B w es b) (hb : w'.heap[b]? = w.heap[b]?) : MapR B' w' es b := by
  obtain ⟨es', c, h1, h2, h3⟩ := h
  exact ⟨es', c, by rw [hb, h1], h2, fun j q e k1 k2 => ⟨(h3 j q e k1 k2).1.grow g fun _ _ h => h, (h3 j q e k1 k2).2.grow g fun _ _ h => h⟩⟩
theorem BoxR.same {B B' : Nat → Prop} {w w' : World} (g : Grow B w B' w') {μ μ' : Mu} (hm : ∀ id x, μ id = some x → μ' id = some x) {id : Nat} {bx : Bx} (h : BoxR B w μ id bx)
    (hb : ∀ b o n, live bx = true → μ id = some (some (b, o, n)) → w'.heap[b]? = w.heap[b]? ∧ B' b) : BoxR B' w' μ' id bx := by
  cases bx with
  | st cs =>
    obtain ⟨b, o, h1, h2, h3, h4, h5⟩ := h
    obtain ⟨k1, k2⟩ := hb b o _ rfl h1
    exact ⟨b, o, hm _ _ h1, h2.grow g hm fun _ => k1, h3.same k1, k2, Nat.lt_of_lt_of_le h5 g.size⟩
  | ar cs =>
    rcases h with ⟨h1, h2⟩ | ⟨b, o, h1, h2, h3, h4, h5⟩
    · exact .inl ⟨hm _ _ h1, h2⟩
    · obtain ⟨k1, k2⟩ := hb b o _ rfl h1
      exact .inr ⟨b, o, hm _ _ h1, h2.grow g (noMu_le _) fun _ => k1, h3.same k1, k2, Nat.lt_of_lt_of_le h5 g.size⟩
  | fz cs =>
    rcases h with ⟨h1, h2⟩ | ⟨b, o, h1, h2, h3, h4⟩
    · exact .inl ⟨hm _ _ h1, h2⟩
    · exact .inr ⟨b, o, hm _ _ h1, h2.grow g (noMu_le _) fun hb => g.old _ hb h3, fun hb => h3 (g.sub _ h4 hb), Nat.lt_of_lt_of_le h4 g.size⟩
  | mp es =>
    obtain ⟨b, h1, h2, h3, h4, h5⟩ := h
    obtain ⟨k1, k2⟩ := hb b 0 0 rfl h1
    exact ⟨b, hm _ _ h1, h2.grow g k1, h3.same k1, k2, Nat.lt_of_lt_of_le h5 g.size⟩
theorem SB.inB {P : Program} [Gl P] {X : Cx P} {m : Nat → Option Bx} {μ : Mu} {B : Nat → Prop} {w : World} (h : SB X m μ B w) {id : Nat} {bx : Bx} {b o n : Nat} (h1 : m id = some bx) (h2 : live bx = true)
    (h3 : μ id = some (some (b, o, n))) : B b ∧ b < w.heap.size ∧ Free w b := by
  have hb := h.box id bx h1
  cases bx with
  | st cs => obtain ⟨b', o', k1, _, k3, k4, k5⟩ := hb; rw [h3] at k1; cases k1; exact ⟨k4, k5, k3⟩
  | ar cs => rcases hb with ⟨k1, _⟩ | ⟨b', o', k1, _, k3, k4, k5⟩
             · rw [h3] at k1; cases k1
             · rw [h3] at k1; cases k1; exact ⟨k4, k5, k3⟩
  | fz cs => cases h2
  | mp es => obtain ⟨b', k1, _, k3, k4, k5⟩ := hb; rw [h3] at k1; cases k1; exact ⟨k4, k5, k3⟩
theorem SB.wrB {P : Program} [Gl P] {X : Cx P} {m : Nat → Option Bx} {μ : Mu} {B : Nat → Prop} {w : World} (h : SB X m μ B w) {b : Nat} (hw : Wr m μ b) : B b ∧ b < w.heap.size := by
  obtain ⟨id, bx, o, n, h1, h2, h3⟩ := hw
  exact ⟨(h.inB h1 h2 h3).1, (h.inB h1 h2 h3).2.1⟩
theorem SB.muOf {P : Program} [Gl P] {X : Cx P} {m : Nat → Option Bx} {μ : Mu} {B : Nat → Prop} {w : World} (h : SB X m μ B w) {id : Nat} {bx : Bx} (h1 : m id = some bx) : μ id ≠ none := by
  have hb := h.box id bx h1
  cases bx with
  | st cs => obtain ⟨b', o', k1, _⟩ := hb; rw [k1]; simp
  | ar cs => rcases hb with ⟨k1, _⟩ | ⟨b', o', k1, _⟩ <;> (rw [k1]; simp)
  | fz cs => rcases hb with ⟨k1, _⟩ | ⟨b', o', k1, _⟩ <;> (rw [k1]; simp)
  | mp es => obtain ⟨b', k1, _⟩ := hb; rw [k1]; simp
theorem Grow.of_heap {B : Nat → Prop} {w w' : World} (h : w'.heap = w.heap) : Grow B w B w' :=
  ⟨by rw [h]; exact Nat.le_refl _, fun _ _ _ => by rw [h], fun a ha => by simpa [World.cell?, h] using ha, fun _ _ h => h⟩
def upd (μ : Mu) (d : Nat) (x : Option Loc) : Mu := fun id => if d = id then some x else μ id
theorem upd_le {μ : Mu} {d : Nat} {x : Option Loc} (h : μ d = none) : ∀ id y, μ id = some y → upd μ d x id = some y := by
  intro id y hy
  unfold upd
  split
  · rename_i he; subst he; rw [h] at hy; cases hy
  · exact hy
theorem cell_ex_push {w w' : World} (hold : ∀ b, b < w.heap.size → w'.heap[b]? = w.heap[b]?) : ∀ a, (w.cell? a).isSome = true → (w'.cell? a).isSome = true := by
  intro a ha
  obtain ⟨v, hv⟩ := Option.isSome_iff_exists.1 ha
  rw [World.cell?_of_block (w := w) (hold a.block (World.block_lt_of_cell? w a hv)), hv]; rfl
theorem SB.create {P : Program} [Gl P] {X : Cx P} {m : Nat → Option Bx} {μ : Mu} {B : Nat → Prop} {w w' : World} (h : SB X m μ B w) {d : Nat} (hd : μ d = none) (hp : isPar d = false)
    (hsz : w'.heap.size = w.heap.size + 1) (hold : ∀ b, b < w.heap.size → w'.heap[b]? = w.heap[b]?) (hos : w'.os = w.os) (htp : w'.tape = w.tape) (hout : w'.output = w.output)
    (bx : Bx) (cs : List L) (vs : List Value) (hbx : (bx = .st cs ∧ Rels B w μ cs vs) ∨ (bx = .ar cs ∧ Rels B w noMu cs vs))
    (hc : Cells w' w.heap.size 0 vs) (hf : Free w' w.heap.size) :
    Step X m μ B w [(d, some bx)] (upd μ d (some (w.heap.size, 0, cs.length))) (fun b => B b ∨ b = w.heap.size) w' := by
  have g : Grow B w (fun b => B b ∨ b = w.heap.size) w' :=
    ⟨by omega, fun b hb _ => hold b hb, cell_ex_push hold, fun b hb h => h.resolve_right (by omega)⟩
  have hm := upd_le (x := some (w.heap.size, 0, cs.length)) hd
  have hself : upd μ d (some (w.heap.size, 0, cs.length)) d = some (some (w.heap.size, 0, cs.length)) := by simp [upd]
  have hne : ∀ id, id ≠ d → upd μ d (some (w.heap.size, 0, cs.length)) id = μ id := fun id h => by simp [upd, Ne.symm h]
  have hms : ∀ id, id ≠ d → applyF m [(d, some bx)] id = m id := fun id h => by simp [applyF, Ne.symm h]
  refine ⟨⟨?_, ?_, ?_, fun b hb => .inl (h.bx b hb), by rw [hsz]; exact Nat.le_succ_of_le h.sz, fun b hb => by rw [hsz]; rcases hb with hb | hb; exact Nat.lt_succ_of_lt (h.blt b hb); omega, h.gp.grow g⟩, g, hm, fun id hid => hne id (by simpa using hid), ⟨fun b hb _ => hold b hb, hos, htp, hout⟩, ?_, fun id hid => hne id (by rintro rfl; rw [hp] at hid; cases hid)⟩
  · intro id bx' hid
    by_cases he : id = d
    · subst he
      have : bx' = bx := by simpa [applyF] using hid.symm
      subst this
      rcases hbx with ⟨rfl, hr⟩ | ⟨rfl, hr⟩
      · exact ⟨_, _, hself, ⟨vs, hr.grow g hm, hc⟩, hf, .inr rfl, by omega⟩
      · exact .inr ⟨_, _, hself, ⟨vs, hr.grow g (noMu_le _), hc⟩, hf, .inr rfl, by omega⟩
    · rw [hms id he] at hid
      refine (h.box id bx' hid).same g hm fun b o n hl hmu => ?_
      obtain ⟨k1, k2, _⟩ := h.inB hid hl hmu
      exact ⟨hold b k2, .inl k1⟩
  · intro id id' b1 b2 b o n o' n' h1 h2 h3 h4 h5 h6
    by_cases he : id = d
    · by_cases he' : id' = d
      · rw [he, he']
      · rw [hms id' he'] at h2
        rw [hne id' he'] at h6
        obtain ⟨_, k2, _⟩ := h.inB h2 h4 h6
        subst he
        rw [hself] at h5
        cases h5
        exact absurd k2 (by omega)
    · by_cases he' : id' = d
      · rw [hms id he] at h1
        rw [hne id he] at h5
        obtain ⟨_, k2, _⟩ := h.inB h1 h3 h5
        subst he'
        rw [hself] at h6
        cases h6
        exact absurd k2 (by omega)
      · rw [hms id he] at h1; rw [hms id' he'] at h2
        rw [hne id he] at h5; rw [hne id' he'] at h6
        exact h.sep id id' b1 b2 b o n o' n' h1 h2 h3 h4 h5 h6
  · intro id b1 b o n h1 h2 h3 h4
    by_cases he : id = d
    · subst he; rw [hself] at h4; cases h4; exact .inl h.sz
    · rw [hms id he] at h1; rw [hne id he] at h4
      exact h.loc id b1 b o n h1 h2 h3 h4
  · rintro b ⟨id, b1, o, n, h1, h2, h3⟩
    by_cases he : id = d
    · subst he; rw [hself] at h3; cases h3; exact .inr (Nat.le_refl _)
    · rw [hms id he] at h1; rw [hne id he] at h3
      exact .inl ⟨id, b1, o, n, h1, h2, h3⟩
theorem SB.createNil {P : Program} [Gl P] {X : Cx P} {m : Nat → Option Bx} {μ : Mu} {B : Nat → Prop} {w : World} (h : SB X m μ B w) {d : Nat} (hd : μ d = none) (hp : isPar d = false) :
    Step X m μ B w [(d, some (.ar []))] (upd μ d none) B w := by
  have hm := upd_le (x := none) hd
  have hself : upd μ d none d = some none := by simp [upd]
  have hne : ∀ id, id ≠ d → upd μ d none id = μ id := fun id h => by simp [upd, Ne.symm h]
  have hms : ∀ id, id ≠ d → applyF m [(d, some (.ar []))] id = m id := fun id h => by simp [applyF, Ne.symm h]
  refine ⟨⟨?_, ?_, ?_, h.bx, h.sz, h.blt, h.gp⟩, Grow.refl B w, hm, fun id hid => hne id (by simpa using hid), Fr.refl _ _ _, ?_, fun id hid => hne id (by rintro rfl; rw [hp] at hid; cases hid)⟩
  · intro id bx' hid
    by_cases he : id = d
    · subst he
      have : bx' = .ar [] := by simpa [applyF] using hid.symm
      subst this
      exact .inl ⟨hself, rfl⟩
    · rw [hms id he] at hid
      refine (h.box id bx' hid).same (Grow.refl B w) hm fun b o n hl hmu => ?_
      exact ⟨rfl, (h.inB hid hl hmu).1⟩
  · intro id id' b1 b2 b o n o' n' h1 h2 h3 h4 h5 h6
    have he : id ≠ d := by rintro rfl; rw [hself] at h5; cases h5
    have he' : id' ≠ d := by rintro rfl; rw [hself] at h6; cases h6
    rw [hms id he] at h1; rw [hms id' he'] at h2
    rw [hne id he] at h5; rw [hne id' he'] at h6
    exact h.sep id id' b1 b2 b o n o' n' h1 h2 h3 h4 h5 h6
  · intro id b1 b o n h1 h2 h3 h4
    have he : id ≠ d := by rintro rfl; rw [hself] at h4; cases h4
    rw [hms id he] at h1; rw [hne id he] at h4
    exact h.loc id b1 b o n h1 h2 h3 h4
  · rintro b ⟨id, b1, o, n, h1, h2, h3⟩
    have he : id ≠ d := by rintro rfl; rw [hself] at h3; cases h3
    rw [hms id he] at h1; rw [hne id he] at h3
    exact .inl ⟨id, b1, o, n, h1, h2, h3⟩
theorem SB.freeze {P : Program} [Gl P] {X : Cx P} {m : Nat → Option Bx} {μ : Mu} {B : Nat → Prop} {w : World} (h : SB X m μ B w) {d : Nat} {cs : List L} (hd : m d = some (.ar cs)) (hp : isPar d = false) :
    ∃ B', Step X m μ B w [(d, some (.fz cs))] μ B' w ∧ ∀ c, B c → (∀ o n, μ d ≠ some (some (c, o, n))) → B' c := by
  have hms : ∀ id, id ≠ d → applyF m [(d, some (.fz cs))] id = m id := fun id h => by simp [applyF, Ne.symm h]
  have hmd : applyF m [(d, some (.fz cs))] d = some (.fz cs) := by simp [applyF]
  have sepL : ∀ id bx, applyF m [(d, some (.fz cs))] id = some bx → live bx = true → id ≠ d ∧ m id = some bx := by
    intro id bx h1 h2
    by_cases he : id = d
    · subst he; rw [hmd] at h1; cases h1; cases h2
    · exact ⟨he, by rw [← hms id he]; exact h1⟩
  have hwr : ∀ b, Wr (applyF m [(d, some (.fz cs))]) μ b → Wr m μ b ∨ w.heap.size ≤ b := by
    rintro b ⟨id, b1, o, n, h1, h2, h3⟩
    exact .inl ⟨id, b1, o, n, (sepL _ _ h1 h2).2, h2, h3⟩
  rcases h.box d _ hd with ⟨h1, h2⟩ | ⟨b, o, h1, h2, h3, h4, h5⟩
  · refine ⟨B, ⟨⟨?_, ?_, ?_, h.bx, h.sz, h.blt, h.gp⟩, Grow.refl B w, fun _ _ h => h, fun _ _ => rfl, Fr.refl _ _ _, hwr, fun _ _ => rfl⟩, fun c hc _ => hc⟩
    · intro id bx hid
      by_cases he : id = d
      · subst he; rw [hmd] at hid; cases hid; exact .inl ⟨h1, h2⟩
      · rw [hms id he] at hid; exact h.box id bx hid
    · intro id id' b1 b2 b o n o' n' k1 k2 k3 k4 k5 k6
      exact h.sep id id' b1 b2 b o n o' n' (sepL _ _ k1 k3).2 (sepL _ _ k2 k4).2 k3 k4 k5 k6
    · intro id b1 b o n k1 k2 k3 k4
      exact h.loc id b1 b o n (sepL _ _ k1 k2).2 k2 k3 k4
  · have g : Grow B w (fun c => B c ∧ c ≠ b) w := ⟨Nat.le_refl _, fun _ _ _ => rfl, fun _ h => h, fun _ _ h => h.1⟩
    refine ⟨fun c => B c ∧ c ≠ b, ⟨⟨?_, ?_, ?_, fun c hc => ⟨h.bx c hc, ?_⟩, h.sz, fun c hc => h.blt c hc.1, h.gp.grow g⟩, g, fun _ _ h => h, fun _ _ => rfl, Fr.refl _ _ _, hwr, fun _ _ => rfl⟩, fun c hc hne => ⟨hc, fun e => hne o _ (e ▸ h1)⟩⟩
    · intro id bx hid
      by_cases he : id = d
      · subst he; rw [hmd] at hid; cases hid
        exact .inr ⟨b, o, h1, h2.grow g (noMu_le _) fun _ => rfl, fun hb => hb.2 rfl, h5⟩
      · have hid' := hid
        rw [hms id he] at hid'
        refine (h.box id bx hid').same g (fun _ _ h => h) fun c o' n' hl hmu => ⟨rfl, (h.inB hid' hl hmu).1, ?_⟩
        rintro rfl
        exact he (h.sep id d _ _ c o' n' o _ hid' hd hl rfl hmu h1)
    · intro id id' b1 b2 b o n o' n' k1 k2 k3 k4 k5 k6
      exact h.sep id id' b1 b2 b o n o' n' (sepL _ _ k1 k3).2 (sepL _ _ k2 k4).2 k3 k4 k5 k6
    · intro id b1 b o n k1 k2 k3 k4
      exact h.loc id b1 b o n (sepL _ _ k1 k2).2 k2 k3 k4
    · rintro rfl
      exact Cx.nb (h.loc d _ c o _ hd rfl hp h1) hc
theorem applyF_append (m : Nat → Option Bx) (e1 e2 : Eff) : applyF (applyF m e1) e2 = applyF m (e2 ++ e1) := by
  funext id
  induction e2 with
  | nil => rfl
  | cons q r ih => simp [applyF, ih]
theorem Step.trans {P : Program} [Gl P] {X : Cx P} {m : Nat → Option Bx} {μ μ1 μ2 : Mu} {B B1 B2 : Nat → Prop} {w w1 w2 : World} {e1 e2 : Eff} (h : Step X m μ B w e1 μ1 B1 w1)
    (k : Step X (applyF m e1) μ1 B1 w1 e2 μ2 B2 w2) : Step X m μ B w (e2 ++ e1) μ2 B2 w2 where
  sb := by rw [← applyF_append]; exact k.sb
  gr := h.gr.trans k.gr
  mu := fun id x hx => k.mu id x (h.mu id x hx)
  new := fun id hid => by
    simp only [List.map_append, List.mem_append, not_or] at hid
    rw [k.new id hid.1, h.new id hid.2]
  fr := ⟨fun b hb hn => by
      rw [k.fr.wr b (Nat.lt_of_lt_of_le hb h.gr.size) (fun hw => (h.wr b hw).elim hn (by omega)), h.fr.wr b hb hn],
    k.fr.os.trans h.fr.os, k.fr.tape.trans h.fr.tape, k.fr.output.trans h.fr.output⟩
  wr := fun b hb => by
    rw [← applyF_append] at hb
    rcases k.wr b hb with h1 | h1
    · exact h.wr b h1
    · exact .inr (Nat.le_trans h.gr.size h1)
  par := fun id hid => (k.par id hid).trans (h.par id hid)
theorem SB.heap {P : Program} [Gl P] {X : Cx P} {m : Nat → Option Bx} {μ : Mu} {B : Nat → Prop} {w w' : World} (h : SB X m μ B w) (hh : w'.heap = w.heap) : SB X m μ B w' where
  box := fun id bx hid => (h.box id bx hid).same (Grow.of_heap hh) (fun _ _ h => h) fun b o n hl hm => ⟨by rw [hh], (h.inB hid hl hm).1⟩
  sep := h.sep
  loc := h.loc
  bx := h.bx
  sz := by rw [hh]; exact h.sz
  blt := fun b hb => by rw [hh]; exact h.blt b hb
  gp := h.gp.grow (Grow.of_heap hh)
theorem Step.heap {P : Program} [Gl P] {X : Cx P} {m : Nat → Option Bx} {μ : Mu} {B : Nat → Prop} {w w' : World} (h : SB X m μ B w) (hh : w'.heap = w.heap) (h1 : w'.os = w.os) (h2 : w'.tape = w.tape) (h3 : w'.output = w.output) :
    Step X m μ B w [] μ B w' :=
  ⟨h.heap hh, Grow.of_heap hh, fun _ _ h => h, fun _ _ => rfl, ⟨fun _ _ _ => by rw [hh], h1, h2, h3⟩, fun _ h => .inl h, fun _ _ => rfl⟩
theorem putAt_length {cs ls : List L} {off : Nat} (h : off + ls.length ≤ cs.length) : (putAt cs off ls).length = cs.length := by
  simp [putAt]; omega
theorem putAt_get {α : Type} (cs ls : List α) (off j : Nat) (h : off + ls.length ≤ cs.length) :
    (cs.take off ++ ls ++ cs.drop (off + ls.length))[j]? = if off ≤ j ∧ j < off + ls.length then ls[j - off]? else cs[j]? := by
  by_cases h1 : j < off
  · rw [List.append_assoc, List.getElem?_append_left (by simp; omega), List.getElem?_take, if_pos h1, if_neg (by omega)]
  · by_cases h2 : j < off + ls.length
    · rw [List.getElem?_append_left (by simp; omega), List.getElem?_append_right (by simp; omega), if_pos (by omega)]
      congr 1; simp; omega
    · rw [List.getElem?_append_right (by simp; omega), List.getElem?_drop, if_neg (by omega)]
      congr 1; simp; omega
theorem heap_setCells_ne (w : World) (b : Nat) : ∀ (vs : List Value) (o i : Nat), i ≠ b → (w.setCells b o vs).heap[i]? = w.heap[i]?
  | vs, o, i, h => by
    induction vs generalizing w o with
    | nil => rfl
    | cons v r ih =>
      rw [World.setCells, ih]
      simp only [World.setCell, Array.getElem?_modify]
      rw [if_neg (by omega)]
theorem size_setCells (w : World) (b : Nat) : ∀ (vs : List Value) (o : Nat), (w.setCells b o vs).heap.size = w.heap.size
  | vs, o => by
    induction vs generalizing w o with
    | nil => rfl
    | cons v r ih => rw [World.setCells, ih]; simp
theorem misc_setCells (w : World) (b : Nat) : ∀ (vs : List Value) (o : Nat), (w.setCells b o vs).os = w.os ∧ (w.setCells b o vs).tape = w.tape ∧ (w.setCells b o vs).output = w.output
  | vs, o => by
    induction vs generalizing w o with
    | nil => exact ⟨rfl, rfl, rfl⟩
    | cons v r ih => rw [World.setCells]; exact ih _ _
theorem ex_setCells (w : World) (b : Nat) : ∀ (vs : List Value) (o : Nat) (a : Addr), ((w.setCells b o vs).cell? a).isSome = (w.cell? a).isSome
  | vs, o, a => by
    induction vs generalizing w o with
    | nil => rfl
    | cons v r ih =>
      rw [World.setCells, ih]
      by_cases ha : (⟨b, o, none⟩ : Addr) = a
      · subst ha
        cases hc : w.cell? ⟨b, o, none⟩ with
        | some u => rw [World.cell?_setCell_same _ _ _ hc]; rfl
        | none =>
          simp only [World.cell?, World.setCell, Array.getElem?_modify] at hc ⊢
          cases hh : w.heap[b]? with
          | none => simp
          | some x => cases x <;> simp_all
      · rw [World.cell?_setCell_other _ _ _ _ ha]
end Go.Sx

namespace Go.Sx
theorem Rels.get {B : Nat → Prop} {w : World} {μ : Mu} {cs : List L} {vs : List Value} (h : Rels B w μ cs vs) {j : Nat} {v : Value} (hv : vs[j]? = some v) : ∃ l, cs[j]? = some l ∧ RelL B w μ l v := by
  have hj : j < cs.length := by rw [h.1]; exact (List.getElem?_eq_some_iff.1 hv).1
  exact ⟨cs[j], List.getElem?_eq_getElem hj, h.2 j _ v (List.getElem?_eq_getElem hj) hv⟩
theorem Rels.cons {B : Nat → Prop} {w : World} {μ : Mu} {l : L} {v : Value} {cs : List L} {vs : List Value} (h : RelL B w μ l v) (k : Rels B w μ cs vs) : Rels B w μ (l :: cs) (v :: vs) := by
  refine ⟨by simp [k.1], fun j a b h1 h2 => ?_⟩
  cases j with
  | zero => cases h1; cases h2; exact h
  | succ j => exact k.2 j a b h1 h2
theorem Rels.split {B : Nat → Prop} {w : World} {μ : Mu} {l : L} {b : List L} : ∀ {a : List L} {vs : List Value}, Rels B w μ (a ++ l :: b) vs →
    ∃ va u vb, vs = va ++ u :: vb ∧ Rels B w μ a va ∧ RelL B w μ l u ∧ Rels B w μ b vb
  | [], vs, h => by
    match vs, h with
    | [], h => simp [Rels] at h
    | u :: vb, h => exact ⟨[], u, vb, rfl, ⟨rfl, by simp⟩, h.2 0 l u rfl rfl, by simpa using h.1, fun j x y h1 h2 => h.2 (j + 1) x y h1 h2⟩
  | c :: a, vs, h => by
    match vs, h with
    | [], h => simp [Rels] at h
    | v :: vs, h =>
      obtain ⟨va, u, vb, rfl, h1, h2, h3⟩ := Rels.split (a := a) (vs := vs) ⟨by simpa using h.1, fun j x y h1 h2 => h.2 (j + 1) x y h1 h2⟩
      exact ⟨v :: va, u, vb, rfl, Rels.cons (h.2 0 c v rfl rfl) h1, h2, h3⟩
theorem Rels.append {B : Nat → Prop} {w : World} {μ : Mu} {cs ds : List L} {vs us : List Value} (h : Rels B w μ cs vs) (k : Rels B w μ ds us) : Rels B w μ (cs ++ ds) (vs ++ us) := by
  refine ⟨by simp [h.1, k.1], fun j l v h1 h2 => ?_⟩
  by_cases hj : j < cs.length
  · rw [List.getElem?_append_left hj] at h1
    rw [List.getElem?_append_left (by rw [← h.1]; exact hj)] at h2
    exact h.2 j l v h1 h2
  · rw [List.getElem?_append_right (by omega)] at h1
    rw [List.getElem?_append_right (by rw [← h.1]; omega), ← h.1] at h2
    exact k.2 _ l v h1 h2
theorem Rels.take {B : Nat → Prop} {w : World} {μ : Mu} {cs : List L} {vs : List Value} (h : Rels B w μ cs vs) (n : Nat) : Rels B w μ (cs.take n) (vs.take n) := by
  refine ⟨by simp [h.1], fun j l v h1 h2 => ?_⟩
  rw [List.getElem?_take] at h1 h2
  split at h1
  · rename_i hj
    rw [if_pos hj] at h2
    exact h.2 j l v h1 h2
  · cases h1
theorem Rels.drop {B : Nat → Prop} {w : World} {μ : Mu} {cs : List L} {vs : List Value} (h : Rels B w μ cs vs) (n : Nat) : Rels B w μ (cs.drop n) (vs.drop n) := by
  refine ⟨by simp [h.1], fun j l v h1 h2 => ?_⟩
  rw [List.getElem?_drop] at h1 h2
  exact h.2 _ l v h1 h2
theorem Cells.take {w : World} {b o : Nat} {vs : List Value} (h : Cells w b o vs) (n : Nat) : Cells w b o (vs.take n) := by
  intro j v hv
  rw [List.getElem?_take] at hv
  split at hv
  · exact h j v hv
  · cases hv
theorem Cells.drop {w : World} {b o : Nat} {vs : List Value} (h : Cells w b o vs) (n : Nat) : Cells w b (o + n) (vs.drop n) := by
  intro j v hv
  rw [List.getElem?_drop] at hv
  rw [Nat.add_assoc]
  exact h _ v hv
theorem Cells.append {w : World} {b o : Nat} {vs us : List Value} (h : Cells w b o vs) (k : Cells w b (o + vs.length) us) : Cells w b o (vs ++ us) := by
  intro j v hv
  by_cases hj : j < vs.length
  · rw [List.getElem?_append_left hj] at hv; exact h j v hv
  · rw [List.getElem?_append_right (by omega)] at hv
    have := k _ v hv
    rwa [show o + vs.length + (j - vs.length) = o + j by omega] at this
theorem Cells.ex {w : World} {b o : Nat} {vs : List Value} (h : Cells w b o vs) {j : Nat} (hj : j < vs.length) : (w.cell? ⟨b, o + j, none⟩).isSome = true := by
  rw [(h j vs[j] (List.getElem?_eq_getElem hj)).1]; rfl
theorem Rels.put {B : Nat → Prop} {w : World} {μ : Mu} {cs ls : List L} {vs us : List Value} (h : Rels B w μ cs vs) (k : Rels B w μ ls us) (off : Nat) (hoff : off + ls.length ≤ cs.length) :
    Rels B w μ (putAt cs off ls) (vs.take off ++ us ++ vs.drop (off + us.length)) := by
  have := ((h.take off).append k).append (h.drop (off + ls.length))
  rw [k.1] at this
  unfold putAt
  rw [k.1]
  exact this
theorem Cells.put {w : World} {b o : Nat} {vs us : List Value} (h : Cells w b o vs) (off : Nat) (hoff : off + us.length ≤ vs.length) (hone : ∀ v ∈ us, v.oneCell' = true) :
    Cells (w.setCells b (o + off) us) b o (vs.take off ++ us ++ vs.drop (off + us.length)) := by
  intro j v hv
  rw [putAt_get vs us off j hoff] at hv
  split at hv
  · rename_i hj
    have := World.cell?_setCells_in b us (o + off) w (fun i hi => by
      have := h.ex (j := off + i) (by omega)
      rwa [← Nat.add_assoc] at this) (j - off) (by omega)
    rw [show o + off + (j - off) = o + j by omega] at this
    refine ⟨?_, hone v (List.mem_of_getElem? hv)⟩
    rw [this, ← hv]
    exact (List.getElem?_eq_getElem (by omega)).symm
  · rename_i hj
    refine ⟨?_, (h j v hv).2⟩
    rw [World.cell?_setCells_out b us (o + off) w _ (fun _ _ => by simp only; omega)]
    exact (h j v hv).1
theorem SB.others {P : Program} [Gl P] {X : Cx P} {m : Nat → Option Bx} {μ : Mu} {B : Nat → Prop} {w : World} (h : SB X m μ B w) {d : Nat} {bx : Bx} (hd : m d = some bx) (hl : live bx = true) {b o n : Nat} (hm : μ d = some (some (b, o, n)))
    {w' : World} (hw : ∀ i, i ≠ b → w'.heap[i]? = w.heap[i]?) {id : Nat} {bx' : Bx} (hid : m id = some bx') (hne : id ≠ d) {b' o' n' : Nat} (hl' : live bx' = true) (hm' : μ id = some (some (b', o', n'))) :
    w'.heap[b']? = w.heap[b']? := by
  refine hw b' ?_
  rintro rfl
  exact hne (h.sep id d bx' bx b' o' n' o n hid hd hl' hl hm' hm)
theorem SB.put {P : Program} [Gl P] {X : Cx P} {m : Nat → Option Bx} {μ : Mu} {B : Nat → Prop} {w : World} (h : SB X m μ B w) {d : Nat} {b o : Nat} {cs : List L} (bx bx' : Bx) (off : Nat) (ls : List L) (us : List Value)
    (hd : m d = some bx) (hm : μ d = some (some (b, o, cs.length))) (hoff : off + ls.length ≤ cs.length) (hone : ∀ v ∈ us, v.oneCell' = true)
    (hk : (bx = .st cs ∧ bx' = .st (putAt cs off ls) ∧ Rels B w μ ls us) ∨ (bx = .ar cs ∧ bx' = .ar (putAt cs off ls) ∧ Rels B w noMu ls us)) :
    Step X m μ B w [(d, some bx')] μ B (w.setCells b (o + off) us) := by
  have hl : live bx = true := by rcases hk with ⟨rfl, _⟩ | ⟨rfl, _⟩ <;> rfl
  have hl' : live bx' = true := by rcases hk with ⟨_, rfl, _⟩ | ⟨_, rfl, _⟩ <;> rfl
  obtain ⟨hB, hlt, hfree⟩ := h.inB hd hl hm
  have hw : ∀ i, i ≠ b → (w.setCells b (o + off) us).heap[i]? = w.heap[i]? := fun i hi => heap_setCells_ne w b us _ i hi
  have g : Grow B w B (w.setCells b (o + off) us) := by
    refine ⟨by rw [size_setCells]; exact Nat.le_refl _, fun i _ hn => hw i (by rintro rfl; exact hn hB), fun a ha => by rw [ex_setCells]; exact ha, fun _ _ h => h⟩
  have hfree' : Free (w.setCells b (o + off) us) b := by
    intro p hp
    rw [World.frozen?_setCells]
    rw [ex_setCells] at hp
    exact hfree p hp
  have hms : ∀ id, id ≠ d → applyF m [(d, some bx')] id = m id := fun id h => by simp [applyF, Ne.symm h]
  have hmd : applyF m [(d, some bx')] d = some bx' := by simp [applyF]
  have pick : ∀ id x, applyF m [(d, some bx')] id = some x → live x = true → ∃ y, m id = some y ∧ live y = true := by
    intro id x h1 h2
    by_cases he : id = d
    · subst he; exact ⟨bx, hd, hl⟩
    · exact ⟨x, by rw [← hms id he]; exact h1, h2⟩
  have hplen : (putAt cs off ls).length = cs.length := putAt_length hoff
  refine ⟨⟨?_, ?_, ?_, h.bx, by rw [size_setCells]; exact h.sz, fun b hb => by rw [size_setCells]; exact h.blt b hb, h.gp.grow g⟩, g, fun _ _ h => h, fun _ _ => rfl, ⟨fun i hi hn => hw i ?_, (misc_setCells w b us _).1, (misc_setCells w b us _).2.1, (misc_setCells w b us _).2.2⟩, ?_, fun _ _ => rfl⟩
  · intro id x hid
    by_cases he : id = d
    · subst he
      rw [hmd] at hid
      cases hid
      have hbox := h.box id bx hd
      rcases hk with ⟨rfl, rfl, hr⟩ | ⟨rfl, rfl, hr⟩
      · obtain ⟨b1, o1, k1, ⟨vs, k2, k3⟩, _⟩ := hbox
        rw [hm] at k1; cases k1
        exact ⟨b, o, by rw [hplen]; exact hm, ⟨_, (k2.put hr off hoff).grow g (fun _ _ h => h), k3.put off (by rw [← hr.1, ← k2.1]; exact hoff) hone⟩, hfree', hB, by rw [size_setCells]; exact hlt⟩
      · rcases hbox with ⟨k1, _⟩ | ⟨b1, o1, k1, ⟨vs, k2, k3⟩, _⟩
        · rw [hm] at k1; cases k1
        · rw [hm] at k1; cases k1
          exact .inr ⟨b, o, by rw [hplen]; exact hm, ⟨_, (k2.put hr off hoff).grow g (noMu_le _), k3.put off (by rw [← hr.1, ← k2.1]; exact hoff) hone⟩, hfree', hB, by rw [size_setCells]; exact hlt⟩
    · rw [hms id he] at hid
      refine (h.box id x hid).same g (fun _ _ h => h) fun b' o' n' hlx hmx => ⟨h.others hd hl hm hw hid he hlx hmx, (h.inB hid hlx hmx).1⟩
  · intro id id' b1 b2 b o n o' n' h1 h2 h3 h4 h5 h6
    obtain ⟨y, k1, k2⟩ := pick id b1 h1 h3
    obtain ⟨y', k3, k4⟩ := pick id' b2 h2 h4
    exact h.sep id id' y y' b o n o' n' k1 k3 k2 k4 h5 h6
  · intro id b1 b o n h1 h2 h3 h4
    obtain ⟨y, k1, k2⟩ := pick id b1 h1 h2
    exact h.loc id y b o n k1 k2 h3 h4
  · rintro rfl
    exact hn ⟨d, bx, o, _, hd, hl, hm⟩
  · rintro i ⟨id, x, o', n', h1, h2, h3⟩
    obtain ⟨y, k1, k2⟩ := pick id x h1 h2
    exact .inl ⟨id, y, o', n', k1, k2, h3⟩
theorem SB.drop {P : Program} [Gl P] {X : Cx P} {m : Nat → Option Bx} {μ : Mu} {B : Nat → Prop} {w : World} (h : SB X m μ B w) (d : Nat) : Step X m μ B w [(d, none)] μ B w := by
  have pick : ∀ id x, applyF m [(d, none)] id = some x → m id = some x := by
    intro id x h1
    by_cases he : d = id
    · simp [applyF, he] at h1
    · simpa [applyF, he] using h1
  exact ⟨⟨fun id x hid => h.box id x (pick id x hid), fun id id' b1 b2 b o n o' n' h1 h2 => h.sep id id' b1 b2 b o n o' n' (pick _ _ h1) (pick _ _ h2),
    fun id b1 b o n h1 => h.loc id b1 b o n (pick _ _ h1), h.bx, h.sz, h.blt, h.gp⟩, Grow.refl B w, fun _ _ h => h, fun _ _ => rfl, Fr.refl _ _ _,
    fun b hb => by obtain ⟨id, x, o, n, h1, h2, h3⟩ := hb; exact .inl ⟨id, x, o, n, pick _ _ h1, h2, h3⟩, fun _ _ => rfl⟩
theorem SB.appendIn {P : Program} [Gl P] {X : Cx P} {m : Nat → Option Bx} {μ : Mu} {B : Nat → Prop} {w : World} (h : SB X m μ B w) {id d : Nat} {b o : Nat} {cs : List L} (hid : m id = some (.ar cs))
    (hm : μ id = some (some (b, o, cs.length))) (hp : isPar id = false) (hd : μ d = none) (hpd : isPar d = false) (off k : Nat) (us : List Value) (ys : List L) (hoff : off + k ≤ cs.length) (hr : Rels B w noMu ys us)
    (hex : ∀ j, j < us.length → (w.cell? ⟨b, o + off + k + j, none⟩).isSome = true) (hone : ∀ v ∈ us, v.oneCell' = true) :
    Step X m μ B w [(d, some (.ar ((cs.drop off).take k ++ ys))), (id, none)] (upd μ d (some (b, o + off, ((cs.drop off).take k ++ ys).length))) B (w.setCells b (o + off + k) us) := by
  obtain ⟨hB, hlt, hfree⟩ := h.inB hid rfl hm
  have hne : d ≠ id := by rintro rfl; rw [hm] at hd; cases hd
  have hw : ∀ i, i ≠ b → (w.setCells b (o + off + k) us).heap[i]? = w.heap[i]? := fun i hi => heap_setCells_ne w b us _ i hi
  have g : Grow B w B (w.setCells b (o + off + k) us) := by
    refine ⟨by rw [size_setCells]; exact Nat.le_refl _, fun i _ hn => hw i (by rintro rfl; exact hn hB), fun a ha => by rw [ex_setCells]; exact ha, fun _ _ h => h⟩
  have hfree' : Free (w.setCells b (o + off + k) us) b := by
    intro p hp
    rw [World.frozen?_setCells]
    rw [ex_setCells] at hp
    exact hfree p hp
  have hmu := upd_le (x := some (b, o + off, ((cs.drop off).take k ++ ys).length)) hd
  have hself : upd μ d (some (b, o + off, ((cs.drop off).take k ++ ys).length)) d = some (some (b, o + off, ((cs.drop off).take k ++ ys).length)) := by simp [upd]
  have hnu : ∀ i, i ≠ d → upd μ d (some (b, o + off, ((cs.drop off).take k ++ ys).length)) i = μ i := fun i h => by simp [upd, Ne.symm h]
  have hmd : applyF m [(d, some (.ar ((cs.drop off).take k ++ ys))), (id, none)] d = some (.ar ((cs.drop off).take k ++ ys)) := by simp [applyF]
  have hmi : ∀ i x, i ≠ d → applyF m [(d, some (.ar ((cs.drop off).take k ++ ys))), (id, none)] i = some x → m i = some x ∧ i ≠ id := by
    intro i x hi h1
    by_cases he : id = i
    · simp [applyF, Ne.symm hi, he] at h1
    · exact ⟨by simpa [applyF, Ne.symm hi, he] using h1, Ne.symm he⟩
  refine ⟨⟨?_, ?_, ?_, h.bx, by rw [size_setCells]; exact h.sz, fun b hb => by rw [size_setCells]; exact h.blt b hb, h.gp.grow g⟩, g, hmu, fun i hi => hnu i (by rintro rfl; exact hi (by simp)), ⟨fun i hi hn => hw i ?_, (misc_setCells w b us _).1, (misc_setCells w b us _).2.1, (misc_setCells w b us _).2.2⟩, ?_, fun i hi => hnu i (by rintro rfl; rw [hpd] at hi; cases hi)⟩
  · intro i x hi
    by_cases he : i = d
    · subst he
      rw [hmd] at hi; cases hi
      rcases h.box id _ hid with ⟨k1, _⟩ | ⟨b1, o1, k1, ⟨vs, k2, k3⟩, _⟩
      · rw [hm] at k1; cases k1
      · rw [hm] at k1; cases k1
        refine .inr ⟨b, o + off, hself, ⟨(vs.drop off).take k ++ us, (((k2.drop off).take k).append hr).grow g (noMu_le _), ?_⟩, hfree', hB, by rw [size_setCells]; exact hlt⟩
        have hlen : ((vs.drop off).take k).length = k := by have := k2.1; simp; omega
        refine Cells.append (fun j v hv => ?_) (fun j v hv => ?_)
        · have hj : j < k := by have := (List.getElem?_eq_some_iff.1 hv).1; omega
          refine ⟨?_, (((k3.drop off).take k) j v hv).2⟩
          rw [World.cell?_setCells_out b us (o + off + k) w _ (fun _ _ => by simp only; omega)]
          exact (((k3.drop off).take k) j v hv).1
        · rw [hlen]
          have hj := (List.getElem?_eq_some_iff.1 hv)
          refine ⟨?_, hone v (List.mem_of_getElem? hv)⟩
          rw [World.cell?_setCells_in b us (o + off + k) w hex j hj.1, hj.2]
    · obtain ⟨k1, k2⟩ := hmi i x he hi
      refine (h.box i x k1).same g hmu fun b' o' n' hlx hmx => ⟨h.others hid rfl hm hw k1 k2 hlx hmx, (h.inB k1 hlx hmx).1⟩
  · intro i i' b1 b2 c p n p' n' h1 h2 h3 h4 h5 h6
    by_cases he : i = d
    · by_cases he' : i' = d
      · rw [he, he']
      · obtain ⟨k1, k2⟩ := hmi i' b2 he' h2
        rw [hnu i' he'] at h6
        subst he; rw [hself] at h5; cases h5
        exact absurd (h.sep i' id _ _ _ _ _ _ _ k1 hid h4 rfl h6 hm) k2
    · obtain ⟨k1, k2⟩ := hmi i b1 he h1
      rw [hnu i he] at h5
      by_cases he' : i' = d
      · subst he'; rw [hself] at h6; cases h6
        exact absurd (h.sep i id _ _ _ _ _ _ _ k1 hid h3 rfl h5 hm) k2
      · obtain ⟨k3, k4⟩ := hmi i' b2 he' h2
        rw [hnu i' he'] at h6
        exact h.sep i i' b1 b2 c p n p' n' k1 k3 h3 h4 h5 h6
  · intro i b1 c p n h1 h2 h3 h4
    by_cases he : i = d
    · subst he; rw [hself] at h4; cases h4
      exact h.loc id _ _ _ _ hid rfl hp hm
    · obtain ⟨k1, k2⟩ := hmi i b1 he h1
      rw [hnu i he] at h4
      exact h.loc i b1 c p n k1 h2 h3 h4
  · rintro rfl
    exact hn ⟨id, _, o, _, hid, rfl, hm⟩
  · rintro c ⟨i, x, p, n, h1, h2, h3⟩
    by_cases he : i = d
    · subst he; rw [hself] at h3; cases h3
      exact .inl ⟨id, _, o, _, hid, rfl, hm⟩
    · obtain ⟨k1, k2⟩ := hmi i x he h1
      rw [hnu i he] at h3
      exact .inl ⟨i, x, p, n, k1, h2, h3⟩
end Go.Sx

namespace Go.Sx
def zval : L → Value
  | .i k n => .int k n
  | .ff => .bool false
  | .s l => .string ⟨⟨l⟩⟩
  | .nl => .slice none 0 0
  | .np => .pointer none
  | .nz true => .map none
  | .nz false => .nilFunc
  | _ => .tuple #[]
def isZero : L → Bool
  | .i _ _ | .ff | .s _ | .nl | .np | .nz _ => true
  | _ => false
def UndOk (P : Program) (T : TypeId → TI) (t : TypeId) : D → Prop
  | .int k => P.underlying t = some (.int k)
  | .bool => P.underlying t = some .bool
  | .str => P.underlying t = some .string
  | .slice e => P.underlying t = some (.slice e) ∧ isOther (T e).d = false
  | .ptr e => P.underlying t = some (.pointer e)
  | .struct fs => (∃ fields : Array Field, P.underlying t = some (.struct fields) ∧ fields.toList.map (fun f => (f.offset, f.type)) = fs) ∧
      (∀ q ∈ fs, isOther (T q.2).d = false ∧ 0 < (T q.2).size)
  | .array n e => P.underlying t = some (.array n e) ∧ isOther (T e).d = false
  | .map k e => P.underlying t = some (.map k e) ∧ isOther (T k).d = false ∧ isOther (T e).d = false
  | .func => ∃ ps rs v, P.underlying t = some (.func ps rs v)
  | .other => True
def EqVals : List L → List Value → List Value → Bool → Prop
  | [], vs, us, r => vs = [] ∧ us = [] ∧ r = true
  | z :: zs, vs, us, r => ∃ v u vs' us' r', vs = v :: vs' ∧ us = u :: us' ∧ EqVals zs vs' us' r' ∧ match z with
    | .i k _ => ∃ a b, v = .int k a ∧ u = .int k b ∧ r = (a == b && r')
    | .s _ => ∃ a b : List UInt8, v = .string ⟨⟨a⟩⟩ ∧ u = .string ⟨⟨b⟩⟩ ∧ r = (a == b && r')
    | .ff => ∃ a b, v = .bool a ∧ u = .bool b ∧ r = (a == b && r')
    | _ => False
def EqTy (P : Program) (t : TypeId) (zs : List L) : Prop :=
  P.eqGuardType P.depth t = false ∧ ∀ vs us r (w : World), EqVals zs vs us r → (Op.equal t (.agg ⟨vs⟩) (.agg ⟨us⟩)).run P w = .ok r w
def isAggV : Value → Bool
  | .agg _ => true
  | _ => false
structure TyOk (P : Program) (T : TypeId → TI) (t : TypeId) : Prop where
  info : ∃ i, P.info? t = some i ∧ i.size = (T t).size ∧ i.bytes = (T t).bytes ∧ ∃ z, i.zero = some z ∧ z.cells.toList = (T t).zero.map zval
  len : (T t).zero.length = (T t).size
  zero : ∀ l ∈ (T t).zero, isZero l = true
  agg : (T t).agg = isAgg (T t).d
  byt : 0 < (T t).bytes
  za : ∀ i z, P.info? t = some i → i.zero = some z → isAggV z = (T t).agg
  und : UndOk P T t (T t).d
def TOk (P : Program) (T : TypeId → TI) : Prop := ∀ t, isOther (T t).d = false → TyOk P T t
theorem zval_rel {B : Nat → Prop} {w : World} {μ : Mu} {l : L} (h : isZero l = true) : RelL B w μ l (zval l) := by
  cases l <;> first | exact .i | exact .ff | exact .s | exact .nl | exact .np | (rename_i x; cases x; exact .nf; exact .nm) | cases h
theorem cz_rel {B : Nat → Prop} {w : World} {μ : Mu} {l : L} (h : isZero l = true) : RelL B w μ (cz l) (zval l) := by
  cases l <;> first | exact .i | exact .b | exact .s | exact .sl0 | exact .np | (rename_i x; cases x; exact .nf; exact .nm) | cases h
theorem zero_rels {B : Nat → Prop} {w : World} {μ : Mu} {zs : List L} (h : ∀ l ∈ zs, isZero l = true) : Rels B w μ zs (zs.map zval) := by
  refine ⟨by simp, fun j l v h1 h2 => ?_⟩
  simp only [List.getElem?_map, h1, Option.map_some, Option.some.injEq] at h2
  subst h2
  exact zval_rel (h l (List.mem_of_getElem? h1))
theorem czero_rels {B : Nat → Prop} {w : World} {μ : Mu} {zs : List L} (h : ∀ l ∈ zs, isZero l = true) : Rels B w μ (zs.map cz) (zs.map zval) := by
  refine ⟨by simp, fun j l v h1 h2 => ?_⟩
  simp only [List.getElem?_map, Option.map_eq_some_iff] at h1 h2
  obtain ⟨x, hx, rfl⟩ := h1
  obtain ⟨y, hy, rfl⟩ := h2
  rw [hx] at hy; cases hy
  exact cz_rel (h x (List.mem_of_getElem? hx))
theorem czK_eq (zs : List L) (K : List L → Prop) : czK zs K = K (zs.map cz) := by
  induction zs generalizing K with
  | nil => rfl
  | cons z r ih =>
    show czK r (fun q => K (cz z :: q)) = _
    rw [ih]; rfl
section
variable {P : Program} [Gl P] {T : TypeId → TI} {B : Nat → Prop} {w : World} {μ : Mu} {X : Cx P} {m : Nat → Option Bx}
theorem run_isAgg' {t : TypeId} (h : TyOk P T t) (ho : isOther (T t).d = false) : (Go.isAgg t).run P w = .ok (T t).agg w := by
  rw [h.agg]
  have hu := h.und
  cases hd : (T t).d with
  | other => rw [hd] at ho; cases ho
  | int k => rw [hd] at hu; simp [Go.isAgg, run_underlying (show _ = _ from hu), isAgg]
  | bool => rw [hd] at hu; simp [Go.isAgg, run_underlying (show _ = _ from hu), isAgg]
  | str => rw [hd] at hu; simp [Go.isAgg, run_underlying (show _ = _ from hu), isAgg]
  | slice e => rw [hd] at hu; simp [Go.isAgg, run_underlying hu.1, isAgg]
  | ptr e => rw [hd] at hu; simp [Go.isAgg, run_underlying (show _ = _ from hu), isAgg]
  | struct fs => rw [hd] at hu; obtain ⟨⟨f, hf, _⟩, _⟩ := hu; simp [Go.isAgg, run_underlying hf, isAgg]
  | array n e => rw [hd] at hu; simp [Go.isAgg, run_underlying hu.1, isAgg]
  | map k e => rw [hd] at hu; simp [Go.isAgg, run_underlying hu.1, isAgg]
  | func => rw [hd] at hu; obtain ⟨ps, rs, v, hu⟩ := hu; simp [Go.isAgg, run_underlying hu, isAgg]
theorem run_sizeOf' {t : TypeId} (h : TyOk P T t) : (Go.sizeOf t).run P w = .ok (T t).size w := by
  obtain ⟨i, h1, h2, _⟩ := h.info
  simp [Go.sizeOf, typeInfo, h1, h2]
theorem add_lit (b o n : Nat) : Addr.add ⟨b, o, none⟩ n = ⟨b, o + n, none⟩ := Addr.add_lit b o n
theorem run_loadVar' {t : TypeId} (h : TyOk P T t) (ho : isOther (T t).d = false) {b o : Nat} {vs : List Value} (hc : Cells w b o vs) (hl : vs.length = (T t).size) :
    (loadVar t ⟨b, o, none⟩).run P w = if (T t).agg then .ok (.agg ⟨vs⟩) w else (load ⟨b, o, none⟩).run P w := by
  simp only [loadVar, Sem.run_bind, run_isAgg' h ho, Result.andThen_ok]
  cases (T t).agg with
  | false => simp
  | true =>
    have := run_loadCells_list (P := P) w ⟨b, o, none⟩ vs (fun j v hj => by rw [add_lit]; exact (hc j v hj).1)
    simp only [if_true, Sem.run_bind, run_sizeOf' h, Result.andThen_ok, ← hl, this, Sem.run_pure]
theorem load_one {b o : Nat} {v : Value} (h : w.cell? ⟨b, o, none⟩ = some v) : (load ⟨b, o, none⟩).run P w = .ok v w := by simp [h]
theorem mkV_load {t : TypeId} (h : TyOk P T t) (ho : isOther (T t).d = false) {b o : Nat} {ls : List L} {vs : List Value} (hr : Rels B w μ ls vs) (hc : Cells w b o vs) (hl : ls.length = (T t).size)
    {K : V → Prop} (hk : mkV (T t).agg ls K) : ∃ v v', K v ∧ (loadVar t ⟨b, o, none⟩).run P w = .ok v' w ∧ RelV B w μ v v' := by
  rw [run_loadVar' h ho hc (by rw [← hr.1, hl])]
  cases hg : (T t).agg with
  | true =>
    rw [hg] at hk
    exact ⟨_, _, hk, rfl, ⟨vs, rfl, hr⟩⟩
  | false =>
    rw [hg] at hk
    match ls, hk with
    | [l], hk =>
      match vs, hr, hc with
      | [v], hr, hc =>
        refine ⟨_, v, hk, ?_, hr.2 0 l v rfl rfl⟩
        exact load_one (hc 0 v rfl).1
theorem RelV.ptr {id off : Nat} {v : Value} (h : RelV B w μ (.c (.o (.p id off))) v) : ∃ b o n, μ id = some (some (b, o, n)) ∧ v = .pointer (some ⟨b, o + off, none⟩) := by
  have h' : RelL B w μ (.p id off) v := h
  cases h' with
  | p h1 => exact ⟨_, _, _, h1, rfl⟩
theorem cond_false {c : Bool} {A : Prop} (h : bif c then False else A) : c = false ∧ A := by
  cases c
  · exact ⟨rfl, h⟩
  · exact h.elim
theorem cond_true {c : Bool} {A : Prop} (h : bif c then A else False) : c = true ∧ A := by
  cases c
  · exact h.elim
  · exact ⟨rfl, h⟩
theorem load_sound (hT : TOk P T) (hsb : SB X m μ B w) {t : TypeId} {a : V} {va : Value} {K : V → Prop} (h : loadSem (T t) a (lkm m) K) (ha : RelV B w μ a va) :
    ∃ v v', K v ∧ (Instr.loadAt t va).run P w = .ok v' w ∧ RelV B w μ v v' := by
  obtain ⟨ho, h⟩ := cond_false h
  have ht := hT t ho
  have arr : ∀ {b o : Nat} {cs : List L} {K : V → Prop}, Row B w noMu cs b o → (loadK (T t).zero cs fun ls => mkV (T t).agg ls K) →
      ∃ v v', K v ∧ (loadVar t ⟨b, o, none⟩).run P w = .ok v' w ∧ RelV B w μ v v' := by
    intro b o cs K hrow hk
    obtain ⟨ls, r, rfl, hl, hk⟩ := loadK_elim _ _ _ hk
    obtain ⟨vs, h1, h2⟩ := hrow
    have h1' := (h1.take ls.length).grow (Grow.refl B w) (noMu_le μ)
    rw [List.take_left] at h1'
    exact mkV_load ht ho h1' (h2.take _) (by rw [hl, ht.len]) hk
  match a, h, ha with
  | .c (.o (.p id off)), h, ha =>
    obtain ⟨b, o, n, hm, rfl⟩ := ha.ptr
    obtain ⟨bx, hb, h⟩ := h
    have hbox := hsb.box id bx hb
    have key : ∃ v v', K v ∧ (loadVar t ⟨b, o + off, none⟩).run P w = .ok v' w ∧ RelV B w μ v v' := by
      cases bx with
      | st cs =>
        obtain ⟨h1, h2⟩ := (cutK_iff _ _ _ _).1 h
        obtain ⟨b', o', k1, ⟨vs, k2, k3⟩, _⟩ := hbox
        rw [hm] at k1; cases k1
        exact mkV_load ht ho ((k2.drop off).take _) ((k3.drop off).take _) (by simp; omega) h2
      | ar cs =>
        rcases hbox with ⟨k1, _⟩ | ⟨b', o', k1, ⟨vs, k2, k3⟩, _⟩
        · rw [hm] at k1; cases k1
        · rw [hm] at k1; cases k1
          exact arr ⟨_, k2.drop off, k3.drop off⟩ h
      | fz cs =>
        rcases hbox with ⟨k1, _⟩ | ⟨b', o', k1, ⟨vs, k2, k3⟩, _⟩
        · rw [hm] at k1; cases k1
        · rw [hm] at k1; cases k1
          exact arr ⟨_, k2.drop off, k3.drop off⟩ h
      | mp es => exact h.elim
    obtain ⟨v, v', k1, k2, k3⟩ := key
    exact ⟨v, v', k1, by simp only [Instr.loadAt, Instr.sureAddr, Sem.run_bind, Sem.run_pure, Result.andThen_ok, k2], k3⟩
  | .c (.o (.pf cs)), h, ha =>
    have ha' : RelL B w μ (.pf cs) va := ha
    cases ha' with
    | pf hB hl hv hr =>
      obtain ⟨v, v', k1, k2, k3⟩ := arr ⟨_, ⟨hl, hr⟩, hv⟩ h
      exact ⟨v, v', k1, by simp only [Instr.loadAt, Instr.sureAddr, Sem.run_bind, Sem.run_pure, Result.andThen_ok, k2], k3⟩
theorem offK_elim {n : Nat} {i : Int} {K : Nat → Prop} (h : offK n i K) : ∃ j : Nat, i = (j : Int) ∧ j < n ∧ K j := by
  obtain ⟨⟨h1, h2⟩, ⟨h3⟩⟩ := h
  refine ⟨i.toNat, by omega, by omega, h3⟩
theorem index_sound (hT : TOk P T) {t : TypeId} {a : V} {va : Value} {k : IntKind} {i : Int} {K : V → Prop} (h : indexSem T t a i K) (ha : RelV B w μ a va) :
    ∃ v v', K v ∧ (Instr.indexAt t va (.int k i)).run P w = .ok v' w ∧ RelV B w μ v v' := by
  match a, h, ha with
  | .c (.o l), h, ha =>
    have ha' : RelL B w μ l va := ha
    have ht : isOther (T t).d = false → TyOk P T t := hT t
    cases hd : (T t).d with
    | slice e =>
      rw [hd] at ht; simp only [indexSem, hd] at h
      have hu := (ht rfl).und
      rw [hd] at hu
      have hs := run_sizeOf' (w := w) (hT e hu.2)
      have run : ∀ (b o : Nat) (n cap j : Nat), j < n → (Instr.indexAt t (.slice (some ⟨b, o, none⟩) n cap) (.int k (j : Int))).run P w = .ok (.pointer (some ⟨b, o + j * (T e).size, none⟩)) w := by
        intro b o n cap j hj
        simp [Instr.indexAt, asIntOf, run_underlying hu.1, hs, hj, add_lit]
      cases ha' with
      | sl hB hl hv hr hn =>
        obtain ⟨j, rfl, hj, hk⟩ := offK_elim h
        refine ⟨_, _, hk, run _ _ _ _ j hj, ?_⟩
        exact .pf (fun hne => hB (by rintro rfl; simp at hne)) (by simp [hl]) (hv.drop _) (Rels.drop ⟨hl, hr⟩ _).2
      | sl0 => obtain ⟨j, rfl, hj, hk⟩ := offK_elim h; omega
      | gw h1 h2 h3 =>
        obtain ⟨j, rfl, hj, hk⟩ := offK_elim h
        exact ⟨_, _, hk, run _ _ _ _ j hj, .p h1⟩
      | gw0 h1 => obtain ⟨j, rfl, hj, hk⟩ := offK_elim h; omega
      | gs h1 h2 h3 h4 =>
        obtain ⟨j, rfl, hj, hk⟩ := offK_elim h
        refine ⟨_, _, hk, run _ _ _ _ j hj, ?_⟩
        rw [Nat.add_assoc]
        exact .p h1
      | gs0 h1 => obtain ⟨j, rfl, hj, hk⟩ := offK_elim h; omega
      | _ => exact False.elim h
    | array mm e =>
      rw [hd] at ht; simp only [indexSem, hd] at h
      have hu := (ht rfl).und
      rw [hd] at hu
      have hs := run_sizeOf' (w := w) (hT e hu.2)
      have run : ∀ (b o : Nat) (j : Nat), j < mm → (Instr.indexAt t (.pointer (some ⟨b, o, none⟩)) (.int k (j : Int))).run P w = .ok (.pointer (some ⟨b, o + j * (T e).size, none⟩)) w := by
        intro b o j hj
        simp [Instr.indexAt, Instr.sureAddr, asIntOf, run_underlying hu.1, hs, hj, add_lit]
      cases ha' with
      | p h1 =>
        obtain ⟨j, rfl, hj, hk⟩ := offK_elim h
        refine ⟨_, _, hk, run _ _ j hj, ?_⟩
        rw [Nat.add_assoc]
        exact .p h1
      | pf hB hl hv hr =>
        obtain ⟨j, rfl, hj, hk⟩ := offK_elim h
        refine ⟨_, _, hk, run _ _ j hj, ?_⟩
        exact .pf (fun hne => hB (by rintro rfl; simp at hne)) (by simp [hl]) (hv.drop _) (Rels.drop ⟨hl, hr⟩ _).2
      | _ => exact False.elim h
    | _ => simp only [indexSem, hd] at h
end
end Go.Sx

namespace Go.Sx
section
variable {P : Program} [Gl P] {T : TypeId → TI} {B : Nat → Prop} {w : World} {μ : Mu} {X : Cx P} {m : Nat → Option Bx}
def ValO : Option V → Option Value → Prop
  | none, none => True
  | some v, some x => ∃ k n, v = .c (.o (.i k n)) ∧ x = .int k n
  | _, _ => False
theorem run_sliceBound {k : IntKind} {i : Int} {y : Nat} {code : BoundsCode} (h1 : 0 ≤ i) (h2 : i ≤ y) : (Instr.sliceBound (.int k i) y code).run P w = .ok i.toNat w := by
  simp [Instr.sliceBound, asIntOf, h1, h2]
theorem run_sliceBounds {isS : Bool} {n cap : Nat} {lo hi : Option V} {lo' hi' : Option Value} (hlo : ValO lo lo') (hhi : ValO hi hi') (hn : n ≤ cap) {K : Nat → Nat → Prop}
    (h : boundsK n lo hi K) : ∃ a b : Nat, a ≤ b ∧ b ≤ n ∧ K a b ∧ (lo = none → a = 0) ∧ (hi = none → b = n) ∧ (Instr.sliceBounds isS n cap lo' hi' none).run P w = .ok (a, b, cap) w := by
  match lo, hi, lo', hi', hlo, hhi, h with
  | none, none, none, none, _, _, h => exact ⟨0, n, by omega, by omega, h, fun _ => rfl, fun _ => rfl, by simp [Instr.sliceBounds]⟩
  | some _, none, some _, none, ⟨k, a, rfl, rfl⟩, _, h =>
    obtain ⟨⟨h1, h2⟩, ⟨h3⟩⟩ := h
    exact ⟨a.toNat, n, by omega, by omega, h3, fun h => (by cases h), fun _ => rfl, by simp [Instr.sliceBounds, run_sliceBound h1 h2]⟩
  | none, some _, none, some _, _, ⟨k, b, rfl, rfl⟩, h =>
    obtain ⟨⟨h1, h2⟩, ⟨h3⟩⟩ := h
    exact ⟨0, b.toNat, by omega, by omega, h3, fun _ => rfl, fun h => (by cases h), by simp [Instr.sliceBounds, run_sliceBound h1 (show b ≤ (cap : Int) by omega)]⟩
  | some _, some _, some _, some _, ⟨k, a, rfl, rfl⟩, ⟨k', b, rfl, rfl⟩, h =>
    obtain ⟨⟨h1, h2, h4⟩, ⟨⟨h3⟩⟩⟩ := h
    exact ⟨a.toNat, b.toNat, by omega, by omega, h3, fun h => (by cases h), fun h => (by cases h),
      by simp [Instr.sliceBounds, run_sliceBound (show 0 ≤ b by omega) (show b ≤ (cap : Int) by omega), run_sliceBound h1 (show a ≤ ((b.toNat : Nat) : Int) by omega)]⟩
theorem cutL_eq {α : Type} (l : List α) (lo hi : Option V) (a b n sz : Nat) (hl : l.length = n * sz) (h0 : lo = none → a = 0) (h1 : hi = none → b = n) :
    cutL l lo hi a b sz = (l.take (b * sz)).drop (a * sz) := by
  cases lo with
  | none =>
    rw [h0 rfl]
    cases hi with
    | none => simp [cutL, h1 rfl, ← hl]
    | some _ => simp [cutL]
  | some _ => cases hi with
    | none => simp [cutL, h1 rfl, ← hl]
    | some _ => rfl
theorem bytes_extract (l : List UInt8) (a b : Nat) : (⟨⟨l⟩⟩ : ByteArray).extract a b = ⟨⟨(l.take b).drop a⟩⟩ := by
  apply ByteArray.ext
  rw [ByteArray.data_extract]
  apply Array.ext'
  simp [List.drop_take]
theorem slice_sound (hT : TOk P T) (hsb : SB X m μ B w) {t : TypeId} {s : V} {vs : Value} {lo hi : Option V} {lo' hi' : Option Value} {K : V → Prop} (h : sliceSem T t s (lkm m) lo hi K)
    (hs : RelV B w μ s vs) (hlo : ValO lo lo') (hhi : ValO hi hi') : ∃ v v', K v ∧ (Instr.sliceAt t vs lo' hi' none).run P w = .ok v' w ∧ RelV B w μ v v' := by
  match s, h, hs with
  | .c (.o l), h, hs =>
    change RelL B w μ l vs at hs
    have ht : isOther (T t).d = false → TyOk P T t := hT t
    cases hd : (T t).d with
    | str =>
      rw [hd] at ht; simp only [sliceSem, hd] at h
      have hu := (ht rfl).und
      rw [hd] at hu
      cases hs with
      | s =>
        rename_i l
        obtain ⟨a, b, h1, h2, h3, h4, h5, h6⟩ := run_sliceBounds (P := P) (w := w) (isS := false) (cap := l.length) hlo hhi (Nat.le_refl _) h
        refine ⟨_, .string ⟨⟨(l.take b).drop a⟩⟩, cutSK_elim h3, ?_, ?_⟩
        · have hsz : (⟨⟨l⟩⟩ : ByteArray).size = l.length := rfl
          simp [Instr.sliceAt, Instr.slice, run_underlying (show P.underlying t = _ from hu), hsz, h6, bytes_extract]
        · rw [cutS_eq, cutL_eq l lo hi a b l.length 1 (by simp) h4 h5]
          simp only [Nat.mul_one]
          exact RelL.s
      | _ => exact False.elim h
    | slice e =>
      rw [hd] at ht; simp only [sliceSem, hd] at h
      have hu := (ht rfl).und
      rw [hd] at hu
      have hsz := run_sizeOf' (w := w) (hT e hu.2)
      have run : ∀ (ad : Option Addr) (n cap a b : Nat), (Instr.sliceBounds true n cap lo' hi' none).run P w = .ok (a, b, cap) w →
          (Instr.sliceAt t (.slice ad n cap) lo' hi' none).run P w = .ok (.slice (if cap = a then ad else ad.map (·.add (a * (T e).size))) (b - a) (cap - a)) w := by
        intro ad n cap a b hb
        simp [Instr.sliceAt, Instr.slice, run_underlying hu.1, hb, hsz]
      cases hs with
      | nl =>
        obtain ⟨a, b, h1, h2, h3, h4, h5, h6⟩ := run_sliceBounds (P := P) (w := w) (isS := true) (cap := 0) hlo hhi (Nat.le_refl _) h
        have ha : a = 0 := by omega
        have hb : b = 0 := by omega
        subst ha; subst hb
        exact ⟨_, _, h3, run _ _ _ _ _ h6, RelL.nl⟩
      | sl0 =>
        obtain ⟨hl, h⟩ := h
        obtain ⟨a, b, h1, h2, h3, h4, h5, h6⟩ := run_sliceBounds (P := P) (w := w) (isS := true) hlo hhi (Nat.zero_le _) h
        have ha : a = 0 := by omega
        have hb : b = 0 := by omega
        subst ha; subst hb
        refine ⟨_, _, cutLK_elim h3, run _ _ _ _ _ h6, ?_⟩
        rw [cutL_eq _ lo hi 0 0 0 _ hl h4 h5]
        simp only [List.take_nil, List.drop_nil, Nat.sub_zero]
        exact RelL.sl0
      | sl hB hl hv hr hn =>
        rename_i bb oo n cap cs us
        obtain ⟨hl', h⟩ := h
        obtain ⟨a, b, h1, h2, h3, h4, h5, h6⟩ := run_sliceBounds (P := P) (w := w) (isS := true) hlo hhi hn h
        refine ⟨_, _, cutLK_elim h3, run _ _ _ _ _ h6, ?_⟩
        rw [cutL_eq _ lo hi a b n _ hl' h4 h5]
        by_cases hc : cap = a
        · have hab : b - a = 0 := by omega
          have hnb : b = n := by omega
          have han : a = n := by omega
          rw [hab, hnb, han, ← hl']
          simp only [List.take_length, List.drop_length]
          have : cap - n = 0 := by omega
          exact RelL.sl0
        · rw [if_neg hc]
          simp only [Option.map_some, add_lit]
          have hrel : Rels B w noMu cs us := ⟨hl, hr⟩
          have h7 := (hrel.take (b * (T e).size)).drop (a * (T e).size)
          refine RelL.sl (fun hne => hB ?_) h7.1 ((hv.take _).drop _) h7.2 (by omega)
          rintro rfl; simp at hne
      | gw0 h1 =>
        obtain ⟨hsz', h⟩ := cond_true h
        obtain ⟨a, b, h1', h2, h3, h4, h5, h6⟩ := run_sliceBounds (P := P) (w := w) (isS := true) (cap := 0) hlo hhi (Nat.le_refl _) h
        have ha : a = 0 := by omega
        have hb : b = 0 := by omega
        subst ha; subst hb
        refine ⟨_, _, h3, run _ _ _ _ _ h6, ?_⟩
        simp only [if_true, Nat.sub_zero]
        exact RelL.gs0 h1
      | gw h1 hn hc =>
        rename_i id n sz bb oo cap
        obtain ⟨hsz', h⟩ := cond_true h
        have hsz' : sz = (T e).size := Nat.eq_of_beq_eq_true hsz'
        obtain ⟨a, b, h1', h2, h3, h4, h5, h6⟩ := run_sliceBounds (P := P) (w := w) (isS := true) hlo hhi hn h
        refine ⟨_, _, h3, run _ _ _ _ _ h6, ?_⟩
        by_cases hcap : cap = a
        · have hab : b - a = 0 := by omega
          have : cap - a = 0 := by omega
          rw [hab, this]
          exact RelL.gs0 h1
        · rw [if_neg hcap]
          simp only [Option.map_some, add_lit, ← hsz']
          refine RelL.gs h1 ?_ (by omega) fun j hj => ?_
          · rw [← Nat.add_mul]; exact Nat.mul_le_mul_right _ (by omega)
          · rw [Nat.add_assoc]
            refine hc _ ?_
            have : a * sz + (cap - a) * sz = cap * sz := by rw [← Nat.add_mul]; congr 1; omega
            omega
      | gs0 h1 =>
        rename_i id off sz ad loc
        obtain ⟨hsz', h⟩ := cond_true h
        obtain ⟨a, b, h1', h2, h3, h4, h5, h6⟩ := run_sliceBounds (P := P) (w := w) (isS := true) (cap := 0) hlo hhi (Nat.le_refl _) h
        have ha : a = 0 := by omega
        have hb : b = 0 := by omega
        subst ha; subst hb
        refine ⟨_, _, h3, run _ _ _ _ _ h6, ?_⟩
        simp only [if_true, Nat.sub_zero]
        exact RelL.gs0 h1
      | gs h1 hf hn hc =>
        rename_i id off n sz bb oo ln cap
        obtain ⟨hsz', h⟩ := cond_true h
        have hsz' : sz = (T e).size := Nat.eq_of_beq_eq_true hsz'
        obtain ⟨a, b, h1', h2, h3, h4, h5, h6⟩ := run_sliceBounds (P := P) (w := w) (isS := true) hlo hhi hn h
        refine ⟨_, _, h3, run _ _ _ _ _ h6, ?_⟩
        by_cases hcap : cap = a
        · have hab : b - a = 0 := by omega
          have : cap - a = 0 := by omega
          rw [hab, this]
          exact RelL.gs0 h1
        · rw [if_neg hcap]
          simp only [Option.map_some, add_lit, ← hsz', Nat.add_assoc]
          have e1 : a * sz + (b - a) * sz = b * sz := by rw [← Nat.add_mul]; congr 1; omega
          have e2 : b * sz ≤ n * sz := Nat.mul_le_mul_right _ h2
          have e3 : a * sz + (cap - a) * sz = cap * sz := by rw [← Nat.add_mul]; congr 1; omega
          refine RelL.gs h1 (by omega) (by omega) fun j hj => ?_
          have := hc (a * sz + j) (by omega)
          rwa [show oo + off + (a * sz + j) = oo + (off + a * sz) + j by omega] at this
      | _ => exact False.elim h
    | array mm e =>
      rw [hd] at ht; simp only [sliceSem, hd] at h
      have hu := (ht rfl).und
      rw [hd] at hu
      have hsz := run_sizeOf' (w := w) (hT e hu.2)
      cases hs with
      | p h1 =>
        rename_i id off bb oo ln
        obtain ⟨bx, hb, h⟩ := h
        match bx, hb, h with
        | .ar cs, hb, ⟨hle, h⟩ =>
          obtain ⟨a, b, h1', h2, h3, h4, h5, h6⟩ := run_sliceBounds (P := P) (w := w) (isS := false) (cap := mm) hlo hhi (Nat.le_refl _) h
          refine ⟨_, .slice (some (if mm = a then ⟨bb, oo + off, none⟩ else ⟨bb, oo + off + a * (T e).size, none⟩)) (b - a) (mm - a), h3, ?_, ?_⟩
          · simp only [Instr.sliceAt, Sem.run_bind, run_underlying hu.1, Result.andThen_ok, Instr.sureAddr, Sem.run_pure, h6, hsz, add_lit]
          · by_cases hcap : mm = a
            · have hab : b - a = 0 := by omega
              have : mm - a = 0 := by omega
              rw [hab, this]
              exact RelL.gs0 h1
            · rw [if_neg hcap]
              rcases hsb.box id _ hb with ⟨k1, _⟩ | ⟨b', o', k1, ⟨vs', k2, k3⟩, _⟩
              · rw [h1] at k1; cases k1
              · rw [h1] at k1; cases k1
                have e1 : a * (T e).size + (b - a) * (T e).size = b * (T e).size := by rw [← Nat.add_mul]; congr 1; omega
                have e2 : b * (T e).size ≤ mm * (T e).size := Nat.mul_le_mul_right _ h2
                have e3 : a * (T e).size + (mm - a) * (T e).size = mm * (T e).size := by rw [← Nat.add_mul]; congr 1; omega
                rw [Nat.add_assoc]
                refine RelL.gs h1 (by omega) (by omega) fun j hj => ?_
                have := k3.ex (j := off + a * (T e).size + j) (by rw [← k2.1]; omega)
                rwa [show oo + (off + a * (T e).size + j) = oo + (off + a * (T e).size) + j by omega] at this
      | _ => exact False.elim h
    | _ => simp only [sliceSem, hd] at h
theorem cut3_sound (hT : TOk P T) {t : TypeId} {s : V} {vs : Value} {a b c : Int} {k k' k'' : IntKind} {K : V → Prop} (h : cut3Sem T t s a b c K)
    (hs : RelV B w μ s vs) : ∃ v v', K v ∧ (Instr.sliceAt t vs (some (.int k a)) (some (.int k' b)) (some (.int k'' c))).run P w = .ok v' w ∧ RelV B w μ v v' := by
  unfold cut3Sem at h
  match s, h, hs with
  | .c (.o l), h, hs =>
    change RelL B w μ l vs at hs
    have ht : isOther (T t).d = false → TyOk P T t := hT t
    cases hd : (T t).d <;> rw [hd] at h ht <;> simp only at h
    rename_i e
    have hu := (ht rfl).und
    rw [hd] at hu
    have hsz := run_sizeOf' (w := w) (hT e hu.2)
    have run : ∀ (ad : Option Addr) (n cap : Nat), 0 ≤ a → a ≤ b → b ≤ c → c ≤ cap →
        (Instr.sliceAt t (.slice ad n cap) (some (.int k a)) (some (.int k' b)) (some (.int k'' c))).run P w = .ok (.slice (if c.toNat = a.toNat then ad else ad.map (·.add (a.toNat * (T e).size))) (b.toNat - a.toNat) (c.toNat - a.toNat)) w := by
      intro ad n cap h1 h2 h3 h4
      simp [Instr.sliceAt, Instr.slice, run_underlying hu.1, Instr.sliceBounds, run_sliceBound (P := P) (w := w) (k := k'') (i := c) (y := cap) (by omega) (by omega),
        run_sliceBound (P := P) (w := w) (k := k') (i := b) (y := c.toNat) (by omega) (by omega), run_sliceBound (P := P) (w := w) (k := k) (i := a) (y := b.toNat) (by omega) (by omega), hsz]
    cases hs with
    | sl0 =>
      obtain ⟨hl, ⟨h1, h2, h3, h4⟩, ⟨⟨⟨⟨hk⟩⟩⟩⟩⟩ := h
      refine ⟨_, _, hk, run _ _ _ h1 h2 h3 (by omega), ?_⟩
      have e1 : b.toNat - a.toNat = 0 := by omega
      rw [e1]
      simp only [List.take_nil, List.drop_nil]
      exact RelL.sl0
    | sl hB hl hv hr hn =>
      rename_i bb oo n cap cs us
      obtain ⟨hl', ⟨h1, h2, h3, h4⟩, ⟨⟨⟨⟨hk⟩⟩⟩⟩⟩ := h
      refine ⟨_, _, hk, run _ _ _ h1 h2 h3 (by omega), ?_⟩
      by_cases hc : c.toNat = a.toNat
      · have hab : b.toNat = a.toNat := by omega
        have e1 : a.toNat - a.toNat = 0 := by omega
        rw [hab, e1, if_pos hc, List.drop_of_length_le (by rw [List.length_take]; omega)]
        exact RelL.sl0
      · rw [if_neg hc]
        simp only [Option.map_some, add_lit]
        have hrel : Rels B w noMu cs us := ⟨hl, hr⟩
        have h7 := (hrel.take (b.toNat * (T e).size)).drop (a.toNat * (T e).size)
        refine RelL.sl (fun hne => hB ?_) h7.1 ((hv.take _).drop _) h7.2 (by omega)
        rintro rfl; simp at hne
    | gw0 h1 =>
      rename_i id sz ad
      obtain ⟨hsz', h⟩ := cond_true h
      obtain ⟨⟨h1', h2, h3, h4⟩, ⟨⟨hk⟩⟩⟩ := h
      have e0 : a.toNat = 0 := by omega
      have e1 : b.toNat - a.toNat = 0 := by omega
      have e2 : c.toNat = 0 := by omega
      refine ⟨_, _, hk, run _ _ _ h1' h2 h3 (by omega), ?_⟩
      rw [e1, e2, e0, if_pos rfl]
      exact RelL.gs0 h1
    | gw h1 hn hc =>
      rename_i id n sz bb oo cap
      obtain ⟨hsz', h⟩ := cond_true h
      have hsz' : sz = (T e).size := Nat.eq_of_beq_eq_true hsz'
      obtain ⟨⟨h1', h2, h3, h4⟩, ⟨⟨hk⟩⟩⟩ := h
      refine ⟨_, _, hk, run _ _ _ h1' h2 h3 (by omega), ?_⟩
      by_cases hcap : c.toNat = a.toNat
      · have hab : b.toNat - a.toNat = 0 := by omega
        have : c.toNat - a.toNat = 0 := by omega
        rw [hab, this]
        exact RelL.gs0 h1
      · rw [if_neg hcap]
        simp only [Option.map_some, add_lit, ← hsz']
        refine RelL.gs h1 ?_ (by omega) fun j hj => ?_
        · rw [← Nat.add_mul]; exact Nat.mul_le_mul_right _ (by omega)
        · rw [Nat.add_assoc]
          refine hc _ ?_
          have : a.toNat * sz + (c.toNat - a.toNat) * sz = c.toNat * sz := by rw [← Nat.add_mul]; congr 1; omega
          have h9 : c.toNat * sz ≤ cap * sz := Nat.mul_le_mul_right _ (by omega)
          omega
    | gs0 h1 =>
      rename_i id off sz ad loc
      obtain ⟨hsz', h⟩ := cond_true h
      obtain ⟨⟨h1', h2, h3, h4⟩, ⟨⟨hk⟩⟩⟩ := h
      have e0 : a.toNat = 0 := by omega
      have e1 : b.toNat - a.toNat = 0 := by omega
      have e2 : c.toNat = 0 := by omega
      refine ⟨_, _, hk, run _ _ _ h1' h2 h3 (by omega), ?_⟩
      rw [e1, e2, e0, if_pos rfl]
      exact RelL.gs0 h1
    | gs h1 hf hn hc =>
      rename_i id off n sz bb oo ln cap
      obtain ⟨hsz', h⟩ := cond_true h
      have hsz' : sz = (T e).size := Nat.eq_of_beq_eq_true hsz'
      obtain ⟨⟨h1', h2, h3, h4⟩, ⟨⟨hk⟩⟩⟩ := h
      refine ⟨_, _, hk, run _ _ _ h1' h2 h3 (by omega), ?_⟩
      by_cases hcap : c.toNat = a.toNat
      · have hab : b.toNat - a.toNat = 0 := by omega
        have : c.toNat - a.toNat = 0 := by omega
        rw [hab, this]
        exact RelL.gs0 h1
      · rw [if_neg hcap]
        simp only [Option.map_some, add_lit, ← hsz', Nat.add_assoc]
        have e1 : a.toNat * sz + (b.toNat - a.toNat) * sz = b.toNat * sz := by rw [← Nat.add_mul]; congr 1; omega
        have e2 : b.toNat * sz ≤ n * sz := Nat.mul_le_mul_right _ (by omega)
        have e3 : a.toNat * sz + (c.toNat - a.toNat) * sz = c.toNat * sz := by rw [← Nat.add_mul]; congr 1; omega
        have e4 : c.toNat * sz ≤ cap * sz := Nat.mul_le_mul_right _ (by omega)
        refine RelL.gs h1 (by omega) (by omega) fun j hj => ?_
        have := hc (a.toNat * sz + j) (by omega)
        rwa [show oo + off + (a.toNat * sz + j) = oo + (off + a.toNat * sz) + j by omega] at this
    | _ => exact False.elim h
end
end Go.Sx

namespace Go.Sx
section
variable {P : Program} [Gl P] {T : TypeId → TI} {B : Nat → Prop} {w : World} {μ : Mu} {X : Cx P} {m : Nat → Option Bx}
theorem boolOf_elim {l : L} {v : Value} {K : Bool → Prop} (h : boolOf l K) (hl : RelL B w μ l v) : ∃ x, v = .bool x ∧ K x := by
  cases hl <;> first | exact ⟨_, rfl, h⟩ | exact False.elim h
theorem RelL.int {k : IntKind} {n : Int} {v : Value} (h : RelL B w μ (.i k n) v) : v = .int k n := by cases h; rfl
theorem RelL.str {l : List UInt8} {v : Value} (h : RelL B w μ (.s l) v) : v = .string ⟨⟨l⟩⟩ := by cases h; rfl
theorem eqK_elim {zs xs ys : List L} {vs us : List Value} {K : Bool → Prop} (h : eqK zs xs ys K) (hx : Rels B w μ xs vs) (hy : Rels B w μ ys us) : ∃ r, EqVals zs vs us r ∧ K r := by
  induction zs generalizing xs ys vs us K with
  | nil =>
    match xs, ys, h with
    | [], [], h =>
      have h1 : vs = [] := List.eq_nil_of_length_eq_zero hx.1.symm
      have h2 : us = [] := List.eq_nil_of_length_eq_zero hy.1.symm
      exact ⟨true, ⟨h1, h2, rfl⟩, h⟩
  | cons z zs ih =>
    match xs, ys, vs, us, h, hx, hy with
    | l :: p, l' :: q, v :: vs, u :: us, h, hx, hy =>
      have hl := hx.2 0 l v rfl rfl
      have hl' := hy.2 0 l' u rfl rfl
      have hp : Rels B w μ p vs := ⟨by simpa using hx.1, fun j a b h1 h2 => hx.2 (j + 1) a b h1 h2⟩
      have hq : Rels B w μ q us := ⟨by simpa using hy.1, fun j a b h1 h2 => hy.2 (j + 1) a b h1 h2⟩
      cases z with
      | i k n0 =>
        match l, l', h, hl, hl' with
        | .i k1 a, .i k2 b, h, hl, hl' =>
          obtain ⟨h1, h2⟩ := cond_true h
          simp only [Bool.and_eq_true, kindEq_iff] at h1
          obtain ⟨rfl, rfl⟩ := h1
          obtain ⟨r, h3, h4⟩ := ih h2 hp hq
          exact ⟨_, ⟨v, u, vs, us, r, rfl, rfl, h3, a, b, hl.int, hl'.int, rfl⟩, h4⟩
      | s l0 =>
        match l, l', h, hl, hl' with
        | .s a, .s b, h, hl, hl' =>
          obtain ⟨r, h3, h4⟩ := ih h hp hq
          exact ⟨_, ⟨v, u, vs, us, r, rfl, rfl, h3, a, b, hl.str, hl'.str, rfl⟩, h4⟩
      | ff =>
        obtain ⟨a, rfl, h⟩ := boolOf_elim h hl
        obtain ⟨b, rfl, h⟩ := boolOf_elim h hl'
        obtain ⟨r, h3, h4⟩ := ih h hp hq
        exact ⟨_, ⟨_, _, vs, us, r, rfl, rfl, h3, a, b, rfl, rfl, rfl⟩, h4⟩
      | _ => exact False.elim h
def binRun (op : BinOp) (t : TypeId) (x y : Operand) (a b : Value) : Sem Value := do eqGuard op t x y a b; binOp op t a b
theorem guard_skip {op : BinOp} {t : TypeId} {x y : Operand} {a b : Value} (ha : ∀ cs, a ≠ .agg cs) (hn : a ≠ .nilIface) : (eqGuard op t x y a b).run P w = .ok () w := by
  cases op <;> cases a <;> first | rfl | exact absurd rfl hn | exact absurd rfl (ha _)
theorem guard_agg {op : BinOp} {t : TypeId} {x y : Operand} {a b : Array Value} (h : P.eqGuardType P.depth t = false) : (eqGuard op t x y (.agg a) (.agg b)).run P w = .ok () w := by
  cases op <;> first | rfl | simp [eqGuard, h]
theorem int_sound {op : BinOp} {t : TypeId} {k : IntKind} {n n' : Int} {K : L → Prop} (h : intOp op k n n' K) :
    ∃ l v', K l ∧ (binOp op t (.int k n) (.int k n')).run P w = .ok v' w ∧ RelL B w μ l v' := by
  cases op with
  | add => obtain ⟨h⟩ : wrapK k _ _ := h; exact ⟨_, _, h, by simp [binOp, Op.intArith], .i⟩
  | sub => obtain ⟨h⟩ : wrapK k _ _ := h; exact ⟨_, _, h, by simp [binOp, Op.intArith], .i⟩
  | mul => obtain ⟨h⟩ : wrapK k _ _ := h; exact ⟨_, _, h, by simp [binOp, Op.intArith], .i⟩
  | quo => obtain ⟨h1, h⟩ : quoK k _ _ _ := h; exact ⟨_, _, h, by simp [binOp, Op.intDiv, h1], .i⟩
  | rem => obtain ⟨h1, h⟩ : remK _ _ _ := h; exact ⟨_, _, h, by simp [binOp, Op.intDiv, h1], .i⟩
  | and => obtain ⟨h⟩ : bitK _ k _ _ _ := h; exact ⟨_, _, h, by simp [binOp, Op.intBits, bitN], .i⟩
  | or => obtain ⟨h⟩ : bitK _ k _ _ _ := h; exact ⟨_, _, h, by simp [binOp, Op.intBits, bitN], .i⟩
  | xor => obtain ⟨h⟩ : bitK _ k _ _ _ := h; exact ⟨_, _, h, by simp [binOp, Op.intBits, bitN], .i⟩
  | eql => exact ⟨_, _, h, by simp [binOp, Op.intCmp], .b⟩
  | neq => exact ⟨_, _, h, by simp [binOp, Op.intCmp], .b⟩
  | lss => exact ⟨_, _, h, by simp [binOp, Op.intCmp], .b⟩
  | leq => exact ⟨_, _, h, by simp [binOp, Op.intCmp], .b⟩
  | gtr => exact ⟨_, _, h, by simp [binOp, Op.intCmp], .b⟩
  | geq => exact ⟨_, _, h, by simp [binOp, Op.intCmp], .b⟩
  | _ => exact False.elim h
theorem str_sound {op : BinOp} {t : TypeId} {l l' : List UInt8} {K : L → Prop} (h : strOp op l l' K) :
    ∃ x v', K x ∧ (binOp op t (.string ⟨⟨l⟩⟩) (.string ⟨⟨l'⟩⟩)).run P w = .ok v' w ∧ RelL B w μ x v' := by
  have e1 : (⟨⟨l⟩⟩ : ByteArray).toList = l := by rw [ByteArray.toList_eq]
  have e2 : (⟨⟨l'⟩⟩ : ByteArray).toList = l' := by rw [ByteArray.toList_eq]
  cases op with
  | add =>
    obtain ⟨h1, h⟩ := h
    refine ⟨_, _, h, ?_, .s⟩
    have : ¬ (((⟨⟨l⟩⟩ : ByteArray).size + (⟨⟨l'⟩⟩ : ByteArray).size : Nat) : Int) > IntKind.i64.max := by
      show ¬ ((l.length + l'.length : Nat) : Int) > IntKind.i64.max
      have : IntKind.i64.max = 9223372036854775807 := by decide
      omega
    simp only [binOp, Op.stringOp, this, if_false, Sem.run_pure]
    have : (⟨⟨l⟩⟩ : ByteArray) ++ (⟨⟨l'⟩⟩ : ByteArray) = ⟨⟨l ++ l'⟩⟩ := by
      apply ByteArray.ext
      apply Array.ext'
      rw [ByteArray.toList_data_append]
    rw [this]
  | eql => exact ⟨_, _, h, by simp only [binOp, Op.stringOp, e1, e2, Sem.run_pure], .b⟩
  | neq => exact ⟨_, _, h, by simp only [binOp, Op.stringOp, e1, e2, Sem.run_pure], .b⟩
  | lss => exact ⟨_, _, h, by simp only [binOp, Op.stringOp, e1, e2, Sem.run_pure], .b⟩
  | leq => exact ⟨_, _, h, by simp only [binOp, Op.stringOp, e1, e2, Sem.run_pure], .b⟩
  | gtr => exact ⟨_, _, h, by simp only [binOp, Op.stringOp, e1, e2, Sem.run_pure], .b⟩
  | geq => exact ⟨_, _, h, by simp only [binOp, Op.stringOp, e1, e2, Sem.run_pure], .b⟩
  | _ => exact False.elim h
theorem run_equal_bool {t : TypeId} (hu : P.underlying t = some .bool) (p q : Bool) : (Op.equal t (.bool p) (.bool q)).run P w = .ok (p == q) w := by
  show (Op.equalIn (9999 + 1) t (.bool p) (.bool q)).run P w = _
  unfold Op.equalIn
  simp [run_underlying hu]
theorem run_equal_nil {t e : TypeId} (hu : P.underlying t = some (.slice e)) (a : Option Addr) (n c : Nat) : (Op.equal t (.slice a n c) (.slice none 0 0)).run P w = .ok a.isNone w := by
  show (Op.equalIn (9999 + 1) t (.slice a n c) (.slice none 0 0)).run P w = _
  unfold Op.equalIn
  cases a <;> simp [run_underlying hu]
theorem nil_elim {l l' : L} {va vb : Value} {K : Bool → Prop} (h : nilSem l l' K) (ha : RelL B w μ l va) (hb : RelL B w μ l' vb) : ∃ a n c, va = .slice a n c ∧ vb = .slice none 0 0 ∧ K a.isNone := by
  unfold nilSem at h
  cases l' <;> try exact h.elim
  cases hb
  cases ha <;> first
    | exact h.elim
    | exact ⟨_, _, _, rfl, rfl, h⟩
    | exact ⟨_, _, _, rfl, rfl, h.2⟩
    | exact absurd rfl h.1
theorem bool_sound (hT : TOk P T) {op : BinOp} {t : TypeId} {x y : Operand} {l l' : L} {va vb : Value} {K : L → Prop} (h : boolSem (T t) op l l' K) (ha : RelL B w μ l va) (hb : RelL B w μ l' vb) :
    ∃ l v', K l ∧ (binRun op t x y va vb).run P w = .ok v' w ∧ RelL B w μ l v' := by
  unfold boolSem at h
  cases hd : (T t).d with
  | bool =>
    have hu := (hT t (by rw [hd]; rfl)).und
    rw [hd] at hu h
    have hu : P.underlying t = some .bool := hu
    cases op with
    | eql =>
      obtain ⟨p, rfl, h⟩ := boolOf_elim h ha
      obtain ⟨q, rfl, h⟩ := boolOf_elim h hb
      refine ⟨_, _, h, ?_, .b⟩
      simp only [binRun, Sem.run_bind, guard_skip (a := .bool p) (fun _ h => by cases h) (fun h => by cases h), Result.andThen_ok]
      simp only [binOp, Sem.run_bind, run_equal_bool hu, Result.andThen_ok, Sem.run_pure]
    | neq =>
      obtain ⟨p, rfl, h⟩ := boolOf_elim h ha
      obtain ⟨q, rfl, h⟩ := boolOf_elim h hb
      refine ⟨_, _, h, ?_, .b⟩
      simp only [binRun, Sem.run_bind, guard_skip (a := .bool p) (fun _ h => by cases h) (fun h => by cases h), Result.andThen_ok]
      simp only [binOp, Sem.run_bind, run_equal_bool hu, Result.andThen_ok, Sem.run_pure]
    | _ => exact False.elim h
  | slice e =>
    have hu := (hT t (by rw [hd]; rfl)).und
    rw [hd] at hu h
    have hu : P.underlying t = some (.slice e) := hu.1
    cases op with
    | eql =>
      obtain ⟨p, n, c, rfl, rfl, h⟩ := nil_elim h ha hb
      refine ⟨_, _, h, ?_, .b⟩
      simp only [binRun, Sem.run_bind, guard_skip (a := .slice p n c) (fun _ h => by cases h) (fun h => by cases h), Result.andThen_ok]
      simp only [binOp, Sem.run_bind, run_equal_nil hu, Result.andThen_ok, Sem.run_pure]
    | neq =>
      obtain ⟨p, n, c, rfl, rfl, h⟩ := nil_elim h ha hb
      refine ⟨_, _, h, ?_, .b⟩
      simp only [binRun, Sem.run_bind, guard_skip (a := .slice p n c) (fun _ h => by cases h) (fun h => by cases h), Result.andThen_ok]
      simp only [binOp, Sem.run_bind, run_equal_nil hu, Result.andThen_ok, Sem.run_pure]
    | _ => exact False.elim h
  | _ => rw [hd] at h; exact False.elim h
theorem bin_sound (hT : TOk P T) (hE : ∀ t, (T t).eq = true → EqTy P t (T t).zero) {op : BinOp} {t : TypeId} {x y : Operand} {a b : V} {va vb : Value} {K : L → Prop} (h : binSem (T t) op a b K)
    (ha : RelV B w μ a va) (hb : RelV B w μ b vb) : ∃ l v', K l ∧ (binRun op t x y va vb).run P w = .ok v' w ∧ RelL B w μ l v' := by
  cases a with
  | t xs => exact False.elim h
  | c a => cases b with
    | t ys => cases a <;> exact False.elim h
    | c b => cases a with
      | a xs => cases b with
        | o l' => exact False.elim h
        | a ys =>
          obtain ⟨vs, rfl, ha⟩ := ha
          obtain ⟨us, rfl, hb⟩ := hb
          obtain ⟨he, h⟩ := cond_true h
          obtain ⟨hg, heq⟩ := (hE t he)
          simp only [binRun, Sem.run_bind, guard_agg hg, Result.andThen_ok]
          cases op with
          | eql => obtain ⟨r, h1, h2⟩ := eqK_elim h ha hb; exact ⟨_, _, h2, by simp [binOp, heq vs us r w h1], .b⟩
          | neq => obtain ⟨r, h1, h2⟩ := eqK_elim h ha hb; exact ⟨_, _, h2, by simp [binOp, heq vs us r w h1], .b⟩
          | _ => exact False.elim h
      | o l => cases b with
        | a ys => exact False.elim h
        | o l' =>
          change RelL B w μ l va at ha
          change RelL B w μ l' vb at hb
          cases l with
          | i k n =>
            cases l' with
            | i k' n' =>
              have ha := ha.int
              have hb := hb.int
              subst ha; subst hb
              simp only [binRun, Sem.run_bind, guard_skip (a := .int k n) (fun _ h => by cases h) (fun h => by cases h), Result.andThen_ok]
              cases op with
              | shl => obtain ⟨h1, h⟩ : shlK k _ _ _ := h; exact ⟨_, _, h, by simp [binOp, Op.shift, show ¬ n' < 0 by omega], .i⟩
              | shr => obtain ⟨h1, h⟩ : shrK k _ _ _ := h; exact ⟨_, _, h, by simp [binOp, Op.shift, show ¬ n' < 0 by omega], .i⟩
              | _ =>
                obtain ⟨h1, h2⟩ := cond_true h
                rw [kindEq_iff] at h1
                subst h1
                exact int_sound h2
            | _ => exact False.elim h
          | s x =>
            cases l' with
            | s x' =>
              have ha := ha.str
              have hb := hb.str
              subst ha; subst hb
              simp only [binRun, Sem.run_bind, guard_skip (a := .string ⟨⟨x⟩⟩) (fun _ h => by cases h) (fun h => by cases h), Result.andThen_ok]
              exact str_sound h
            | _ => exact False.elim h
          | _ => exact bool_sound hT h ha hb
theorem content_rel (hsb : SB X m μ B w) {l : L} {v : Value} {K : List L → Nat → Prop} (h : contentK (lkm m) l K) (hl : RelL B w μ l v) :
    ∃ cs n a cap, K cs n ∧ v = .slice a n cap ∧ ((cs = [] ∧ n = 0) ∨ ∃ b o vs, a = some ⟨b, o, none⟩ ∧ Rels B w noMu cs vs ∧ Cells w b o vs) := by
  cases hl with
  | nl => exact ⟨_, _, _, _, h, rfl, .inl ⟨rfl, rfl⟩⟩
  | sl0 => exact ⟨_, _, _, _, h, rfl, .inl ⟨rfl, rfl⟩⟩
  | sl hB hl hv hr hn => exact ⟨_, _, _, _, h, rfl, .inr ⟨_, _, _, rfl, ⟨hl, hr⟩, hv⟩⟩
  | gw0 h1 =>
    obtain ⟨bx, hb, h⟩ := h
    have hbox := hsb.box _ _ hb
    cases bx with
    | st cs => exact False.elim h
    | mp es => exact False.elim h
    | ar cs =>
      rcases hbox with ⟨_, rfl⟩ | ⟨b, o, k1, _⟩
      · exact ⟨_, _, _, _, h, rfl, .inl ⟨rfl, rfl⟩⟩
      · rw [h1] at k1; cases k1
    | fz cs =>
      rcases hbox with ⟨_, rfl⟩ | ⟨b, o, k1, _⟩
      · exact ⟨_, _, _, _, h, rfl, .inl ⟨rfl, rfl⟩⟩
      · rw [h1] at k1; cases k1
  | gw h1 hn hc =>
    obtain ⟨bx, hb, h⟩ := h
    have hbox := hsb.box _ _ hb
    cases bx with
    | st cs => exact False.elim h
    | mp es => exact False.elim h
    | ar cs =>
      rcases hbox with ⟨k1, _⟩ | ⟨b, o, k1, ⟨vs, k2, k3⟩, _⟩
      · rw [h1] at k1; cases k1
      · rw [h1] at k1
        simp only [Option.some.injEq, Prod.mk.injEq] at k1
        obtain ⟨rfl, rfl, _⟩ := k1
        exact ⟨_, _, _, _, h, rfl, .inr ⟨_, _, vs, rfl, k2, k3⟩⟩
    | fz cs =>
      rcases hbox with ⟨k1, _⟩ | ⟨b, o, k1, ⟨vs, k2, k3⟩, _⟩
      · rw [h1] at k1; cases k1
      · rw [h1] at k1
        simp only [Option.some.injEq, Prod.mk.injEq] at k1
        obtain ⟨rfl, rfl, _⟩ := k1
        exact ⟨_, _, _, _, h, rfl, .inr ⟨_, _, vs, rfl, k2, k3⟩⟩
  | gs0 h1 =>
    obtain ⟨bx, hb, h⟩ := h
    cases bx with
    | st cs => exact False.elim h
    | mp es => exact False.elim h
    | ar cs => obtain ⟨⟨h⟩⟩ := h; exact ⟨_, _, _, _, h, rfl, .inl ⟨by simp, rfl⟩⟩
    | fz cs => obtain ⟨⟨h⟩⟩ := h; exact ⟨_, _, _, _, h, rfl, .inl ⟨by simp, rfl⟩⟩
  | gs h1 hf hn hc =>
    obtain ⟨bx, hb, h⟩ := h
    have hbox := hsb.box _ _ hb
    cases bx with
    | st cs => exact False.elim h
    | mp es => exact False.elim h
    | ar cs =>
      rcases hbox with ⟨k1, _⟩ | ⟨b, o, k1, ⟨vs, k2, k3⟩, _⟩
      · rw [h1] at k1; cases k1
      · rw [h1] at k1; cases k1
        obtain ⟨⟨h⟩⟩ := h
        exact ⟨_, _, _, _, h, rfl, .inr ⟨_, _, _, rfl, (k2.drop _).take _, (k3.drop _).take _⟩⟩
    | fz cs =>
      rcases hbox with ⟨k1, _⟩ | ⟨b, o, k1, ⟨vs, k2, k3⟩, _⟩
      · rw [h1] at k1; cases k1
      · rw [h1] at k1; cases k1
        obtain ⟨⟨h⟩⟩ := h
        exact ⟨_, _, _, _, h, rfl, .inr ⟨_, _, _, rfl, (k2.drop _).take _, (k3.drop _).take _⟩⟩
  | _ => exact False.elim h
end
end Go.Sx

namespace Go.Sx
section
variable {P : Program} [Gl P] {T : TypeId → TI} {B : Nat → Prop} {w : World} {μ : Mu} {X : Cx P} {m : Nat → Option Bx}
theorem fz_rel (hsb : SB X m μ B w) {id : Nat} {cs : List L} (hm : m id = some (.fz cs)) {n sz : Nat} {v : Value} (h : RelL B w μ (.gw id n sz) v) : RelL B w noMu (.sl cs n) v := by
  cases h with
  | gw0 h1 =>
    rcases hsb.box id _ hm with ⟨_, rfl⟩ | ⟨b, o, k1, _⟩
    · exact .sl0
    · rw [h1] at k1; cases k1
  | gw h1 hn hc =>
    rcases hsb.box id _ hm with ⟨k1, _⟩ | ⟨b, o, k1, ⟨vs, k2, k3⟩, k4, _⟩
    · rw [h1] at k1; cases k1
    · rw [h1] at k1
      simp only [Option.some.injEq, Prod.mk.injEq] at k1
      obtain ⟨rfl, rfl, _⟩ := k1
      exact .sl (fun _ => k4) k2.1 k3 k2.2 hn
theorem fz_rel_part (hsb : SB X m μ B w) {id : Nat} {cs : List L} (hm : m id = some (.fz cs)) {off n sz : Nat} {v : Value} (h : RelL B w μ (.gs id off n sz) v) :
    RelL B w noMu (.sl ((cs.drop off).take (n * sz)) n) v := by
  cases h with
  | gs0 h1 => simpa using RelL.sl0
  | gs h1 hf hn hc =>
    rcases hsb.box id _ hm with ⟨k1, _⟩ | ⟨b, o, k1, ⟨vs, k2, k3⟩, k4, _⟩
    · rw [h1] at k1; cases k1
    · rw [h1] at k1
      simp only [Option.some.injEq, Prod.mk.injEq] at k1
      obtain ⟨rfl, rfl, _⟩ := k1
      have := (k2.drop off).take (n * sz)
      exact .sl (fun _ => k4) this.1 ((k3.drop _).take _) this.2 hn
theorem RelL.oneCell {l : L} {v : Value} (h : RelL B w μ l v) (hu : isU l = false) : v.oneCell' = true := by
  cases h <;> first | rfl | cases hu
theorem applyF_same {m : Nat → Option Bx} {id : Nat} {b : Bx} (h : m id = some b) : applyF m [(id, some b)] = m := by
  funext j
  by_cases he : id = j
  · subst he; simp [applyF, h]
  · simp [applyF, he]
def FzEff (m : Nat → Option Bx) (ef : Eff) : Prop := ∀ q ∈ ef, ∃ cs, q.2 = some (.fz cs) ∧ m q.1 = some (.ar cs) ∧ isPar q.1 = false
theorem FzEff.look {m : Nat → Option Bx} {ef : Eff} (h : FzEff m ef) (id : Nat) : applyF m ef id = m id ∨ ∃ cs, m id = some (.ar cs) ∧ applyF m ef id = some (.fz cs) := by
  induction ef with
  | nil => exact .inl rfl
  | cons q r ih =>
    obtain ⟨k, b⟩ := q
    by_cases he : k = id
    · subst he
      obtain ⟨cs, h1, h2, _⟩ := h (k, b) (by simp)
      simp only at h1 h2
      exact .inr ⟨cs, h2, by simp [applyF, h1]⟩
    · have := ih (fun q hq => h q (List.mem_cons_of_mem _ hq))
      simpa [applyF, he] using this
theorem Step.fz {ef : Eff} {B1 : Nat → Prop} (hf : FzEff m ef) (hkeep : ∀ b, B b → (∀ id ∈ ef.map (·.1), ∀ o n, μ id ≠ some (some (b, o, n))) → B1 b) (h : Step X m μ B w ef μ B1 w) {id : Nat} {cs : List L} (hm : m id = some (.ar cs)) (hp : isPar id = false) :
    ∃ B2, Step X m μ B w ((id, some (.fz cs)) :: ef) μ B2 w ∧ Grow B1 w B2 w ∧ FzEff m ((id, some (.fz cs)) :: ef) ∧ applyF m ((id, some (.fz cs)) :: ef) id = some (.fz cs) ∧
      ∀ b, B b → (∀ i ∈ ((id, some (Bx.fz cs)) :: ef).map (·.1), ∀ o n, μ i ≠ some (some (b, o, n))) → B2 b := by
  have hF : FzEff m ((id, some (.fz cs)) :: ef) := by
    intro q hq
    rcases List.mem_cons.1 hq with rfl | hq
    · exact ⟨cs, rfl, hm, hp⟩
    · exact hf q hq
  have hl : applyF m ((id, some (.fz cs)) :: ef) id = some (.fz cs) := by simp [applyF]
  rcases hf.look id with h1 | ⟨cs', h1, h2⟩
  · rw [hm] at h1
    obtain ⟨B2, h3, h4⟩ := h.sb.freeze h1 hp
    exact ⟨B2, h.trans h3, h3.gr, hF, hl, fun b hb hne => h4 b (hkeep b hb fun i hi => hne i (List.mem_cons_of_mem _ hi)) (hne id (by simp))⟩
  · rw [hm] at h1; cases h1
    refine ⟨B1, ?_, Grow.refl _ _, hF, hl, fun b hb hne => hkeep b hb fun i hi => hne i (List.mem_cons_of_mem _ hi)⟩
    have e := applyF_append m ef [(id, some (.fz cs))]
    rw [applyF_same h2] at e
    have h' := h
    refine ⟨?_, h.gr, h.mu, fun id _ => rfl, h.fr, ?_, h.par⟩
    · show SB X (applyF m ([(id, some (.fz cs))] ++ ef)) μ B1 w
      rw [← e]; exact h.sb
    · intro b hb
      have hb' : Wr (applyF m ([(id, some (.fz cs))] ++ ef)) μ b := hb
      rw [← e] at hb'
      exact h.wr b hb'
theorem close_sound (hsb : SB X m μ B w) {ls : List L} : ∀ {vs : List Value} {K : List L → Eff → Prop}, Rels B w μ ls vs → closeK (lkm m) ls K →
    ∃ ls' ef B', K ls' ef ∧ Step X m μ B w ef μ B' w ∧ FzEff m ef ∧ Rels B' w noMu ls' vs ∧ (∀ v ∈ vs, v.oneCell' = true) ∧ ls'.length = ls.length ∧ (ef = [] → B' = B) ∧ (∀ b, B b → (∀ id ∈ ef.map (·.1), ∀ o n, μ id ≠ some (some (b, o, n))) → B' b) := by
  induction ls with
  | nil =>
    intro vs K hr h
    have : vs = [] := List.eq_nil_of_length_eq_zero hr.1.symm
    subst this
    refine ⟨[], [], B, h, Step.refl hsb, ?_, ⟨rfl, fun j l v h => by simp at h⟩, by simp, rfl, fun _ => rfl, fun b hb _ => hb⟩
    intro q hq; cases hq
  | cons l r ih =>
    intro vs K hr h
    match vs, hr with
    | v :: vs, hr =>
    have hl := hr.2 0 l v rfl rfl
    have hrr : Rels B w μ r vs := ⟨by simpa using hr.1, fun j a b h1 h2 => hr.2 (j + 1) a b h1 h2⟩
    -- a leaf that names no box
    have plain : ∀ l', isU l = false → (∀ B', Grow B w B' w → RelL B' w noMu l' v) → closeK (lkm m) r (fun ls ef => K (l' :: ls) ef) →
        ∃ ls' ef B', K ls' ef ∧ Step X m μ B w ef μ B' w ∧ FzEff m ef ∧ Rels B' w noMu ls' (v :: vs) ∧ (∀ u ∈ v :: vs, u.oneCell' = true) ∧ ls'.length = (l :: r).length ∧ (ef = [] → B' = B) ∧ (∀ b, B b → (∀ id ∈ ef.map (·.1), ∀ o n, μ id ≠ some (some (b, o, n))) → B' b) := by
      intro l' hu hl' hk
      obtain ⟨ls', ef, B', h1, h2, h3, h4, h5, h6, h7, h8⟩ := ih hrr hk
      refine ⟨_, _, B', h1, h2, h3, ⟨by simp [h4.1], fun j a b g1 g2 => ?_⟩, ?_, by simp [h6], h7, h8⟩
      · cases j with
        | zero => cases g1; cases g2; exact hl' B' h2.gr
        | succ j => exact h4.2 j a b g1 g2
      · intro u hu'
        rcases List.mem_cons.1 hu' with rfl | hu'
        · exact hl.oneCell hu
        · exact h5 u hu'
    -- a slice onto a box that is frozen here
    have cold : ∀ id cs l', m id = some (.ar cs) → isPar id = false → v.oneCell' = true → (∀ ef B', Step X m μ B w ef μ B' w → applyF m ef id = some (.fz cs) → RelL B' w noMu l' v) →
        closeK (lkm m) r (fun ls ef => K (l' :: ls) ((id, some (.fz cs)) :: ef)) →
        ∃ ls' ef B', K ls' ef ∧ Step X m μ B w ef μ B' w ∧ FzEff m ef ∧ Rels B' w noMu ls' (v :: vs) ∧ (∀ u ∈ v :: vs, u.oneCell' = true) ∧ ls'.length = (l :: r).length ∧ (ef = [] → B' = B) ∧ (∀ b, B b → (∀ id ∈ ef.map (·.1), ∀ o n, μ id ≠ some (some (b, o, n))) → B' b) := by
      intro id cs l' hm hp ho hl' hk
      obtain ⟨ls', ef, B', h1, h2, h3, h4, h5, h6, h7, h8⟩ := ih hrr hk
      obtain ⟨B2, k1, k2, k3, k4, k5⟩ := Step.fz h3 h8 h2 hm hp
      refine ⟨_, _, B2, h1, k1, k3, ⟨by simp [h4.1], fun j a b g1 g2 => ?_⟩, ?_, by simp [h6], (fun h => by cases h), k5⟩
      · cases j with
        | zero => cases g1; cases g2; exact hl' _ B2 k1 k4
        | succ j => exact (h4.2 j a b g1 g2).grow k2 (fun _ _ h => h)
      · intro u hu'
        rcases List.mem_cons.1 hu' with rfl | hu'
        · exact ho
        · exact h5 u hu'
    have iced : ∀ id cs l', m id = some (.fz cs) → v.oneCell' = true → (∀ ef B', Step X m μ B w ef μ B' w → applyF m ef id = some (.fz cs) → RelL B' w noMu l' v) →
        closeK (lkm m) r (fun ls ef => K (l' :: ls) ef) →
        ∃ ls' ef B', K ls' ef ∧ Step X m μ B w ef μ B' w ∧ FzEff m ef ∧ Rels B' w noMu ls' (v :: vs) ∧ (∀ u ∈ v :: vs, u.oneCell' = true) ∧ ls'.length = (l :: r).length ∧ (ef = [] → B' = B) ∧ (∀ b, B b → (∀ id ∈ ef.map (·.1), ∀ o n, μ id ≠ some (some (b, o, n))) → B' b) := by
      intro id cs l' hm ho hl' hk
      obtain ⟨ls', ef, B', h1, h2, h3, h4, h5, h6, h7, h8⟩ := ih hrr hk
      have hlk : applyF m ef id = some (.fz cs) := by
        rcases h3.look id with h | ⟨cs', h, _⟩
        · rw [h, hm]
        · rw [hm] at h; cases h
      refine ⟨_, _, B', h1, h2, h3, ⟨by simp [h4.1], fun j a b g1 g2 => ?_⟩, ?_, by simp [h6], h7, h8⟩
      · cases j with
        | zero => cases g1; cases g2; exact hl' _ B' h2 hlk
        | succ j => exact h4.2 j a b g1 g2
      · intro u hu'
        rcases List.mem_cons.1 hu' with rfl | hu'
        · exact ho
        · exact h5 u hu'
    have gwc : ∀ {id n sz}, RelL B w μ (.gw id n sz) v → v.oneCell' = true := fun h => h.oneCell rfl
    have gsc : ∀ {id off n sz}, RelL B w μ (.gs id off n sz) v → v.oneCell' = true := fun h => h.oneCell rfl
    cases l with
    | gw id n sz =>
      obtain ⟨bx, hb, h⟩ := h
      cases bx with
      | st cs => exact False.elim h
      | mp es => exact False.elim h
      | ar cs =>
        obtain ⟨hp, h⟩ := cond_false h
        exact cold id cs _ hb hp (gwc hl) (fun ef B' hs hlk => fz_rel hs.sb hlk (hl.grow hs.gr hs.mu)) h
      | fz cs => exact iced id cs _ hb (gwc hl) (fun ef B' hs hlk => fz_rel hs.sb hlk (hl.grow hs.gr hs.mu)) h
    | gs id off n sz =>
      obtain ⟨bx, hb, h⟩ := h
      cases bx with
      | st cs => exact False.elim h
      | mp es => exact False.elim h
      | ar cs =>
        obtain ⟨hp, h⟩ := cond_false h
        exact cold id cs _ hb hp (gsc hl) (fun ef B' hs hlk => fz_rel_part hs.sb hlk (hl.grow hs.gr hs.mu)) h
      | fz cs => exact iced id cs _ hb (gsc hl) (fun ef B' hs hlk => fz_rel_part hs.sb hlk (hl.grow hs.gr hs.mu)) h
    | nl => exact plain (.sl [] 0) rfl (fun B' g => by cases hl; exact .sl0) h
    | nz x => exact plain _ rfl (fun B' g => by cases hl; exact .nm; exact .nf) h
    | mp id => exact False.elim h
    | fc g n sh ls => exact False.elim h
    | tt => exact plain (.b true) rfl (fun B' g => by cases hl; exact .b) h
    | ff => exact plain (.b false) rfl (fun B' g => by cases hl; exact .b) h
    | p id off => exact False.elim h
    | u => exact False.elim h
    | i k n => exact plain _ rfl (fun B' g => by cases hl; exact .i) h
    | b x => exact plain _ rfl (fun B' g => by cases hl; exact .b) h
    | s x => exact plain _ rfl (fun B' g => by cases hl; exact .s) h
    | np => exact plain _ rfl (fun B' g => by cases hl; exact .np) h
    | f fn => exact plain _ rfl (fun B' g => by cases hl; exact .f) h
    | sl cs n => exact plain _ rfl (fun B' g => by
        have := hl.grow g (fun _ _ h => h)
        cases this with
        | sl0 => exact .sl0
        | sl k1 k2 k3 k4 k5 => exact .sl k1 k2 k3 k4 k5) h
    | pf cs => exact plain _ rfl (fun B' g => by
        have := hl.grow g (fun _ _ h => h)
        cases this with
        | pf k1 k2 k3 k4 => exact .pf k1 k2 k3 k4) h
theorem u8_rel {l : List UInt8} : Rels B w μ (l.map u8) (l.map fun x => Value.int .u8 x.toNat) := by
  refine ⟨by simp, fun j a b h1 h2 => ?_⟩
  simp only [List.getElem?_map, Option.map_eq_some_iff] at h1 h2
  obtain ⟨x, hx, rfl⟩ := h1
  obtain ⟨y, hy, rfl⟩ := h2
  rw [hx] at hy; cases hy
  exact .i
theorem u8_vals {l : List UInt8} {vs : List Value} (h : Rels B w μ (l.map u8) vs) : vs = l.map fun x => Value.int .u8 x.toNat := by
  apply List.ext_getElem?
  intro j
  by_cases hj : j < l.length
  · have h1 : (l.map u8)[j]? = some (u8 l[j]) := by simp [hj]
    have hv : j < vs.length := by rw [← h.1]; simpa using hj
    have := h.2 j _ _ h1 (List.getElem?_eq_getElem hv)
    have e := RelL.int (show RelL B w μ (.i .u8 l[j].toNat) vs[j] from this)
    rw [List.getElem?_eq_getElem hv, e]
    simp [hj]
  · have : vs.length ≤ j := by rw [← h.1]; simpa using hj
    rw [List.getElem?_eq_none this]
    simp [Nat.le_of_not_lt hj]
theorem foldl_push (l : List UInt8) : ∀ acc : List UInt8, (l.map fun x : UInt8 => (x.toNat : Int)).foldl (fun (r : ByteArray) n => r.push (UInt8.ofNat n.toNat)) ⟨⟨acc⟩⟩ = ⟨⟨acc ++ l⟩⟩ := by
  induction l with
  | nil => intro acc; simp
  | cons x r ih =>
    intro acc
    have : (⟨⟨acc⟩⟩ : ByteArray).push (UInt8.ofNat ((x.toNat : Int)).toNat) = ⟨⟨acc ++ [x]⟩⟩ := by
      simp [ByteArray.push]
    simp only [List.map_cons, List.foldl_cons, this, ih]
    simp
theorem convStr_sound {s d e : TypeId} (hs : P.underlying s = some (.slice e)) (he : P.underlying e = some (.int .u8)) (hd : P.underlying d = some .string) (hsb : SB X m μ B w) {l : L} {v : Value} {K : List UInt8 → Prop}
    (h : contentK (lkm m) l fun cs n => bytesK cs fun l => sideK (l.length = n) (K l)) (hl : RelL B w μ l v) :
    ∃ l', K l' ∧ (convert s d v).run P w = .ok (.string ⟨⟨l'⟩⟩) w := by
  obtain ⟨cs, n, a, cap, ⟨l', rfl, h1, h2⟩, rfl, h3⟩ := content_rel hsb h hl
  refine ⟨l', h2, ?_⟩
  have key : (convert s d (.slice a n cap)).run P w = (Conv.bytesToString (.slice a n cap)).run P w := by
    simp [convert, run_underlying hs, run_underlying hd, run_underlying he]
  rw [key]
  rcases h3 with ⟨h4, rfl⟩ | ⟨b, o, vs, rfl, h5, h6⟩
  · have : l' = [] := by simpa using h4
    subst this
    cases a with
    | none => rfl
    | some a => simp [Conv.bytesToString, loadCells, loadCellsFrom]; rfl
  · have hv := u8_vals h5
    subst hv
    have hc := run_loadCells_list (P := P) w ⟨b, o, none⟩ _ (fun j v hj => by rw [add_lit]; exact (h6 j v hj).1)
    simp only [List.length_map, h1] at hc
    have := run_bytesToString (P := P) w ⟨b, o, none⟩ n cap (l'.map fun x : UInt8 => (x.toNat : Int)) (by rw [hc]; simp [List.map_map, Function.comp_def])
    rw [this]
    have e := foldl_push l' []
    rw [List.nil_append] at e
    exact congrArg (fun b => Result.ok (Value.string b) w) e
theorem newRow_facts (w : World) (c : Array Value) (e : TypeId) (hone : ∀ v ∈ c.toList, v.oneCell' = true) :
    (w.alloc (.cells c e)).heap.size = w.heap.size + 1 ∧ (∀ b, b < w.heap.size → (w.alloc (.cells c e)).heap[b]? = w.heap[b]?) ∧ Cells (w.alloc (.cells c e)) w.heap.size 0 c.toList ∧ Free (w.alloc (.cells c e)) w.heap.size := by
  refine ⟨by simp, fun b hb => heap_alloc_old w _ b hb, fun j v hv => ?_, fun o _ => ?_⟩
  · have := World.cell?_alloc_new w c e j
    simp only [Nat.zero_add]
    rw [this]
    exact ⟨by simpa using hv, hone v (List.mem_of_getElem? hv)⟩
  · have := World.frozen?_alloc_new w c e o
    exact this
end
end Go.Sx

namespace Go.Sx
def Out {P : Program} [Gl P] (X : Cx P) (m : Nat → Option Bx) (μ : Mu) (B : Nat → Prop) (w : World) (K : V → Eff → Prop) (v' : Value) (w' : World) : Prop :=
  ∃ v ef μ' B', K v ef ∧ Step X m μ B w ef μ' B' w' ∧ RelV B' w' μ' v v'
section
variable {P : Program} [Gl P] {T : TypeId → TI} {B : Nat → Prop} {w : World} {μ : Mu} {X : Cx P} {m : Nat → Option Bx}
theorem Out.pure (hsb : SB X m μ B w) {K : V → Eff → Prop} {v : V} {v' : Value} (hk : K v []) (hr : RelV B w μ v v') : Out X m μ B w K v' w :=
  ⟨v, [], μ, B, hk, Step.refl hsb, hr⟩
theorem leaves_sound {v : V} {v' : Value} {K : List L → Prop} (h : leavesK v K) (hr : RelV B w μ v v') : ∃ ls, K ls ∧ Rels B w μ ls v'.cells.toList ∧ (∀ u ∈ v'.cells.toList, u.oneCell' = true) := by
  match v, h, hr with
  | .c (.o l), h, hr =>
    obtain ⟨hu, h⟩ := cond_false h
    have ho := RelL.oneCell hr hu
    have hc : v'.cells = #[v'] := by cases v' <;> first | rfl | cases ho
    refine ⟨[l], h, ?_, ?_⟩
    · rw [hc]
      refine ⟨rfl, fun j a b h1 h2 => ?_⟩
      cases j with
      | zero => cases h1; cases h2; exact hr
      | succ j => simp at h1
    · rw [hc]; simp [ho]
  | .c (.a ls), h, hr =>
    obtain ⟨hu, h⟩ := cond_false h
    obtain ⟨vs, rfl, hr2⟩ := hr
    refine ⟨ls, h, hr2, fun u hu' => ?_⟩
    obtain ⟨j, hj⟩ := List.getElem?_of_mem (show u ∈ vs from hu')
    obtain ⟨l, h1, h2⟩ := hr2.get hj
    refine h2.oneCell ?_
    have := List.mem_of_getElem? h1
    simp only [List.any_eq_false] at hu
    simpa using hu l this
theorem run_zero {t : TypeId} (h : TyOk P T t) : ∃ z, (zeroValue t).run P w = .ok z w ∧ z.cells.toList = (T t).zero.map zval := by
  obtain ⟨i, h1, _, _, z, h2, h3⟩ := h.info
  exact ⟨z, by simp [zeroValue, typeInfo, h1, h2], h3⟩
theorem newVar_sound (hsb : SB X m μ B w) {d : Nat} (hd : μ d = none) (hp : isPar d = false) (e : TypeId) (c : Array Value) (bx : Bx) (cs : List L)
    (hbx : (bx = .st cs ∧ Rels B w μ cs c.toList) ∨ (bx = .ar cs ∧ Rels B w noMu cs c.toList)) (hone : ∀ v ∈ c.toList, v.oneCell' = true) :
    ∃ μ' B', Step X m μ B w [(d, some bx)] μ' B' (w.alloc (.cells c e)) ∧ RelV B' (w.alloc (.cells c e)) μ' (.c (.o (.p d 0))) (.pointer (some ⟨w.heap.size, 0, none⟩)) ∧
      μ' d = some (some (w.heap.size, 0, cs.length)) := by
  obtain ⟨h1, h2, h3, h4⟩ := newRow_facts w c e hone
  have h5 := hsb.create hd hp h1 h2 rfl rfl rfl bx cs c.toList hbx h3 h4
  refine ⟨_, _, h5, ?_, by simp [upd]⟩
  exact RelL.p (b := w.heap.size) (o := 0) (ln := cs.length) (by simp [upd])
theorem zval_one {l : L} (h : isZero l = true) : (zval l).oneCell' = true := by cases l <;> first | rfl | (rename_i x; cases x <;> rfl) | cases h
theorem zeros_one {zs : List L} (h : ∀ l ∈ zs, isZero l = true) : ∀ v ∈ zs.map zval, v.oneCell' = true := by
  intro v hv
  obtain ⟨l, hl, rfl⟩ := List.mem_map.1 hv
  exact zval_one (h l hl)
theorem alloc_sound (hT : TOk P T) (hsb : SB X m μ B w) {d : Nat} (hd : μ d = none) (hp : isPar d = false) {t : TypeId} {K : V → Eff → Prop}
    (h : match (T t).d with
      | .array _ _ => czK (T t).zero fun zs => K (.c (.o (.p d 0))) [(d, some (.ar zs))]
      | .other => False
      | _ => K (.c (.o (.p d 0))) [(d, some (.st (T t).zero))]) :
    ∃ v' w', (Instr.alloc t true (.tuple #[])).run P w = .ok v' w' ∧ Out X m μ B w K v' w' := by
  have ho : isOther (T t).d = false := by
    cases hd : (T t).d <;> first | rfl | (rw [hd] at h; exact False.elim h)
  have ht := hT t ho
  obtain ⟨z, hz, hzc⟩ := run_zero (w := w) ht
  have run : (Instr.alloc t true (.tuple #[])).run P w = .ok (.pointer (some ⟨w.heap.size, 0, none⟩)) (w.alloc (.cells z.cells t)) := by
    simp [Instr.alloc, hz, newVar, newRow]
  have hst : (∀ n e, (T t).d ≠ .array n e) → K (.c (.o (.p d 0))) [(d, some (.st (T t).zero))] := by
    intro hne
    cases hd : (T t).d <;> first | (rw [hd] at h; exact h) | (rw [hd] at h; exact False.elim h) | exact absurd hd (hne _ _)
  by_cases har : ∃ n e, (T t).d = .array n e
  · obtain ⟨n, e, har⟩ := har
    rw [har] at h
    simp only [czK_eq] at h
    obtain ⟨μ', B', h1, h2, _⟩ := newVar_sound hsb hd hp t z.cells (.ar ((T t).zero.map cz)) _ (.inr ⟨rfl, by rw [hzc]; exact czero_rels ht.zero⟩) (by rw [hzc]; exact zeros_one ht.zero)
    exact ⟨_, _, run, _, _, μ', B', h, h1, h2⟩
  · obtain ⟨μ', B', h1, h2, _⟩ := newVar_sound hsb hd hp t z.cells (.st (T t).zero) _ (.inl ⟨rfl, by rw [hzc]; exact zero_rels ht.zero⟩) (by rw [hzc]; exact zeros_one ht.zero)
    exact ⟨_, _, run, _, _, μ', B', hst (fun n e h => har ⟨n, e, h⟩), h1, h2⟩
theorem box_sound (hsb : SB X m μ B w) {d : Nat} (hd : μ d = none) (hp : isPar d = false) {t : TypeId} {v : V} {v' : Value} {K : V → Eff → Prop} (hr : RelV B w μ v v')
    (h : leavesK v fun ls => K (.c (.o (.p d 0))) [(d, some (.st ls))]) : ∃ u w', (Instr.box t v').run P w = .ok u w' ∧ Out X m μ B w K u w' := by
  obtain ⟨ls, h1, h2, h3⟩ := leaves_sound h hr
  obtain ⟨μ', B', k1, k2, _⟩ := newVar_sound hsb hd hp t v'.cells (.st ls) ls (.inl ⟨rfl, h2⟩) h3
  have run : (Instr.box t v').run P w = .ok (.pointer (some ⟨w.heap.size, 0, none⟩)) (w.alloc (.cells v'.cells t)) := by simp [Instr.box, newVar, newRow]
  exact ⟨_, _, run, _, _, μ', B', h1, k1, k2⟩
theorem rep_get (zs : List L) (n j : Nat) : (rep zs n)[j]? = if j < n * zs.length then zs[j % zs.length]? else none := by
  induction n generalizing j with
  | zero => simp [rep]
  | succ n ih =>
    rw [rep]
    by_cases hj : j < zs.length
    · rw [List.getElem?_append_left hj, Nat.mod_eq_of_lt hj, if_pos]
      rw [Nat.succ_mul]; omega
    · rw [List.getElem?_append_right (by omega), ih]
      have e : (j - zs.length) % zs.length = j % zs.length := by
        conv => rhs; rw [show j = j - zs.length + zs.length by omega]
        rw [Nat.add_mod_right]
      rw [e]
      by_cases h : j - zs.length < n * zs.length
      · rw [if_pos h, if_pos]; rw [Nat.succ_mul]; omega
      · rw [if_neg h, if_neg]; rw [Nat.succ_mul]; omega
theorem made_get (z : Array Value) (n j : Nat) (hj : j < n) (hz : 0 < z.size) : (madeCells z n).toList[j]? = z.toList[j % z.size]? := by
  have h1 : j % z.size < z.size := Nat.mod_lt _ hz
  simp [madeCells, hj, h1]
theorem made_one {z : Array Value} (h : ∀ v ∈ z.toList, v.oneCell' = true) (n : Nat) (hz : 0 < z.size ∨ n = 0 := by first | exact .inl (by assumption) | exact .inr rfl) : ∀ v ∈ (madeCells z n).toList, v.oneCell' = true := by
  intro v hv
  obtain ⟨j, hj⟩ := List.getElem?_of_mem hv
  have hjn : j < n := by
    have := (List.getElem?_eq_some_iff.1 hj).1
    rw [Array.length_toList, size_madeCells] at this
    exact this
  have hpos : 0 < z.size := hz.resolve_right (by omega)
  rw [made_get z n j hjn hpos] at hj
  exact h v (List.mem_of_getElem? hj)
theorem rep_made {zs : List L} {z : Array Value} (hz : Rels B w μ zs z.toList) (n k : Nat) (hk : n * zs.length ≤ k) : Rels B w μ (rep zs n) ((madeCells z k).toList.take (n * zs.length)) := by
  have hlen : zs.length = z.size := by simpa using hz.1
  refine ⟨?_, fun j l v h1 h2 => ?_⟩
  · rw [rep_length, List.length_take]
    have := size_madeCells z k
    rw [← Array.length_toList] at this
    rw [this]; omega
  · rw [rep_get] at h1
    split at h1
    · rename_i hj
      rw [List.getElem?_take, if_pos hj] at h2
      have hpos : 0 < z.size := by
        rcases Nat.eq_zero_or_pos z.size with h | h
        · rw [hlen, h] at hj; simp at hj
        · exact h
      rw [made_get z k j (by omega) hpos] at h2
      rw [hlen] at h1
      exact hz.2 _ l v h1 h2
    · cases h1
theorem make_sound (hT : TOk P T) (hsb : SB X m μ B w) {d : Nat} (hd : μ d = none) (hp : isPar d = false) {t e : TypeId} (ht : (T t).d = .slice e) {n c : Int} {K : V → Eff → Prop}
    (h : sideK (0 ≤ n ∧ n ≤ c ∧ c * (T e).bytes ≤ 140737488355328) (czK (T e).zero fun zs => natK n fun n => K (.c (.o (.gw d n (T e).size))) [(d, some (.ar (rep zs n)))])) :
    ∃ v' w', (Instr.makeSlice t (.int .i64 n) (.int .i64 c)).run P w = .ok v' w' ∧ Out X m μ B w K v' w' := by
  obtain ⟨⟨h0, hlc, hb⟩, h⟩ := h
  rw [czK_eq] at h
  obtain ⟨h⟩ := h
  have hu := (hT t (by rw [ht]; rfl)).und
  rw [ht] at hu
  have he := hT e hu.2
  obtain ⟨i, k1, k2, k3, z, k4, k5⟩ := he.info
  have hby := he.byt
  have hc0 : 0 ≤ c := by omega
  have hcb : c ≤ c * (T e).bytes := by
    have := Int.mul_le_mul_of_nonneg_left (show (1 : Int) ≤ (T e).bytes by omega) hc0
    simpa using this
  have run := run_make (P := P) w t e i z hu.1 k1 k4 .i64 .i64 n c h0 hlc (by rw [k3, Int.mul_comm]; omega) (by omega)
  have hzs : z.cells.toList = (T e).zero.map zval := k5
  have hlen : (T e).zero.length = (T e).size := he.len
  have hz : Rels B w noMu ((T e).zero.map cz) z.cells.toList := by rw [hzs]; exact czero_rels he.zero
  have hle : n.toNat * (T e).size ≤ c.toNat * i.size := by rw [k2]; exact Nat.mul_le_mul_right _ (by omega)
  have hr := rep_made hz n.toNat (c.toNat * i.size) (by simpa [hlen] using hle)
  have hzpos : 0 < z.cells.size ∨ c.toNat * i.size = 0 := by
    have e1 : z.cells.size = (T e).size := by rw [← Array.length_toList, hzs, List.length_map, hlen]
    rcases Nat.eq_zero_or_pos (T e).size with h0 | h0
    · right; rw [k2, h0]; simp
    · left; omega
  obtain ⟨g1, g2, g3, g4⟩ := newRow_facts w (madeCells z.cells (c.toNat * i.size)) e (made_one (by rw [hzs]; exact zeros_one he.zero) _ hzpos)
  have h5 := hsb.create hd hp g1 g2 rfl rfl rfl (.ar (rep ((T e).zero.map cz) n.toNat)) _ _ (.inr ⟨rfl, hr⟩) (g3.take _) g4
  refine ⟨_, _, run, _, _, _, _, h, h5, ?_⟩
  have hlen2 : (rep ((T e).zero.map cz) n.toNat).length = n.toNat * (T e).size := by rw [rep_length]; simp [hlen]
  refine RelL.gw (by simp only [upd, if_true, hlen2]) (by omega) fun j hj => ?_
  have := g3.ex (j := j) (by have := size_madeCells z.cells (c.toNat * i.size); rw [← Array.length_toList] at this; rw [this, k2]; exact hj)
  simpa using this
theorem cell_freeze (w : World) (b k : Nat) (a : Addr) : (w.freeze { block := b, off := k } 1).cell? a = w.cell? a := by
  simp only [World.cell?, World.freeze, Nat.succ_ne_self, if_false, Array.getElem?_modify]
  by_cases hb : b = a.block
  · rw [if_pos hb]
    cases w.heap[a.block]? with
    | none => rfl
    | some o => cases o <;> rfl
  · rw [if_neg hb]
theorem SB.mark (h : SB X m μ B w) {d : Nat} {cs : List L} (hd : m d = some (.ar cs)) (hp : isPar d = false) {b o : Nat} (h1 : μ d = some (some (b, o, cs.length))) (k : Nat) :
    Step X m μ B w [(d, some (.fz cs))] μ (fun c => B c ∧ c ≠ b) (w.freeze { block := b, off := k } 1) := by
  have hms : ∀ id, id ≠ d → applyF m [(d, some (.fz cs))] id = m id := fun id h => by simp [applyF, Ne.symm h]
  have hmd : applyF m [(d, some (.fz cs))] d = some (.fz cs) := by simp [applyF]
  have sepL : ∀ id bx, applyF m [(d, some (.fz cs))] id = some bx → live bx = true → id ≠ d ∧ m id = some bx := by
    intro id bx h1 h2
    by_cases he : id = d
    · subst he; rw [hmd] at h1; cases h1; cases h2
    · exact ⟨he, by rw [← hms id he]; exact h1⟩
  have hsize : (w.freeze { block := b, off := k } 1).heap.size = w.heap.size := by simp [World.freeze]
  have hold : ∀ c, c ≠ b → (w.freeze { block := b, off := k } 1).heap[c]? = w.heap[c]? := by
    intro c hc
    simp only [World.freeze, Nat.succ_ne_self, if_false, Array.getElem?_modify]
    rw [if_neg (fun e => hc e.symm)]
  have hcell := cell_freeze w b k
  have hB := (h.inB hd rfl h1)
  have hwr : ∀ b, Wr (applyF m [(d, some (.fz cs))]) μ b → Wr m μ b ∨ w.heap.size ≤ b := by
    rintro b ⟨id, b1, o, n, h1, h2, h3⟩
    exact .inl ⟨id, b1, o, n, (sepL _ _ h1 h2).2, h2, h3⟩
  have g : Grow B w (fun c => B c ∧ c ≠ b) (w.freeze { block := b, off := k } 1) :=
    ⟨by rw [hsize]; exact Nat.le_refl _, fun c _ hn => hold c (fun e => hn (e ▸ hB.1)), fun a ha => by rw [hcell]; exact ha, fun _ _ h => h.1⟩
  refine ⟨⟨?_, ?_, ?_, fun c hc => ⟨h.bx c hc, ?_⟩, by rw [hsize]; exact h.sz, fun c hc => by rw [hsize]; exact h.blt c hc.1, h.gp.grow g⟩, g, fun _ _ h => h, fun _ _ => rfl, ⟨fun c _ hn => hold c (fun e => hn ⟨d, _, o, _, hd, rfl, e ▸ h1⟩), by simp [World.freeze], by simp [World.freeze], by simp [World.freeze]⟩, hwr, fun _ _ => rfl⟩
  · intro id bx hid
    by_cases he : id = d
    · subst he; rw [hmd] at hid; cases hid
      rcases h.box id _ hd with ⟨k1, _⟩ | ⟨b', o', k1, ⟨vs, k2, k2'⟩, k3, k4, k5⟩
      · rw [h1] at k1; cases k1
      · rw [h1] at k1; cases k1
        exact .inr ⟨b, o, h1, ⟨vs, k2.grow g (noMu_le _), fun j v hv => ⟨by rw [hcell]; exact (k2' j v hv).1, (k2' j v hv).2⟩⟩, fun hb => hb.2 rfl, by rw [hsize]; exact k5⟩
    · have hid' := hid
      rw [hms id he] at hid'
      refine (h.box id bx hid').same g (fun _ _ h => h) fun c o' n' hl hmu => ?_
      have hne : c ≠ b := by
        rintro rfl
        exact he (h.sep id d _ _ c o' n' o _ hid' hd hl rfl hmu h1)
      exact ⟨hold c hne, (h.inB hid' hl hmu).1, hne⟩
  · intro id id' b1 b2 b o n o' n' k1 k2 k3 k4 k5 k6
    exact h.sep id id' b1 b2 b o n o' n' (sepL _ _ k1 k3).2 (sepL _ _ k2 k4).2 k3 k4 k5 k6
  · intro id b1 b o n k1 k2 k3 k4
    exact h.loc id b1 b o n (sepL _ _ k1 k2).2 k2 k3 k4
  · rintro rfl
    exact Cx.nb (h.loc d _ c o _ hd rfl hp h1) hc
theorem convBytes_sound (hsb : SB X m μ B w) {id n sz : Nat} {cs : List L} (hm : m id = some (.ar cs)) (hne : cs ≠ []) (hp : isPar id = false) {s e : TypeId} (hs : P.underlying s = some (.slice e)) (he : P.underlying e = some (.int .u8))
    {v : Value} (hx : RelL B w μ (.gw id n sz) v) {K : V → Eff → Prop} (h : K (.c (.o (.gw id n sz))) [(id, some (.fz cs))]) :
    ∃ w', (convert s s v).run P w = .ok v w' ∧ Out X m μ B w K v w' := by
  have hb := hsb.box id _ hm
  cases hx with
  | gw0 h0 =>
    rcases hb with ⟨_, k2⟩ | ⟨b', o', k1, _⟩
    · exact absurd k2 hne
    · rw [h0] at k1; cases k1
  | @gw _ _ _ _ b o cap hmu hn hc =>
    rcases hb with ⟨_, k2⟩ | ⟨b', o', k1, ⟨vs, k2, k2'⟩, k3, k4, k5⟩
    · exact absurd k2 hne
    · have hlen : n * sz = cs.length ∧ b' = b ∧ o' = o := by
        rw [hmu] at k1
        have e0 := Option.some.inj (Option.some.inj k1)
        simp only [Prod.mk.injEq] at e0
        exact ⟨e0.2.2, e0.1.symm, e0.2.1.symm⟩
      obtain ⟨e1, rfl, rfl⟩ := hlen
      have hmu' : μ id = some (some (b', o', cs.length)) := by rw [← e1]; exact hmu
      have hvs : vs ≠ [] := by
        intro e0
        apply hne
        apply List.eq_nil_of_length_eq_zero
        rw [k2.1, e0]
        rfl
      obtain ⟨v0, r0, rfl⟩ := List.exists_cons_of_ne_nil hvs
      have hc0 := (k2' 0 v0 rfl).1
      have hsh : ∃ q : TypeId × Nat, w.shape? b' = some q := by
        simp only [World.cell?] at hc0
        simp only [World.shape?]
        cases hq : w.heap[b']? with
        | none => rw [hq] at hc0; cases hc0
        | some ob =>
          rw [hq] at hc0
          cases ob <;> first | exact ⟨_, rfl⟩ | cases hc0
      obtain ⟨⟨el, k⟩, hsh⟩ := hsh
      refine ⟨w.freeze { block := b', off := k } 1, ?_, _, _, μ, _, h, hsb.mark hm hp hmu' k, RelL.gw hmu hn fun j hj => ?_⟩
      · simp [convert, run_underlying hs, run_underlying he, markStringish]
        show ((Sem.run P (match w.shape? b' with
          | some (_, n) => freeze { block := b', off := n } 1
          | _ => Pure.pure ()) w).andThen fun _ w' => Result.ok (Value.slice (some ⟨b', o', none⟩) n cap) w') = _
        rw [hsh]
        rfl
      · rw [cell_freeze]; exact hc j hj
theorem strBytes_sound (hsb : SB X m μ B w) {d : Nat} (hd : μ d = none) (hp : isPar d = false) {s t e : TypeId} {sd : TypeDesc} (hs : P.underlying s = some sd) (ht : P.underlying t = some (.slice e)) (he : P.underlying e = some (.int .u8))
    {l : List UInt8} {K : V → Eff → Prop} (h : K (.c (.o (.gw d l.length 1))) [(d, some (.ar (l.map u8)))]) :
    ∃ v' w', (convert s t (.string ⟨⟨l⟩⟩)).run P w = .ok v' w' ∧ Out X m μ B w K v' w' := by
  let cap := grownCap w l.length 0 e
  let arr : Array Value := (l.map (fun b => Value.int .u8 b.toNat)).toArray ++ Array.replicate (cap - l.length) (.int .u8 0)
  have hcap : l.length ≤ cap := grownCap_ge w l.length 0 e
  let w1 := w.drew.alloc (.cells arr e)
  have hsz1 : w1.heap.size = w.heap.size + 1 := by show (w.drew.alloc _).heap.size = _; simp
  have hshape : w1.shape? w.heap.size = some (e, arr.size) := by
    have := heap_alloc_new w.drew (.cells arr e)
    simp only [World.size_drew] at this
    simp only [w1, World.shape?, this]
  have run : (convert s t (.string ⟨⟨l⟩⟩)).run P w = .ok (.slice (some ⟨w.heap.size, 0, none⟩) l.length cap) (w1.freeze { block := w.heap.size, off := arr.size } 1) := by
    have hx : (⟨⟨l⟩⟩ : ByteArray).size = l.length := rfl
    simp [convert, run_underlying hs, run_underlying ht, run_underlying he, Conv.stringToBytes, Question.forced, newRow, markStringish, hx]
    show ((Sem.run P (match w1.shape? w.heap.size with
      | some (_, n) => freeze { block := w.heap.size, off := n } 1
      | _ => Pure.pure ()) w1).andThen fun _ w' => Result.ok (Value.slice (some ⟨w.heap.size, 0, none⟩) l.length cap) w') = _
    rw [hshape]
    rfl
  have hnew : w1.heap[w.heap.size]? = some (.cells arr e) := by
    exact heap_alloc_new w.drew (.cells arr e)
  have hnew' : (w1.freeze { block := w.heap.size, off := arr.size } 1).heap[w.heap.size]? = some (.cells arr e (arr.size, arr.size + 1)) := by
    simp [World.freeze, Array.getElem?_modify, hnew]
  have hold : ∀ b, b < w.heap.size → (w1.freeze { block := w.heap.size, off := arr.size } 1).heap[b]? = w.heap[b]? := by
    intro b hb
    have : w1.heap[b]? = w.heap[b]? := heap_alloc_old w.drew _ b hb
    simp only [World.freeze, Nat.succ_ne_self, if_false, Array.getElem?_modify]
    rw [if_neg (by omega), this]
  have hsize : (w1.freeze { block := w.heap.size, off := arr.size } 1).heap.size = w.heap.size + 1 := by
    simp [World.freeze, hsz1]
  have hcells : Cells (w1.freeze { block := w.heap.size, off := arr.size } 1) w.heap.size 0 arr.toList := by
    intro j v hv
    refine ⟨?_, ?_⟩
    · simp only [World.cell?, hnew', Nat.zero_add]
      simpa using hv
    · have := List.mem_of_getElem? hv
      simp only [arr, Array.toList_append, List.mem_append] at this
      rcases this with h | h
      · obtain ⟨x, _, rfl⟩ := List.mem_map.1 h; rfl
      · have := Array.eq_of_mem_replicate (Array.mem_def.2 h); subst this; rfl
  have hfree : Free (w1.freeze { block := w.heap.size, off := arr.size } 1) w.heap.size := by
    intro o ho
    simp only [World.cell?, hnew'] at ho
    simp only [World.frozen?, hnew']
    have : o < arr.size := by
      rcases Nat.lt_or_ge o arr.size with h | h
      · exact h
      · simp [Array.getElem?_eq_none h] at ho
    simp; omega
  have hrel : Rels B w noMu (l.map u8) (arr.toList.take l.length) := by
    have : arr.toList.take l.length = l.map fun b => Value.int .u8 b.toNat := by
      simp only [arr, Array.toList_append]
      rw [List.take_append_of_le_length (by simp)]
      rw [List.take_of_length_le (by simp)]
    rw [this]
    exact u8_rel
  have h5 := hsb.create hd hp hsize hold rfl rfl rfl (.ar (l.map u8)) _ _ (.inr ⟨rfl, hrel⟩) (hcells.take _) hfree
  refine ⟨_, _, run, _, _, _, _, h, h5, ?_⟩
  refine RelL.gw (by simp [upd]) hcap fun j hj => ?_
  have := hcells.ex (j := j) (by simp [arr]; omega)
  simpa using this
end
end Go.Sx

namespace Go.Sx
section
variable {P : Program} [Gl P] {T : TypeId → TI} {B : Nat → Prop} {w : World} {μ : Mu} {X : Cx P} {m : Nat → Option Bx}
theorem run_storeAt {t : TypeId} (h : TyOk P T t) {b o : Nat} {v : Value} (hs : v.cells.toList.length = (T t).size) (hex : ∀ j, j < v.cells.toList.length → (w.cell? ⟨b, o + j, none⟩).isSome = true)
    (hf : Free w b) (h1 : ∀ u ∈ v.cells.toList, u.oneCell' = true) : (Instr.storeAt t (.pointer (some ⟨b, o, none⟩)) v).run P w = .ok () (w.setCells b o v.cells.toList) := by
  have hst := run_storeCells_cells (P := P) b o v.cells.toList 0 w (fun j hj => by simpa using hex j hj) (fun j hj => by have := hf _ (hex j hj); simpa using this) h1
  rw [Array.length_toList] at hs
  simp only [Instr.storeAt, Instr.sureAddr, storeVar, Sem.run_bind, Sem.run_pure, Result.andThen_ok, run_sizeOf' h, hs, ne_eq, not_true_eq_false, if_false, Nat.add_zero] at hst ⊢
  exact hst
theorem store_sound (hT : TOk P T) (hsb : SB X m μ B w) {t : TypeId} {a v : V} {va vv : Value} {K : Eff → Prop} (h : storeSem (T t) a v (lkm m) K) (ha : RelV B w μ a va) (hv : RelV B w μ v vv) :
    ∃ w', (Instr.storeAt t va vv).run P w = .ok () w' ∧ ∃ ef μ' B', K ef ∧ Step X m μ B w ef μ' B' w' := by
  match a, h, ha with
  | .c (.o (.p id off)), h, ha =>
    obtain ⟨b, o, n, hm, rfl⟩ := ha.ptr
    obtain ⟨bx, hb, h⟩ := h
    obtain ⟨ls, h, hls, hone⟩ := leaves_sound h hv
    obtain ⟨hsz, h⟩ := cond_true h
    simp only [Bool.and_eq_true, Bool.not_eq_true'] at hsz
    obtain ⟨hsz, hot⟩ := hsz
    have hsz : ls.length = (T t).size := Nat.eq_of_beq_eq_true hsz
    have ht := hT t hot
    have hlen : vv.cells.toList.length = (T t).size := by rw [← hls.1]; exact hsz
    have hbox := hsb.box id bx hb
    cases bx with
    | fz cs => exact False.elim h
    | mp es => exact False.elim h
    | st cs =>
      obtain ⟨hle, h⟩ := (putK_iff _ _ _ _).1 h
      obtain ⟨b', o', k1, ⟨us, k2, k3⟩, k4, _⟩ := hbox
      rw [hm] at k1; cases k1
      refine ⟨_, run_storeAt ht hlen (fun j hj => ?_) k4 hone, _, μ, B, h, hsb.put (cs := cs) _ _ off ls _ hb hm hle hone (.inl ⟨rfl, rfl, hls⟩)⟩
      have := k3.ex (j := off + j) (by rw [← k2.1]; rw [hlen] at hj; omega)
      rwa [← Nat.add_assoc] at this
    | ar cs =>
      obtain ⟨ls', ef, B1, hk, hst, hfz, hr, _, hl', _⟩ := close_sound hsb hls h
      obtain ⟨hni, hle, hk⟩ := cond_false hk
      have hni : id ∉ ef.map (·.1) := by simpa using hni
      have hb1 : applyF m ef id = some (.ar cs) := by
        rcases hfz.look id with h | ⟨cs', h1, h2⟩
        · rw [h, hb]
        · exfalso
          have : ∀ ef : Eff, id ∉ ef.map (·.1) → applyF m ef id = m id := by
            intro ef
            induction ef with
            | nil => intro _; rfl
            | cons q r ih =>
              intro hq
              obtain ⟨k, x⟩ := q
              simp only [List.map_cons, List.mem_cons, not_or] at hq
              simp [applyF, Ne.symm hq.1, ih hq.2]
          rw [this ef hni, hb] at h2
          cases h2
      rcases hst.sb.box id _ hb1 with ⟨k1, _⟩ | ⟨b', o', k1, ⟨us, k2, k3⟩, k4, _⟩
      · rw [hm] at k1; cases k1
      · rw [hm] at k1; cases k1
        refine ⟨_, run_storeAt ht hlen (fun j hj => ?_) k4 hone, _, μ, B1, hk, ?_⟩
        · have := k3.ex (j := off + j) (by rw [← k2.1]; rw [hlen] at hj; omega)
          rwa [← Nat.add_assoc] at this
        · exact hst.trans (hst.sb.put (cs := cs) _ _ off ls' _ hb1 hm hle hone (.inr ⟨rfl, rfl, hr⟩))
theorem app_room {t u ty e : TypeId} {i : TypeInfo} {ud : TypeDesc} (ht : P.underlying t = some (.slice e)) (hu : P.underlying u = some ud) (hui : ∀ k, ud ≠ .int k) (hi : P.info? e = some i) {b o sLen sCap cnt : Nat} {x : Value} {news : List Value}
    (hl : (Builtin.lenOf x).run P w = .ok cnt w) (hf : (Builtin.firstCells i.size cnt x).run P w = .ok ⟨news⟩ w) (hroom : sLen + cnt ≤ sCap)
    (hex : ∀ j, j < news.length → (w.cell? ⟨b, o + sLen * i.size + j, none⟩).isSome = true) (hfr : Free w b) (h1 : ∀ v ∈ news, v.oneCell' = true) :
    (Builtin.append_ #[t, u] ty #[.slice (some ⟨b, o, none⟩) sLen sCap, x]).run P w = .ok (.slice (some ⟨b, o, none⟩) (sLen + cnt) sCap) (w.setCells b (o + sLen * i.size) news) := by
  have hst := run_storeCells_cells (P := P) b (o + sLen * i.size) news 0 w (fun j hj => by simpa using hex j hj) (fun j hj => by have := hfr _ (hex j hj); simpa using this) h1
  simp only [Nat.add_zero] at hst
  simp [Builtin.append_, run_underlying ht, run_underlying hu, Go.sizeOf, typeInfo, hi, hl, hroom, hf, add_lit, hst]
theorem app_none {t u ty e : TypeId} {i : TypeInfo} {ud : TypeDesc} (ht : P.underlying t = some (.slice e)) (hu : P.underlying u = some ud) (hui : ∀ k, ud ≠ .int k) (hi : P.info? e = some i) {a : Option Addr} {x : Value}
    (hl : (Builtin.lenOf x).run P w = .ok 0 w) (hf : (Builtin.firstCells i.size 0 x).run P w = .ok #[] w) :
    (Builtin.append_ #[t, u] ty #[.slice a 0 0, x]).run P w = .ok (.slice a 0 0) w := by
  cases a <;> simp [Builtin.append_, run_underlying ht, run_underlying hu, Go.sizeOf, typeInfo, hi, hl, hf, storeCells]
theorem app_grow {t u ty e : TypeId} {i : TypeInfo} {z : Value} {ud : TypeDesc} (ht : P.underlying t = some (.slice e)) (hu : P.underlying u = some ud) (hui : ∀ k, ud ≠ .int k) (hi : P.info? e = some i) (hz : i.zero = some z)
    {a : Option Addr} {sLen sCap cnt : Nat} {x : Value} {olds news : List Value} (hb : 0 < i.bytes)
    (hl : (Builtin.lenOf x).run P w = .ok cnt w) (ho : (Builtin.firstCells i.size sLen (.slice a sLen sCap)).run P w.drew = .ok ⟨olds⟩ w.drew)
    (hf : (Builtin.firstCells i.size cnt x).run P w.drew = .ok ⟨news⟩ w.drew) (hg : sCap < sLen + cnt) (hby : (sLen + cnt) * i.bytes ≤ 140737488355328) :
    (Builtin.append_ #[t, u] ty #[.slice a sLen sCap, x]).run P w = .ok (.slice (some ⟨w.heap.size, 0, none⟩) (sLen + cnt) (grownCap w (sLen + cnt) sCap e))
      (w.drew.alloc (.cells (olds.toArray ++ news.toArray ++ Builtin.zeroCells z.cells (grownCap w (sLen + cnt) sCap e - (sLen + cnt))) e)) := by
  have hfit := growslice_fits hg hby
  have hn : ¬ (sLen + cnt ≤ sCap) := by omega
  have hle : sLen + cnt ≤ (sLen + cnt) * i.bytes := Nat.le_mul_of_pos_right _ hb
  have h63' : ¬ (9223372036854775807 < ((sLen : Int) + (cnt : Int))) := by omega
  have h48' : ¬ (281474976710656 < Builtin.nextslicecap (sLen + cnt) sCap * i.bytes) := by omega
  simp [Builtin.append_, run_underlying ht, run_underlying hu, Go.sizeOf, typeInfo, zeroValue, hi, hz, hl, hn, h63', h48', Question.forced, hf, ho, newRow, grownCap]
  congr 2
  apply Array.ext'
  simp [List.append_assoc]
theorem zeroCells_eq (z : Array Value) (n : Nat) : Builtin.zeroCells z n = madeCells z (n * z.size) := rfl
theorem app_zeros {t u ty e : TypeId} {i : TypeInfo} {z : Value} {k k' : IntKind} (ht : P.underlying t = some (.slice e)) (hu : P.underlying u = some (.int k)) (hi : P.info? e = some i) (hz : i.zero = some z)
    {a : Option Addr} {sLen sCap cnt : Nat} {olds : List Value} (hb : 0 < i.bytes) (hsz : z.cells.size = i.size)
    (ho : (Builtin.firstCells i.size sLen (.slice a sLen sCap)).run P w.drew = .ok ⟨olds⟩ w.drew) (hg : sCap < sLen + cnt) (hby : (sLen + cnt) * i.bytes ≤ 140737488355328) :
    (Builtin.append_ #[t, u] ty #[.slice a sLen sCap, .int k' cnt]).run P w = .ok (.slice (some ⟨w.heap.size, 0, none⟩) (sLen + cnt) (grownCap w (sLen + cnt) sCap e))
      (w.drew.alloc (.cells (olds.toArray ++ madeCells z.cells (cnt * i.size) ++ Builtin.zeroCells z.cells (grownCap w (sLen + cnt) sCap e - (sLen + cnt))) e)) := by
  have hfit := growslice_fits hg hby
  have hn : ¬ (sLen + cnt ≤ sCap) := by omega
  have hle : sLen + cnt ≤ (sLen + cnt) * i.bytes := Nat.le_mul_of_pos_right _ hb
  have hc : cnt * i.bytes ≤ (sLen + cnt) * i.bytes := Nat.mul_le_mul_right _ (by omega)
  have h63' : ¬ (9223372036854775807 < ((sLen : Int) + (cnt : Int))) := by omega
  have h48' : ¬ (281474976710656 < Builtin.nextslicecap (sLen + cnt) sCap * i.bytes) := by omega
  have wl : IntKind.i64.wrap (cnt : Int) = cnt := by rw [IntKind.wrap_i64]; omega
  have n1 : ¬ ((cnt : Int) < 0) := by omega
  have n2 : ¬ (281474976710656 < (cnt : Int) * (i.bytes : Int)) := by
    have : (cnt : Int) * (i.bytes : Int) = ((cnt * i.bytes : Nat) : Int) := by simp
    omega
  by_cases h0 : cnt * i.size = 0
  · have : madeCells z.cells (cnt * i.size) = #[] := Array.eq_empty_of_size_eq_zero (by rw [size_madeCells, h0])
    rw [this]
    simp [Builtin.append_, run_underlying ht, run_underlying hu, asInt, asIntOf, wl, n1, n2, Go.sizeOf, typeInfo, zeroValue, hi, hz, hn, h63', h48', Question.forced, ho, newRow, grownCap, h0]
  · simp [Builtin.append_, run_underlying ht, run_underlying hu, asInt, asIntOf, wl, n1, n2, Go.sizeOf, typeInfo, zeroValue, hi, hz, hn, h63', h48', Question.forced, ho, newRow, grownCap, h0, zeroCells_eq, hsz]
theorem src_sound (hsb : SB X m μ B w) {d : D} {u : TypeId} {y : V} {vy : Value} {K : List L → Nat → Prop} (hu : UndOk P T u d) (h : srcK (lkm m) d y K) (hy : RelV B w μ y vy) :
    ∃ ys cnt ud, K ys cnt ∧ P.underlying u = some ud ∧ (∀ k, ud ≠ .int k) ∧ (∀ w', (Builtin.lenOf vy).run P w' = .ok cnt w') ∧
      ∃ news, Rels B w noMu ys news ∧ (∀ v ∈ news, v.oneCell' = true) ∧ ∀ size w', w'.heap = w.heap → ys.length = cnt * size → (Builtin.firstCells size cnt vy).run P w' = .ok ⟨news⟩ w' := by
  match y, h, hy with
  | .c (.o l), h, hy =>
    change RelL B w μ l vy at hy
    cases d with
    | str =>
      cases l with
      | s l =>
        have := hy.str
        subst this
        refine ⟨_, _, _, h, hu, (fun k h => by cases h), fun w' => rfl, l.map (fun x => Value.int .u8 x.toNat), u8_rel, ?_, ?_⟩
        · intro v hv
          obtain ⟨x, _, rfl⟩ := List.mem_map.1 hv
          rfl
        · intro size w' _ _
          simp only [Builtin.firstCells, Sem.run_pure]
          congr 1
          apply Array.ext'
          simp [bytes_extract]
      | _ => exact False.elim h
    | slice e =>
      obtain ⟨cs, n, a, cap, h1, rfl, h2⟩ := content_rel hsb h hy
      refine ⟨cs, n, _, h1, hu.1, (fun k h => by cases h), fun w' => rfl, ?_⟩
      rcases h2 with ⟨rfl, rfl⟩ | ⟨b, o, vs, rfl, h3, h4⟩
      · refine ⟨[], ⟨rfl, fun j l v h => by simp at h⟩, by simp, fun size w' _ _ => ?_⟩
        cases a with
        | none => rfl
        | some a => simp [Builtin.firstCells, loadCells, loadCellsFrom]
      · refine ⟨vs, h3, h4.one, fun size w' hw hl => ?_⟩
        refine run_firstCells_some (P := P) w' size n ⟨b, o, none⟩ n cap vs (by rw [← h3.1]; exact hl) (fun j v hj => ?_)
        rw [add_lit]
        have := (h4 j v hj).1
        simpa [World.cell?, hw] using this
    | _ => exact False.elim h
end
end Go.Sx

namespace Go.Sx
section
variable {P : Program} [Gl P] {T : TypeId → TI} {B : Nat → Prop} {w : World} {μ : Mu} {X : Cx P} {m : Nat → Option Bx}
theorem one_app {a b : List Value} (ha : ∀ v ∈ a, v.oneCell' = true) (hb : ∀ v ∈ b, v.oneCell' = true) : ∀ v ∈ a ++ b, v.oneCell' = true := by
  intro v hv
  rcases List.mem_append.1 hv with h | h
  · exact ha v h
  · exact hb v h
theorem grow_sound (hsb : SB X m μ B w) {d : Nat} (hd : μ d = none) (hp : isPar d = false) {cs : List L} {vs : List Value} (hr : Rels B w noMu cs vs) (hone : ∀ v ∈ vs, v.oneCell' = true)
    (rest : Array Value) (hrest : ∀ v ∈ rest.toList, v.oneCell' = true) (e : TypeId) (arr : Array Value) (harr : arr.toList = vs ++ rest.toList) :
    ∃ B', Step X m μ B w [(d, some (.ar cs))] (upd μ d (some (w.heap.size, 0, cs.length))) B' (w.drew.alloc (.cells arr e)) ∧
      ∀ j, j < arr.size → ((w.drew.alloc (.cells arr e)).cell? ⟨w.heap.size, 0 + j, none⟩).isSome = true := by
  obtain ⟨g1, g2, g3, g4⟩ := newRow_facts w.drew arr e (by rw [harr]; exact one_app hone hrest)
  have h5 := hsb.create hd hp (w' := w.drew.alloc (.cells arr e)) g1 g2 rfl rfl rfl (.ar cs) cs vs (.inr ⟨rfl, hr⟩) (by
    have := g3.take vs.length
    rw [harr, List.take_left] at this
    exact this) g4
  exact ⟨_, h5, fun j hj => g3.ex (j := j) (by simpa using hj)⟩
theorem zeroCells_one {z : Array Value} (h : ∀ v ∈ z.toList, v.oneCell' = true) (n : Nat) : ∀ v ∈ (Builtin.zeroCells z n).toList, v.oneCell' = true := by
  rw [zeroCells_eq]
  refine made_one h _ ?_
  rcases Nat.eq_zero_or_pos z.size with h0 | h0
  · right; rw [h0]; simp
  · exact .inl h0
theorem elem_info (hT : TOk P T) {t e : TypeId} (ht : (T t).d = .slice e) : P.underlying t = some (.slice e) ∧ isOther (T e).d = false ∧ TyOk P T e ∧
    ∃ i z, P.info? e = some i ∧ i.zero = some z ∧ i.size = (T e).size ∧ i.bytes = (T e).bytes ∧ 0 < i.bytes ∧ z.cells.toList = (T e).zero.map zval ∧ z.cells.size = i.size ∧ (∀ v ∈ z.cells.toList, v.oneCell' = true) := by
  have hu := (hT t (by rw [ht]; rfl)).und
  rw [ht] at hu
  have he := hT e hu.2
  obtain ⟨i, k1, k2, k3, z, k4, k5⟩ := he.info
  refine ⟨hu.1, hu.2, he, i, z, k1, k4, k2, k3, by rw [k3]; exact he.byt, k5, ?_, by rw [k5]; exact zeros_one he.zero⟩
  rw [← Array.length_toList, k5, List.length_map, he.len, k2]
set_option maxHeartbeats 1000000 in
theorem append_sound (hT : TOk P T) (hsb : SB X m μ B w) {d : Nat} (hd : μ d = none) (hp : isPar d = false) {t u e ty : TypeId} (ht : (T t).d = .slice e) {dd : D} (hud : UndOk P T u dd) {s y : V} {vs vy : Value}
    {K : V → Eff → Prop} (h : appendSem d (T e) (lkm m) dd s y K) (hs : RelV B w μ s vs) (hy : RelV B w μ y vy) :
    ∃ v' w', (Builtin.append_ #[t, u] ty #[vs, vy]).run P w = .ok v' w' ∧ Out X m μ B w K v' w' := by
  obtain ⟨hu, ho, he, i, z, hi, hz, hsize, hbytes, hb0, hzc, hzs, hz1⟩ := elem_info hT ht
  obtain ⟨ys, cnt, ud, hA, huu, hui, hlen, news, hnr, hn1, hfc⟩ := src_sound hsb hud h hy
  clear h
  -- growth to a new block
  have grow : ∀ (m' : Nat → Option Bx) (a : Option Addr) (n cap : Nat) (cs : List L) (olds : List Value) (ef0 : Eff), SB X m' μ B w → Rels B w noMu cs olds → (∀ v ∈ olds, v.oneCell' = true) → cs.length = n * (T e).size → ys.length = cnt * (T e).size →
      (Builtin.firstCells i.size n (.slice a n cap)).run P w.drew = .ok ⟨olds⟩ w.drew → cap < n + cnt → (n + cnt) * (T e).bytes ≤ 140737488355328 →
      ∃ v' w', (Builtin.append_ #[t, u] ty #[.slice a n cap, vy]).run P w = .ok v' w' ∧ ∃ μ' B', Step X m' μ B w [(d, some (.ar (cs ++ ys)))] μ' B' w' ∧ RelV B' w' μ' (.c (.o (.gw d (n + cnt) (T e).size))) v' := by
    intro m' a n cap cs olds ef0 hsb' hor ho1 hcl hyl hfo hg hby
    have run := app_grow (P := P) (w := w) (ty := ty) hu huu hui hi hz hb0 (hlen w) hfo (hfc i.size w.drew rfl (by rw [hsize]; exact hyl)) hg (by rw [hbytes]; exact hby)
    obtain ⟨B', k1, k2⟩ := grow_sound hsb' hd hp (hor.append hnr) (one_app ho1 hn1)
      (Builtin.zeroCells z.cells (grownCap w (n + cnt) cap e - (n + cnt))) (zeroCells_one hz1 _) e (olds.toArray ++ news.toArray ++ Builtin.zeroCells z.cells (grownCap w (n + cnt) cap e - (n + cnt))) (by simp)
    refine ⟨_, _, run, _, B', k1, ?_⟩
    have hcl2 : (cs ++ ys).length = (n + cnt) * (T e).size := by rw [List.length_append, hcl, hyl, Nat.add_mul]
    have hge := grownCap_ge w (n + cnt) cap e
    refine RelL.gw (by simp only [upd, if_true, hcl2]) hge fun j hj => k2 j ?_
    have e1 : olds.length = n * (T e).size := by rw [← hor.1, hcl]
    have e2 : news.length = cnt * (T e).size := by rw [← hnr.1, hyl]
    have e3 : (Builtin.zeroCells z.cells (grownCap w (n + cnt) cap e - (n + cnt))).size = (grownCap w (n + cnt) cap e - (n + cnt)) * (T e).size := by
      rw [zeroCells_eq, size_madeCells, hzs, hsize]
    simp only [Array.size_append, List.size_toArray, e1, e2, e3]
    rw [← Nat.add_mul, ← Nat.add_mul]
    have : n + cnt + (grownCap w (n + cnt) cap e - (n + cnt)) = grownCap w (n + cnt) cap e := by omega
    rw [this]; exact hj
  have nilOld : ∀ (a : Option Addr) (cap : Nat) (w' : World), (Builtin.firstCells i.size 0 (.slice a 0 cap)).run P w' = .ok ⟨[]⟩ w' := by
    intro a cap w'
    cases a with
    | none => rfl
    | some a => simp [Builtin.firstCells, loadCells, loadCellsFrom]
  have relsNil : Rels B w noMu [] [] := ⟨rfl, fun j l v h => by simp at h⟩
  match s, hA, hs with
  | .c (.o l), h, hs =>
    change RelL B w μ l vs at hs
    cases hs with
    | nl =>
      obtain ⟨⟨hby, hyl⟩, hk⟩ := h
      by_cases hc : cnt = 0
      · subst hc
        have hys : ys = [] := List.eq_nil_of_length_eq_zero (by simpa using hyl)
        subst hys
        have hnn : news = [] := List.eq_nil_of_length_eq_zero (by simpa using hnr.1.symm)
        subst hnn
        refine ⟨_, _, app_none hu huu hui hi (hlen w) (hfc _ w rfl (by simp)), _, _, _, _, hk, hsb.createNil hd hp, ?_⟩
        exact RelL.gw0 (by simp [upd])
      · obtain ⟨v', w', k1, μ', B', k2, k3⟩ := grow m none 0 0 [] [] [] hsb relsNil (by simp) (by simp) hyl (nilOld none 0 _) (by omega) (by simpa using hby)
        simp only [List.nil_append, Nat.zero_add] at k2 k3
        exact ⟨v', w', k1, _, _, μ', B', hk, k2, k3⟩
    | gw0 h1 =>
      rename_i id sz a
      obtain ⟨bx, hbx, h⟩ := h
      cases bx with
      | ar cs =>
        obtain ⟨hpz, ⟨hby, hyl⟩, ⟨hk⟩⟩ := cond_false h
        have hcs : cs = [] := by
          rcases hsb.box id _ hbx with ⟨_, h⟩ | ⟨b, o, k1, _⟩
          · exact h
          · rw [h1] at k1; cases k1
        subst hcs
        have hdrop := hsb.drop id
        by_cases hc : cnt = 0
        · subst hc
          have hys : ys = [] := List.eq_nil_of_length_eq_zero (by simpa using hyl)
          subst hys
          have hnn : news = [] := List.eq_nil_of_length_eq_zero (by simpa using hnr.1.symm)
          subst hnn
          refine ⟨_, _, app_none hu huu hui hi (hlen w) (hfc _ w rfl (by simp)), _, _, _, _, hk, hdrop.trans (hdrop.sb.createNil hd hp), ?_⟩
          exact RelL.gw0 (by simp [upd])
        · obtain ⟨v', w', k1, μ', B', k2, k3⟩ := grow _ a 0 0 [] [] [] hdrop.sb relsNil (by simp) (by simp) hyl (nilOld a 0 _) (by omega) (by simpa using hby)
          exact ⟨v', w', k1, _, _, μ', B', hk, hdrop.trans k2, k3⟩
      | _ => exact False.elim h
    | gw h1 hn hcap =>
      rename_i id n sz b o cap
      obtain ⟨bx, hbx, h⟩ := h
      cases bx with
      | ar cs =>
        obtain ⟨hpz, ⟨hby, hyl⟩, ⟨hk⟩⟩ := cond_false h
        simp only [Bool.or_eq_false_iff, Bool.not_eq_false'] at hpz
        have hsz : sz = (T e).size := Nat.eq_of_beq_eq_true hpz.2
        subst hsz
        have hb := hsb.box id _ hbx
        rcases hb with ⟨k1, _⟩ | ⟨b', o', k1, ⟨us, k2, k3⟩, kf, kB, klt⟩
        · rw [h1] at k1; cases k1
        · rw [h1] at k1
          simp only [Option.some.injEq, Prod.mk.injEq] at k1
          obtain ⟨rfl, rfl, hcl⟩ := k1
          by_cases hroom : n + cnt ≤ cap
          · have hex : ∀ j, j < news.length → (w.cell? ⟨b, o + n * (T e).size + j, none⟩).isSome = true := by
              intro j hj
              have := hcap (n * (T e).size + j) (by
                have e1 : news.length = cnt * (T e).size := by rw [← hnr.1, hyl]
                have e2 : (n + cnt) * (T e).size ≤ cap * (T e).size := Nat.mul_le_mul_right _ hroom
                rw [Nat.add_mul] at e2
                omega)
              rwa [← Nat.add_assoc] at this
            have run := app_room (P := P) (w := w) (ty := ty) (o := o) (sLen := n) hu huu hui hi (hlen w) (hfc i.size w rfl (by rw [hsize]; exact hyl)) hroom (by rw [hsize]; exact hex) kf hn1
            rw [hsize] at run
            have hst := hsb.appendIn (d := d) hbx (by rw [h1, ← hcl]) hpz.1 hd hp 0 cs.length news ys (by omega) hnr (by rw [← hcl]; simpa using hex) hn1
            rw [List.drop_zero, List.take_length, Nat.add_zero, ← hcl] at hst
            refine ⟨_, _, run, _, _, _, _, hk, hst, ?_⟩
            have hcl2 : (cs ++ ys).length = (n + cnt) * (T e).size := by rw [List.length_append, ← hcl, hyl, Nat.add_mul]
            refine RelL.gw (by simp only [upd, if_true, hcl2]) hroom fun j hj => ?_
            rw [ex_setCells]; exact hcap j hj
          · have hdrop := hsb.drop id
            have hfo : (Builtin.firstCells i.size n (.slice (some ⟨b, o, none⟩) n cap)).run P w.drew = .ok ⟨us⟩ w.drew :=
              run_firstCells_some (P := P) w.drew i.size n ⟨b, o, none⟩ n cap us (by rw [← k2.1, ← hcl, hsize]) (fun j v hj => by rw [add_lit]; simpa using (k3 j v hj).1)
            obtain ⟨v', w', g1, μ', B', g2, g3⟩ := grow _ (some ⟨b, o, none⟩) n cap cs us [] hdrop.sb k2 k3.one hcl.symm hyl hfo (by omega) hby
            exact ⟨v', w', g1, _, _, μ', B', hk, hdrop.trans g2, g3⟩
      | _ => exact False.elim h
    | gs0 h1 =>
      rename_i id off sz a l
      obtain ⟨bx, hbx, h⟩ := h
      cases bx with
      | ar cs =>
        obtain ⟨hpz, ⟨hby, hyl⟩, ⟨⟨⟨hk⟩⟩⟩⟩ := cond_false h
        simp only [Nat.zero_mul, List.take_zero, List.nil_append] at hk
        have hdrop := hsb.drop id
        by_cases hc : cnt = 0
        · subst hc
          have hys : ys = [] := List.eq_nil_of_length_eq_zero (by simpa using hyl)
          subst hys
          have hnn : news = [] := List.eq_nil_of_length_eq_zero (by simpa using hnr.1.symm)
          subst hnn
          refine ⟨_, _, app_none hu huu hui hi (hlen w) (hfc _ w rfl (by simp)), _, _, _, _, hk, hdrop.trans (hdrop.sb.createNil hd hp), ?_⟩
          exact RelL.gw0 (by simp [upd])
        · obtain ⟨v', w', k1, μ', B', k2, k3⟩ := grow _ a 0 0 [] [] [] hdrop.sb relsNil (by simp) (by simp) hyl (nilOld a 0 _) (by omega) (by simpa using hby)
          exact ⟨v', w', k1, _, _, μ', B', hk, hdrop.trans k2, k3⟩
      | _ => exact False.elim h
    | gs h1 hf hn hcap =>
      rename_i id off n sz b o ln cap
      obtain ⟨bx, hbx, h⟩ := h
      cases bx with
      | ar cs =>
        obtain ⟨hpz, ⟨hby, hyl⟩, ⟨⟨⟨hk⟩⟩⟩⟩ := cond_false h
        simp only [Bool.or_eq_false_iff, Bool.not_eq_false'] at hpz
        have hsz : sz = (T e).size := Nat.eq_of_beq_eq_true hpz.2
        subst hsz
        have hb := hsb.box id _ hbx
        rcases hb with ⟨k1, _⟩ | ⟨b', o', k1, ⟨us, k2, k3⟩, kf, kB, klt⟩
        · rw [h1] at k1; cases k1
        · rw [h1] at k1
          simp only [Option.some.injEq, Prod.mk.injEq] at k1
          obtain ⟨rfl, rfl, rfl⟩ := k1
          have hcl : ((cs.drop off).take (n * (T e).size)).length = n * (T e).size := by simp; omega
          by_cases hroom : n + cnt ≤ cap
          · have hex : ∀ j, j < news.length → (w.cell? ⟨b, o + off + n * (T e).size + j, none⟩).isSome = true := by
              intro j hj
              have := hcap (n * (T e).size + j) (by
                have e1 : news.length = cnt * (T e).size := by rw [← hnr.1, hyl]
                have e2 : (n + cnt) * (T e).size ≤ cap * (T e).size := Nat.mul_le_mul_right _ hroom
                rw [Nat.add_mul] at e2
                omega)
              rwa [← Nat.add_assoc] at this
            have run := app_room (P := P) (w := w) (ty := ty) (o := o + off) (sLen := n) hu huu hui hi (hlen w) (hfc i.size w rfl (by rw [hsize]; exact hyl)) hroom (by rw [hsize]; exact hex) kf hn1
            rw [hsize] at run
            have hst := hsb.appendIn (d := d) hbx h1 hpz.1 hd hp off (n * (T e).size) news ys hf hnr hex hn1
            refine ⟨_, _, run, _, _, _, _, hk, hst, ?_⟩
            have hcl2 : ((cs.drop off).take (n * (T e).size) ++ ys).length = (n + cnt) * (T e).size := by rw [List.length_append, hcl, hyl, Nat.add_mul]
            refine RelL.gw (by simp only [upd, if_true, hcl2]) hroom fun j hj => ?_
            rw [ex_setCells]; exact hcap j hj
          · have hdrop := hsb.drop id
            have hfo : (Builtin.firstCells i.size n (.slice (some ⟨b, o + off, none⟩) n cap)).run P w.drew = .ok ⟨(us.drop off).take (n * (T e).size)⟩ w.drew :=
              run_firstCells_some (P := P) w.drew i.size n ⟨b, o + off, none⟩ n cap _ (by rw [hsize, ← hcl]; have := k2.1; simp; omega) (fun j v hj => by
                rw [add_lit]
                simpa using (((k3.drop off).take (n * (T e).size)) j v hj).1)
            obtain ⟨v', w', g1, μ', B', g2, g3⟩ := grow _ (some ⟨b, o + off, none⟩) n cap _ _ [] hdrop.sb ((k2.drop off).take (n * (T e).size)) ((k3.drop off).take (n * (T e).size)).one hcl hyl hfo (by omega) hby
            exact ⟨v', w', g1, _, _, μ', B', hk, hdrop.trans g2, g3⟩
      | _ => exact False.elim h
    | _ => exact False.elim h
theorem zeroAppend_sound (hT : TOk P T) (hsb : SB X m μ B w) {d : Nat} (hd : μ d = none) (hp : isPar d = false) {t u e ty : TypeId} (ht : (T t).d = .slice e) {k : IntKind} (hud : P.underlying u = some (.int k)) {s y : V} {vs vy : Value}
    {K : V → Eff → Prop} (h : zeroAppend d (T e) s y K) (hs : RelV B w μ s vs) (hy : RelV B w μ y vy) :
    ∃ v' w', (Builtin.append_ #[t, u] ty #[vs, vy]).run P w = .ok v' w' ∧ Out X m μ B w K v' w' := by
  obtain ⟨hu, ho, he, i, z, hi, hz, hsize, hbytes, hb0, hzc, hzs, hz1⟩ := elem_info hT ht
  match s, y, h, hs, hy with
  | .c (.o .nl), .c (.o (.i k' n)), h, hs, hy =>
    obtain ⟨⟨h1, h2⟩, h⟩ := h
    rw [czK_eq] at h
    obtain ⟨h⟩ := h
    have hs : RelL B w μ .nl vs := hs
    have hy := RelL.int hy
    subst hy
    cases hs
    obtain ⟨c, rfl⟩ := Int.eq_ofNat_of_zero_le (show 0 ≤ n by omega)
    simp only [Int.toNat_natCast] at h
    have h2' : c * (T e).bytes ≤ 140737488355328 := by
      have : ((c * (T e).bytes : Nat) : Int) = (c : Int) * ((T e).bytes : Int) := by simp
      omega
    have hc1 : 1 ≤ c := by omega
    have run := app_zeros (P := P) (w := w) (ty := ty) (k' := k') (a := none) (sLen := 0) (sCap := 0) (cnt := c) (olds := []) hu hud hi hz hb0 hzs rfl (by omega) (by rw [hbytes]; simpa using h2')
    simp only [Nat.zero_add] at run
    have hlen : (T e).zero.length = (T e).size := he.len
    have hzr : Rels B w noMu ((T e).zero.map cz) z.cells.toList := by rw [hzc]; exact czero_rels he.zero
    have hr := rep_made hzr c (c * i.size) (by simp [hlen, hsize])
    have hml : (madeCells z.cells (c * i.size)).toList.length = c * i.size := by rw [Array.length_toList, size_madeCells]
    rw [List.take_of_length_le (by rw [hml, hsize]; simp [hlen])] at hr
    have hm1 : ∀ v ∈ (madeCells z.cells (c * i.size)).toList, v.oneCell' = true := by
      refine made_one hz1 _ ?_
      rcases Nat.eq_zero_or_pos z.cells.size with h0 | h0
      · right; rw [← hzs, h0]; simp
      · exact .inl h0
    obtain ⟨B', k1, k2⟩ := grow_sound hsb hd hp hr hm1 (Builtin.zeroCells z.cells (grownCap w c 0 e - c)) (zeroCells_one hz1 _) e ([].toArray ++ madeCells z.cells (c * i.size) ++ Builtin.zeroCells z.cells (grownCap w c 0 e - c)) (by simp)
    refine ⟨_, _, run, _, _, _, B', h, k1, ?_⟩
    have hcl2 : (rep ((T e).zero.map cz) c).length = c * (T e).size := by rw [rep_length]; simp [hlen]
    have hge := grownCap_ge w c 0 e
    refine RelL.gw (by simp only [upd, if_true, hcl2]) hge fun j hj => k2 j ?_
    have e3 : (Builtin.zeroCells z.cells (grownCap w c 0 e - c)).size = (grownCap w c 0 e - c) * (T e).size := by
      rw [zeroCells_eq, size_madeCells, hzs, hsize]
    simp only [Array.size_append, List.size_toArray, List.length_nil, Nat.zero_add, size_madeCells, e3, hsize]
    rw [← Nat.add_mul]
    have : c + (grownCap w c 0 e - c) = grownCap w c 0 e := by omega
    rw [this]; exact hj
end
end Go.Sx

/-
  The shadow machine: states, operations, and what each operation does to a shadow state. Definitions.
-/
import Derived.Test.YtfcjkchpldfamaaSh1
namespace Go.Proofs.Ytfcjkchpldfamaa
set_option linter.unusedSimpArgs false
set_option linter.unusedVariables false
open Go.RowKit

/-- A part of one's own memory. -/
inductive Ob where
  | box (t : TypeId) (cs : List Sh)
  | row (e : TypeId) (k : Nat) (es : List (List Sh))
  | map (kt : TypeId) (N : Nat) (f : Int → Option Sh)
  | iter (f : Int → Option Sh) (left : Int → Bool) (cnt : Nat) (cur : Option (Int × Sh))
  | frz (x : Sh)
def Ob.live : Ob → Bool
  | .frz _ => false
  | _ => true

/-- A state: what the slots mean, one's own memory, the next free number. -/
structure St where
  T : List (Nat × Sh)
  O : List (Nat × Ob)
  n : Nat

section
variable {α : Type}
def getA : List (Nat × α) → Nat → Option α
  | [], _ => none
  | (k, x) :: l, i => if k = i then some x else getA l i
def delA : List (Nat × α) → Nat → List (Nat × α)
  | [], _ => []
  | (k, x) :: l, i => if k = i then delA l i else (k, x) :: delA l i
theorem getA_delA_self (l : List (Nat × α)) (i : Nat) : getA (delA l i) i = none := by
  induction l with
  | nil => rfl
  | cons p l ih => obtain ⟨k, x⟩ := p; unfold delA; split; exact ih; (rename_i h; simp only [getA, if_neg h]; exact ih)
theorem getA_delA_other (l : List (Nat × α)) {i j : Nat} (h : i ≠ j) : getA (delA l i) j = getA l j := by
  induction l with
  | nil => rfl
  | cons p l ih =>
    obtain ⟨k, x⟩ := p
    unfold delA
    split
    · rename_i hk; subst hk; rw [ih]; simp only [getA, if_neg h]
    · simp only [getA, ih]
theorem getA_put (l : List (Nat × α)) (i j : Nat) (x : α) : getA ((i, x) :: delA l i) j = if i = j then some x else getA l j := by
  simp only [getA]
  split
  · rfl
  · rename_i h; exact getA_delA_other l h
def oB (o : Option α) (k : α → Prop) : Prop := match o with | some x => k x | none => False
theorem oB_some (x : α) (k : α → Prop) : oB (some x) k = k x := rfl
theorem oB_elim {o : Option α} {k : α → Prop} (h : oB o k) : ∃ x, o = some x ∧ k x := by
  cases o with
  | none => exact h.elim
  | some x => exact ⟨x, rfl, h⟩
end

def St.put (S : St) (d : Nat) (x : Sh) : St := ⟨(d, x) :: delA S.T d, S.O, S.n⟩
def St.put? (S : St) (d : Option Nat) (x : Sh) : St := match d with | some d => S.put d x | none => S
def St.setO (S : St) (i : Nat) (o : Ob) : St := ⟨S.T, (i, o) :: delA S.O i, S.n⟩
def St.newO (S : St) (o : Ob) : St := ⟨S.T, (S.n, o) :: S.O, S.n + 1⟩

def St.res (S : St) : Sh → Sh
  | .v x => .v x
  | .agg cs => .agg cs
  | .tup cs => .tup cs
  | .sl k g es => .sl k g es
  | .mp kt f => .mp kt f
  | .fn f a b => .fn f a b
  | .ifc t x => .ifc t x
  | .fp e o => .fp e o
  | .any => .any
  | .own i => match getA S.O i with | some (.frz x) => x | _ => .own i
  | .ptr i idx off => match getA S.O i with | some (.frz (.fp e 0)) => .fp e off | _ => .ptr i idx off
def St.opd (S : St) : Operand → Option Sh
  | .tmp t => (getA S.T t).map S.res
  | .const v => if v.oneCell' then some (.v v) else none
  | .func f => some (.fn (.func f) [] [])
  | .global _ => none
/-- A pure shadow of the same value: what may be handed on. -/
def St.arg1 (S : St) (x : Sh) : Option Sh := let y := S.res x; if y.pure then some y else none
def St.argL (S : St) : List Sh → Option (List Sh)
  | [] => some []
  | x :: l => (S.arg1 x).bind fun y => (S.argL l).map (y :: ·)
def St.arg (S : St) : Sh → Option Sh
  | .agg cs => (S.argL cs).map .agg
  | .v x => some (.v x)
  | .tup _ => none
  | .sl k g es => some (.sl k g es)
  | .mp kt f => some (.mp kt f)
  | .fn f a b => some (.fn f a b)
  | .ifc t x => some (.ifc t x)
  | .fp e o => some (.fp e o)
  | .any => some .any
  | .own i => S.arg1 (.own i)
  | .ptr i idx off => S.arg1 (.ptr i idx off)
def St.args (S : St) : List Operand → Option (List Sh)
  | [] => some []
  | x :: l => ((S.opd x).bind S.arg).bind fun y => (S.args l).map (y :: ·)
def Sh.cells : Sh → List Sh
  | .agg cs => cs
  | .v x => [.v x]
  | .tup l => [.tup l]
  | .sl k g es => [.sl k g es]
  | .mp kt f => [.mp kt f]
  | .fn f a b => [.fn f a b]
  | .ifc t x => [.ifc t x]
  | .fp e o => [.fp e o]
  | .any => [.any]
  | .own i => [.own i]
  | .ptr i idx off => [.ptr i idx off]
/-- What a pointer points at: the cells of the whole, and the place. -/
def St.at (S : St) : Sh → Option (List Sh × Nat)
  | .ptr i idx off => match getA S.O i with
    | some (.box _ cs) => some (cs, off)
    | some (.row _ _ es) => (es[idx]?).map fun e => (e, off)
    | _ => none
  | .fp e off => some (e, off)
  | _ => none
/-- One part of a row of cells. -/
def cut (cs : List Sh) (off : Nat) (ag : Option Nat) (k : Sh → Prop) : Prop :=
  match ag with
  | some n => off + n ≤ cs.length ∧ k (.agg ((cs.drop off).take n))
  | none => oB cs[off]? k

inductive ZSh where
  | int (k : IntKind) | bool | sl (k : Nat) | mp (kt : TypeId) | nilFunc | nilIface | nilPtr
def ZSh.sh : ZSh → Sh
  | .int k => .v (.int k 0)
  | .bool => .v (.bool false)
  | .sl k => .sl k 0 []
  | .mp kt => .mp kt fun _ => none
  | .nilFunc => .v .nilFunc
  | .nilIface => .v .nilIface
  | .nilPtr => .v (.pointer none)
def ZSh.val : ZSh → Value
  | .int k => .int k 0
  | .bool => .bool false
  | .sl _ => .slice none 0 0
  | .mp _ => .map none
  | .nilFunc => .nilFunc
  | .nilIface => .nilIface
  | .nilPtr => .pointer none

inductive SOp where
  | mv (x : Operand)
  | ld (x : Operand) (ag : Option Nat)
  | fa (x : Operand) (off : Nat)
  | fld (x : Operand) (off : Nat) (ag : Option Nat)
  | ixa (x i : Operand) (k : Nat)
  | ixp (x i : Operand) (k n : Nat)
  | bld (zs : List ZSh) (ps : List (Nat × Nat × Operand))
  | bsl (k : Nat) (xs : List Operand)
  | slc (k : Nat) (x : Operand) (lo hi mx : Option Operand)
  | len (x : Operand)
  | lenm (kt : TypeId) (x : Operand)
  | lkp (kt : TypeId) (m key : Operand) (z : ZSh) (ok : Bool)
  | ext (x : Operand) (i : Nat)
  | bin (op : BinOp) (x y : Operand)
  | eqv (neg : Bool) (t : TypeId) (x y : Operand)
  | not (x : Operand)
  | cnv (k : IntKind) (x : Operand)
  | call (f : FuncId) (xs : List Operand)
  | callv (x : Operand) (xs : List Operand)
  | mkf (f : Fn) (first cap : List Operand)
  | mki (t : TypeId) (x : Operand)
  | pick (c a b : Operand)
  | mm (max : Bool) (x y : Operand)
  | nck (x : Operand)
  | mks (n : Operand) (e : TypeId) (k bytes : Nat) (zs : List ZSh)
  | mkm (t kt : TypeId)
  | app (x y : Operand) (e : TypeId) (k bytes : Nat)
  | alc (t : TypeId) (zs : List ZSh)
  | box (t : TypeId) (x : Operand)
  | st (k : Nat) (x y : Operand)
  | cpy (x y : Operand) (k : Nat)
  | mup (kt : TypeId) (m key x : Operand)
  | del (kt : TypeId) (m key : Operand)
  | rng (kt : TypeId) (x : Operand)
  | nxt (x : Operand)
  | ent (x : Operand)

/-- A call of f at these shadows returns what r shadows. -/
def Ok (f : FuncId) (args : List Sh) (r : Sh) : Prop :=
  ∀ (w : World) (H : Hp) (vs : List Value), Sub H w → RepL H E0 args vs → Ret Try.prog f vs.toArray w H (fun v : Value => v) (fun v H' => Rep H' E0 r v)
def RowPost (w : World) (H : Hp) (e : TypeId) (k : Nat) (es : List (List Sh)) (en : Ending) (w' : World) : Prop :=
  ∃ v xs, en = .returned v ∧ Grow w H w' H ∧ 0 < k ∧ w'.ownsRow w.heap.size e k v es.length xs ∧ RepEs H k es xs ∧ (es = [] → ∃ a, v = .slice a 0 0)
/-- .. what it returns is a new row that nobody else knows. -/
def OkRow (f : FuncId) (args : List Sh) (e : TypeId) (k : Nat) (es : List (List Sh)) : Prop :=
  ∀ (w : World) (H : Hp) (vs : List Value), Sub H w → RepL H E0 args vs → Calls Try.prog f vs.toArray w (RowPost w H e k es)
def MapPost (w : World) (H : Hp) (kt : TypeId) (M : Nat) (f : Int → Option Sh) (en : Ending) (w' : World) : Prop :=
  ∃ v, en = .returned v ∧ Grow w H w' H ∧ ((v = .map none ∧ ∀ i, f i = none) ∨ ∃ b o F, v = .map (some b) ∧ w.heap.size ≤ b ∧ w'.heap[b]? = some o ∧ MapOf kt o M F ∧ M ≤ 1000000 ∧ (∀ j, f j = none ↔ F j = none) ∧ (∀ j s u, f j = some s → F j = some u → Rep H E0 s u))
/-- .. what it returns is a new map that nobody else knows, or none where the map is empty. -/
def OkMap (f : FuncId) (args : List Sh) (kt : TypeId) (M : Nat) (g : Int → Option Sh) : Prop :=
  ∀ (w : World) (H : Hp) (vs : List Value), Sub H w → RepL H E0 args vs → Calls Try.prog f vs.toArray w (MapPost w H kt M g)
/-- A call of f is a call of Go code. -/
def Enters (f : FuncId) : Prop := ∀ args w, (callFunc f args).run Try.prog w = .ok (.enter f args) w
/-- Two values of type t, as shadows, compare to b. -/
def EqSh (t : TypeId) (x y : Sh) (b : Bool) : Prop :=
  ∀ (H : Hp) (E : Env) (w : World) (u1 u2 : Value) (o1 o2 : Operand), Sub H w → Rep H E x u1 → Rep H E y u2 →
    ((do eqGuard .eql t o1 o2 u1 u2; binOp .eql t u1 u2 : Sem Value)).run Try.prog w = .ok (.bool b) w ∧ ((do eqGuard .neq t o1 o2 u1 u2; binOp .neq t u1 u2 : Sem Value)).run Try.prog w = .ok (.bool !b) w

def intBin (op : BinOp) (k : IntKind) (a b : Int) : Option Value :=
  match op with
  | .add => some (.int k (k.wrap (a + b)))
  | .sub => some (.int k (k.wrap (a - b)))
  | .mul => some (.int k (k.wrap (a * b)))
  | .quo => if b = 0 then none else some (.int k (k.wrap (a.tdiv b)))
  | .rem => if b = 0 then none else some (.int k (a.tmod b))
  | .eql => some (.bool (a == b))
  | .neq => some (.bool (a != b))
  | .lss => some (.bool (a < b))
  | .leq => some (.bool (a ≤ b))
  | .gtr => some (.bool (b < a))
  | .geq => some (.bool (b ≤ a))
  | _ => none

def pickO (bb : Bool) (x y : Option Sh) : Option Sh :=
  match x, y with
  | some (.v (.bool p)), some (.v (.bool q)) => some (.v (.bool (if bb = true then p else q)))
  | _, _ => if bb = true then x else y
theorem pickO_spec {bb : Bool} {x y : Option Sh} {r : Sh} (h : pickO bb x y = some r) : (bb = true → x = some r) ∧ (bb = false → y = some r) := by
  unfold pickO at h
  split at h
  · cases h
    exact ⟨fun e => by rw [if_pos e], fun e => by subst e; rfl⟩
  · split at h
    · rename_i e; exact ⟨fun _ => h, fun e' => by rw [e] at e'; cases e'⟩
    · rename_i e; exact ⟨fun e' => absurd e' e, fun _ => h⟩
def fillS (S : St) : List Sh → List (Nat × Nat × Operand) → Option (List Sh)
  | cs, [] => some cs
  | cs, (off, sz, x) :: r => (S.opd x).bind fun s => if s.cells.length = sz ∧ off + sz ≤ cs.length ∧ s.cells.all Sh.one = true then fillS S (cs.take off ++ s.cells ++ cs.drop (off + sz)) r else none
def St.elems (S : St) (k : Nat) : List Operand → Option (List (List Sh))
  | [] => some []
  | x :: l => ((S.opd x).bind S.arg).bind fun y => if y.cells.length = k ∧ y.cells.all Sh.one = true ∧ y.cells.all Sh.pure = true then (S.elems k l).map (y.cells :: ·) else none

/-- What is known of the capacity behind a slicing. -/
def slG (g : Nat) (lo hi : Option Operand) : Nat :=
  match hi with
  | none => if g = 1 then 1 else (match lo with | none => g | _ => 2)
  | some _ => 2
def St.optInt (S : St) (d : Int) : Option Operand → Option Int
  | none => some d
  | some o => (S.opd o).bind fun j => match j with | .v (.int _ n) => some n | _ => none

/-- The operations that write nothing of one's own. -/
def evA (op : SOp) (S : St) (k : Sh → Prop) : Prop :=
  match op with
  | .mv x => oB (S.opd x) k
  | .ld x ag => oB (S.opd x) fun s => oB (S.at s) fun p => cut p.1 p.2 ag k
  | .fa x off => oB (S.opd x) fun s => match s with
    | .ptr i idx o => k (.ptr i idx (o + off))
    | .fp e o => k (.fp e (o + off))
    | _ => False
  | .fld x off ag => oB (S.opd x) fun s => match s with | .agg cs => cut cs off ag k | _ => False
  | .ixa x i kk => oB (S.opd x) fun s => oB (S.opd i) fun j => match s, j with
    | .sl k' _ es, .v (.int _ n) => k' = kk ∧ 0 ≤ n ∧ oB es[n.toNat]? fun e => k (.fp e 0)
    | .own i', .v (.int _ n) => (match getA S.O i' with | some (.row _ k' es) => k' = kk ∧ 0 ≤ n ∧ n.toNat < es.length ∧ k (.ptr i' n.toNat 0) | _ => False)
    | _, _ => False
  | .ixp x i kk N => oB (S.opd x) fun s => oB (S.opd i) fun j => match s, j with
    | .ptr i' idx o, .v (.int _ n) => 0 ≤ n ∧ n < N ∧ k (.ptr i' idx (o + n.toNat * kk))
    | .fp e o, .v (.int _ n) => 0 ≤ n ∧ n < N ∧ k (.fp e (o + n.toNat * kk))
    | _, _ => False
  | .bld zs ps => oB (fillS S (zs.map ZSh.sh) ps) fun cs => k (.agg cs)
  | .bsl kk xs => oB (S.elems kk xs) fun es => es.length ≤ 1000000 ∧ k (.sl kk 0 es)
  | .slc k' x lo hi mx => oB (S.opd x) fun s => match s with
    | .sl kk full es => kk = k' ∧
      oB (S.optInt 0 lo) fun l =>
      oB (S.optInt es.length hi) fun h =>
      0 ≤ l ∧ l ≤ h ∧ h ≤ es.length ∧ (match mx with
        | none => k (.sl kk (slG full lo hi) ((es.take h.toNat).drop l.toNat))
        | some o => oB (S.opd o) fun j => match j with | .v (.int _ m) => m = h ∧ hi.isSome = true ∧ k (.sl kk 1 ((es.take h.toNat).drop l.toNat)) | _ => False)
    | _ => False
  | .len x => oB (S.opd x) fun s => match s with
    | .sl _ _ es => k (.v (.int .i64 es.length))
    | .own i => (match getA S.O i with | some (.row _ _ es) => k (.v (.int .i64 es.length)) | _ => False)
    | _ => False
  | .lkp kt m key z ok => oB (S.opd m) fun s => oB (S.opd key) fun j => match s, j with
    | .mp kt' f, .v (.int .i64 n) => kt' = kt ∧ -9223372036854775808 ≤ n ∧ n ≤ 9223372036854775807 ∧ k (if ok then .tup [(f n).getD z.sh, .v (.bool (f n).isSome)] else (f n).getD z.sh)
    | .own i, .v (.int .i64 n) => (match getA S.O i with | some (.map kt' _ f) => kt' = kt ∧ -9223372036854775808 ≤ n ∧ n ≤ 9223372036854775807 ∧ k (if ok then .tup [(f n).getD z.sh, .v (.bool (f n).isSome)] else (f n).getD z.sh) | _ => False)
    | _, _ => False
  | .ext x i => oB (S.opd x) fun s => match s with | .tup cs => oB cs[i]? k | _ => False
  | .bin op x y => oB (S.opd x) fun s => oB (S.opd y) fun j => match s, j with
    | .v (.int k1 a), .v (.int k2 b) => k1 = k2 ∧ oB (intBin op k1 a b) fun r => k (.v r)
    | _, _ => False
  | .eqv neg t x y => oB (S.opd x) fun s => oB (S.opd y) fun j => ∃ b, EqSh t s j b ∧ k (.v (.bool (if neg then !b else b)))
  | .not x => oB (S.opd x) fun s => match s with | .v (.bool b) => k (.v (.bool !b)) | _ => False
  | .cnv kk x => oB (S.opd x) fun s => match s with | .v (.int _ n) => k (.v (.int kk (kk.wrap n))) | _ => False
  | .call f xs => oB (S.args xs) fun l => ∃ r, Ok f l r ∧ k r
  | .callv x xs => oB (S.opd x) fun s => oB (S.args xs) fun l => match s with | .fn (.func f) first cap => Enters f ∧ ∃ r, Ok f (first ++ l ++ cap) r ∧ k r | _ => False
  | .mkf f first cap => oB (S.args first) fun a => oB (S.args cap) fun b => k (.fn f a b)
  | .mki t x => oB ((S.opd x).bind S.arg) fun s => k (.ifc t s)
  | .pick c a b => oB (S.opd c) fun s => match s with | .v (.bool bb) => oB (pickO bb (S.opd a) (S.opd b)) k | _ => False
  | .mm mx x y => oB (S.opd x) fun s => oB (S.opd y) fun j => match s, j with
    | .v (.int k1 a), .v (.int k2 b) => k1 = k2 ∧ k (.v (.int k1 (if mx then max a b else min a b)))
    | _, _ => False
  | .nck x => oB (S.opd x) fun s => match s with
    | .ptr i idx o => k (.ptr i idx o)
    | .fp e o => k (.fp e o)
    | .fn (.func f) a b => k (.fn (.func f) a b)
    | _ => False
  | .mks n _ kk bytes zs => oB (S.opd n) fun s => match s with
    | .v (.int _ m) => 0 ≤ m ∧ m ≤ 1000000 ∧ m.toNat * bytes ≤ 140737488355328 ∧ k (.sl kk 0 (List.replicate m.toNat (zs.map ZSh.sh)))
    | _ => False
  | .mkm _ kt => k (.mp kt fun _ => none)
  | .app x y _ kk bytes => oB (S.opd x) fun s => oB (S.opd y) fun j => match s, j with
    | .sl k1 full xs, .sl k2 _ ys => k1 = kk ∧ k2 = kk ∧ (full = 1 ∨ (full = 0 ∧ xs = [])) ∧ (xs = [] ∨ 0 < ys.length) ∧ xs.length + ys.length ≤ 1000000 ∧ (xs.length + ys.length) * bytes ≤ 140737488355328 ∧ k (.sl kk 0 (xs ++ ys))
    | _, _ => False
  | _ => False

/-! ### One's own memory -/
/-- A row, a map is handed over: nobody writes it any more. -/
def St.frzRow (S : St) (i : Nat) : St :=
  match getA S.O i with
  | some (.row _ k es) => S.setO i (.frz (.sl k 0 es))
  | some (.map kt _ f) => S.setO i (.frz (.mp kt f))
  | _ => S
def St.frzCells (S : St) : List Sh → St
  | [] => S
  | .own i :: l => (S.frzRow i).frzCells l
  | .v _ :: l => S.frzCells l
  | .agg _ :: l => S.frzCells l
  | .tup _ :: l => S.frzCells l
  | .sl .. :: l => S.frzCells l
  | .mp .. :: l => S.frzCells l
  | .fn .. :: l => S.frzCells l
  | .ifc .. :: l => S.frzCells l
  | .fp .. :: l => S.frzCells l
  | .any :: l => S.frzCells l
  | .ptr .. :: l => S.frzCells l
def St.frzBox (S : St) (i : Nat) : St :=
  match getA S.O i with
  | some (.box _ cs) => match (S.frzCells cs).argL cs with
    | some ys => (S.frzCells cs).setO i (.frz (.fp ys 0))
    | none => S.frzCells cs
  | _ => S
def St.frzSh (S : St) : Sh → St
  | .own i => S.frzRow i
  | .ptr i _ _ => S.frzBox i
  | .agg cs => S.frzCells cs
  | .v _ | .tup _ | .sl .. | .mp .. | .fn .. | .ifc .. | .fp .. | .any => S
def St.frzOpds (S : St) : List Operand → St
  | [] => S
  | x :: l => match S.opd x with
    | some s => (S.frzSh s).frzOpds l
    | none => S.frzOpds l
def SOp.pures : SOp → List Operand
  | .call _ xs | .callv _ xs | .bsl _ xs => xs
  | .mki _ x | .slc _ x _ _ _ | .mup _ _ _ x | .rng _ x => [x]
  | .app _ y _ _ _ => [y]
  | .mkf _ a b => a ++ b
  | .mv _ => []
  | .ld .. => []
  | .fa .. => []
  | .fld .. => []
  | .ixa .. => []
  | .ixp .. => []
  | .bld .. => []
  | .len _ => []
  | .lenm .. => []
  | .lkp .. => []
  | .ext .. => []
  | .bin .. => []
  | .eqv .. => []
  | .not _ => []
  | .cnv .. => []
  | .pick .. => []
  | .mm .. => []
  | .nck _ => []
  | .mks .. => []
  | .mkm .. => []
  | .del .. => []
  | .nxt _ => []
  | .ent _ => []
  | .st .. => []
  | .cpy .. => []
  | .alc .. => []
  | .box .. => []

/-- A nil slice is taken for an empty slice of k cells an element or, where an element type is named, for an empty row of one's own. -/
inductive Cst where
  | slot (t : Nat) (e : Option TypeId) (k : Nat)
  | cell (i c : Nat) (e : Option TypeId) (k : Nat)
  | any (t : Nat)
  | anyc (t c : Nat)
def nilS : Sh → Bool
  | .v (.slice none 0 0) => true
  | .sl _ 0 [] => true
  | _ => false
def St.cast (S : St) : Cst → St
  | .slot t e k => match getA S.T t with
    | some x => if (nilS x && decide (0 < k)) = true then (match e with | none => S.put t (.sl k 0 []) | some e => (S.newO (.row e k [])).put t (.own S.n)) else S
    | none => S
  | .cell i c e k => match getA S.O i with
    | some (.box bt cs) => match cs[c]? with
      | some x => if (nilS x && decide (0 < k)) = true then (match e with | none => S.setO i (.box bt (cs.set c (.sl k 0 []))) | some e => (S.newO (.row e k [])).setO i (.box bt (cs.set c (.own S.n)))) else S
      | none => S
    | _ => S
  | .any t => match getA S.T t with
    | some x => if x.one = true then S.put t .any else S
    | none => S
  | .anyc t c => match getA S.T t with
    | some (.agg cs) => S.put t (.agg (cs.set c .any))
    | _ => S
def St.casts (S : St) : List Cst → St
  | [] => S
  | c :: l => (S.cast c).casts l

/-- A call: what it returns means r, or is a new row, or a new map. -/
def evCall (f : FuncId) (xs : List Operand) (S : St) (d : Option Nat) (K : St → Prop) : Prop :=
  (evA (.call f xs) S fun s => K (S.put? d s)) ∨ oB (S.args xs) fun l => (∃ e k es, OkRow f l e k es ∧ K ((S.newO (.row e k es)).put? d (.own S.n))) ∨ ∃ kt M g, OkMap f l kt M g ∧ K ((S.newO (.map kt M g)).put? d (.own S.n)) ∧ ((∀ i, g i = none) → K (S.put? d (.v (.map none))))
/-- .. of which less is told. -/
def evCallC (f : FuncId) (xs : List Operand) (S0 : St) (d : Option Nat) (K : St → Prop) : Prop := ∃ cs, evCall f xs ((S0.casts cs).frzOpds xs) d K

/-- One operation in a list that is gone through in its order. -/
def evOp (d : Option Nat) (op : SOp) (S0 : St) (K : St → Prop) : Prop :=
  let S := S0.frzOpds op.pures
  match op with
  | .alc t zs => K ((S.newO (.box t (zs.map ZSh.sh))).put? d (.ptr S.n 0 0))
  | .box t x => oB (S.opd x) fun s => s.cells.all Sh.one = true ∧ K ((S.newO (.box t s.cells)).put? d (.ptr S.n 0 0))
  | .st k x y => d = none ∧ oB (S.opd x) fun s => oB (S.opd y) fun v => match s with
    | .ptr i idx off => (match getA S.O i with
      | some (.box t cs) => v.cells.length = k ∧ v.cells.all Sh.one = true ∧ off + k ≤ cs.length ∧ K (S.setO i (.box t (cs.take off ++ v.cells ++ cs.drop (off + k))))
      | some (.row _ _ _) => oB ((S.frzSh v).arg v) fun v' => v'.cells.length = k ∧ v'.cells.all Sh.one = true ∧ v'.cells.all Sh.pure = true ∧
          (match getA (S.frzSh v).O i with
            | some (.row e kk es) => oB es[idx]? fun c => off + k ≤ c.length ∧ K ((S.frzSh v).setO i (.row e kk (es.set idx (c.take off ++ v'.cells ++ c.drop (off + k)))))
            | _ => False)
      | _ => False)
    | _ => False
  | .mks n e kk bytes zs => oB (S.opd n) fun s => match s with
    | .v (.int _ m) => 0 ≤ m ∧ m ≤ 1000000 ∧ m.toNat * bytes ≤ 140737488355328 ∧ K ((S.newO (.row e kk (List.replicate m.toNat (zs.map ZSh.sh)))).put? d (.own S.n))
    | _ => False
  | .mkm _ kt => K ((S.newO (.map kt 0 fun _ => none)).put? d (.own S.n))
  | .app x y e kk bytes => oB (S.opd x) fun s => oB (S.opd y) fun v => match s, v with
    | .own i, .sl k2 _ ys => (match getA S.O i with
      | some (.row e' k1 es) => e' = e ∧ k1 = kk ∧ k2 = kk ∧ es.length + ys.length ≤ 1000000 ∧ (es.length + ys.length) * bytes ≤ 140737488355328 ∧
          K ((St.newO ⟨S.T, delA S.O i, S.n⟩ (.row e kk (es ++ ys))).put? d (.own S.n))
      | _ => False)
    | .sl k1 full es, .sl k2 _ ys => k1 = kk ∧ k2 = kk ∧ (full = 1 ∨ (full = 0 ∧ es = [])) ∧ (es = [] ∨ 0 < ys.length) ∧ es.length + ys.length ≤ 1000000 ∧ (es.length + ys.length) * bytes ≤ 140737488355328 ∧ K ((S.newO (.row e kk (es ++ ys))).put? d (.own S.n))
    | _, _ => False
  | .cpy x y kk => oB (S.opd x) fun s => oB (S.opd y) fun v => match s, v with
    | .own i, .sl k2 _ ys => (match getA S.O i with
      | some (.row e k1 es) => k1 = kk ∧ k2 = kk ∧ K ((S.setO i (.row e kk (ys.take es.length ++ es.drop ys.length))).put? d (.v (.int .i64 (min ys.length es.length : Nat))))
      | _ => False)
    | _, _ => False
  | .mup kt m key x => d = none ∧ oB (S.opd m) fun s => oB (S.opd key) fun j => oB ((S.opd x).bind S.arg1) fun v => match s, j with
    | .own i, .v (.int .i64 n) => (match getA S.O i with
      | some (.map kt' N f) => kt' = kt ∧ N < 1000000 ∧ -9223372036854775808 ≤ n ∧ n ≤ 9223372036854775807 ∧ (K (S.setO i (.map kt (N + 1) fun j => if j = n then some v else f j)) ∨ ∃ M : Nat, (M ≤ 1000000 ∧ ∀ j, (if j = n then some v else f j) ≠ none → 0 ≤ j ∧ j < (M : Int)) ∧ K (S.setO i (.map kt M fun j => if j = n then some v else f j)))
      | _ => False)
    | _, _ => False
  | .call f xs => evCall f xs S d K ∨ evCallC f xs S0 d K
  | .del kt m key => oB (S.opd m) fun s => oB (S.opd key) fun j => match s, j with
    | .own i, .v (.int .i64 n) => (match getA S.O i with
      | some (.map kt' M f) => kt' = kt ∧ -9223372036854775808 ≤ n ∧ n ≤ 9223372036854775807 ∧ K ((S.setO i (.map kt M fun j => if j = n then none else f j)).put? d (.tup []))
      | _ => False)
    | .v (.map none), .v (.int .i64 n) => -9223372036854775808 ≤ n ∧ n ≤ 9223372036854775807 ∧ K (S.put? d (.tup []))
    | _, _ => False
  | .rng kt x => oB (S.opd x) fun s => match s with
    | .mp kt' f => kt' = kt ∧ ∀ cnt, K ((S.newO (.iter f (fun i => (f i).isSome) cnt none)).put? d (.own S.n))
    | _ => False
  | .nxt x => oB (S.opd x) fun s => match s with
    | .own i => (match getA S.O i with
      | some (.iter f left cnt _) => ((∀ j, left j = false) → K (S.put? d (.tup [.v (.bool false)]))) ∧
          (∀ j s c', left j = true → f j = some s → -9223372036854775808 ≤ j → j ≤ 9223372036854775807 → c' < cnt → K ((S.setO i (.iter f (fun z => left z && z != j) c' (some (j, s)))).put? d (.tup [.v (.bool true), .v (.int .i64 j), s])))
      | _ => False)
    | _ => False
  | .ent x => oB (S.opd x) fun s => match s with
    | .own i => (match getA S.O i with
      | some (.iter _ _ _ (some (j, s))) => K (S.put? d (.tup [.v (.int .i64 j), s]))
      | _ => False)
    | _ => False
  | .mv x => evA (.mv x) S fun s => K (S.put? d s)
  | .ld x ag => evA (.ld x ag) S fun s => K (S.put? d s)
  | .fa x o => evA (.fa x o) S fun s => K (S.put? d s)
  | .fld x o ag => evA (.fld x o ag) S fun s => K (S.put? d s)
  | .ixa x i k => evA (.ixa x i k) S fun s => K (S.put? d s)
  | .ixp x i k n => evA (.ixp x i k n) S fun s => K (S.put? d s)
  | .bld zs ps => evA (.bld zs ps) S fun s => K (S.put? d s)
  | .bsl k xs => evA (.bsl k xs) S fun s => K (S.put? d s)
  | .slc k x lo hi mx => evA (.slc k x lo hi mx) S fun s => K (S.put? d s)
  | .len x => evA (.len x) S fun s => K (S.put? d s)
  | .lenm kt x => oB (S.opd x) fun s => match s with
    | .mp kt' f => kt' = kt ∧ ((∀ i, f i = none) → K (S.put? d (.v (.int .i64 0)))) ∧ ∀ n : Nat, 0 < n → (∃ i, f i ≠ none) → K (S.put? d (.v (.int .i64 n)))
    | _ => False
  | .lkp kt m key z ok => evA (.lkp kt m key z ok) S fun s => K (S.put? d s)
  | .ext x i => evA (.ext x i) S fun s => K (S.put? d s)
  | .bin op x y => evA (.bin op x y) S fun s => K (S.put? d s)
  | .eqv b t x y => (evA (.eqv b t x y) S fun s => K (S.put? d s)) ∨ oB (S.opd x) fun s => oB (S.opd y) fun j => match s, j with
    | .own i, .v (.map none) => (match getA S.O i with | some (.map _ _ _) => (∃ kt e, Try.prog.underlying t = some (.map kt e)) ∧ K (S.put? d (.v (.bool b))) | _ => False)
    | _, _ => False
  | .not x => evA (.not x) S fun s => K (S.put? d s)
  | .cnv k x => evA (.cnv k x) S fun s => K (S.put? d s)
  | .callv x xs => evA (.callv x xs) S fun s => K (S.put? d s)
  | .mkf f a b => evA (.mkf f a b) S fun s => K (S.put? d s)
  | .mki t x => evA (.mki t x) S fun s => K (S.put? d s)
  | .pick c x y => evA (.pick c x y) S fun s => K (S.put? d s)
  | .mm b x y => evA (.mm b x y) S fun s => K (S.put? d s)
  | .nck x => evA (.nck x) S fun s => K (S.put? d s)

/-- An operation with its slot and its guard. -/
structure GOp where
  d : Option Nat
  g : Option (Nat × Bool)
  op : SOp
def St.del? (S : St) (d : Option Nat) : St := match d with | some d => ⟨delA S.T d, S.O, S.n⟩ | none => S
def evG (o : GOp) (S : St) (K : St → Prop) : Prop :=
  match o.g with
  | none => evOp o.d o.op S K
  | some (t, b) => oB (S.opd (.tmp t)) fun s => match s with
    | .v (.bool bb) => (bb = b → evOp o.d o.op S K) ∧ (bb = !b → K (S.put? o.d (.tup [])))
    | .tup [] => K (S.put? o.d (.tup []))
    | _ => False
def evL : List GOp → St → (St → Prop) → Prop
  | [], S, K => K S
  | o :: l, S, K => evG o S fun S' => evL l S' K

/-- A new variable and what it holds. -/
def newV (S : St) : SOp → Option (Option (TypeId × List Sh))
  | .alc t zs => some (some (t, zs.map ZSh.sh))
  | .box t x => some ((S.opd x).bind fun s => if s.cells.all Sh.one = true then some (t, s.cells) else none)
  | .mv _ => none
  | .ld .. => none
  | .fa .. => none
  | .fld .. => none
  | .ixa .. => none
  | .ixp .. => none
  | .bld .. => none
  | .bsl .. => none
  | .slc .. => none
  | .len _ => none
  | .lenm .. => none
  | .lkp .. => none
  | .ext .. => none
  | .bin .. => none
  | .eqv .. => none
  | .not _ => none
  | .cnv .. => none
  | .call .. => none
  | .callv .. => none
  | .mkf .. => none
  | .mki .. => none
  | .pick .. => none
  | .mm .. => none
  | .nck _ => none
  | .mks .. => none
  | .mkm .. => none
  | .app .. => none
  | .st .. => none
  | .cpy .. => none
  | .mup .. => none
  | .del .. => none
  | .rng .. => none
  | .nxt _ => none
  | .ent _ => none
/-- A new row. -/
def newR : SOp → Option (Operand × Operand × TypeId × Nat × Nat)
  | .alc .. => none
  | .box .. => none
  | .mv _ => none
  | .ld .. => none
  | .fa .. => none
  | .fld .. => none
  | .ixa .. => none
  | .ixp .. => none
  | .bld .. => none
  | .bsl .. => none
  | .slc .. => none
  | .len _ => none
  | .lenm .. => none
  | .lkp .. => none
  | .ext .. => none
  | .bin .. => none
  | .eqv .. => none
  | .not _ => none
  | .cnv .. => none
  | .call .. => none
  | .callv .. => none
  | .mkf .. => none
  | .mki .. => none
  | .pick .. => none
  | .mm .. => none
  | .nck _ => none
  | .mks .. => none
  | .mkm .. => none
  | .app x y e kk bytes => some (x, y, e, kk, bytes)
  | .st .. => none
  | .cpy .. => none
  | .mup .. => none
  | .del .. => none
  | .rng .. => none
  | .nxt _ => none
  | .ent _ => none
/-- A new row: something appended to nothing. -/
def rowF (S : St) (q : Operand × Operand × TypeId × Nat × Nat) (k : List (List Sh) → Prop) : Prop :=
  oB (S.opd q.1) fun s => oB (S.opd q.2.1) fun v => match s, v with
    | .sl k1 0 [], .sl k2 _ ys => k1 = q.2.2.2.1 ∧ k2 = q.2.2.2.1 ∧ ys.length ≤ 1000000 ∧ ys.length * q.2.2.2.2 ≤ 140737488355328 ∧ k ys
    | _, _ => False
/-- What comes in front in a region that draws its order: S is what may be read, F the state behind it, ts the types of the new variables. -/
def evF : List GOp → St → St → List TypeId → (St → Prop) → Prop
  | [], _, F, _, K => K F
  | o :: l, S, F, ts, K =>
    match o.g with
    | none => (match newV S o.op with
      | some p => oB p fun p => ts.contains p.1 = false ∧ evF l (S.del? o.d) ((F.newO (.box p.1 p.2)).put? o.d (.ptr F.n 0 0)) (p.1 :: ts) K
      | none => (match newR o.op with
        | some q => (evA o.op S fun s => evF l (S.put? o.d s) (F.put? o.d s) ts K) ∨ rowF S q fun es => ts.contains q.2.2.1 = false ∧ evF l (S.del? o.d) ((F.newO (.row q.2.2.1 q.2.2.2.1 es)).put? o.d (.own F.n)) (q.2.2.1 :: ts) K
        | none => evA o.op S fun s => evF l (S.put? o.d s) (F.put? o.d s) ts K))
    | some (t, b) => oB (S.opd (.tmp t)) fun s => match s with
      | .v (.bool bb) => (bb = b → evA o.op S fun s => evF l (S.put? o.d s) (F.put? o.d s) ts K) ∧ (bb = !b → evF l (S.del? o.d) (F.del? o.d) ts K)
      | _ => False

def St.frzAll (S : St) : List Sh → St
  | [] => S
  | x :: l => (S.frzSh x).frzAll l

/-- The orders in which a region may be gone through: 'flo': one that may well come first; 'step': the only one; 'alt': one or the other. -/
inductive OTr where
  | leaf
  | flo (i : Nat) (t : OTr)
  | step (i : Nat) (t : OTr)
  | alt (a b : OTr)
def evTr : OTr → List GOp → St → (St → Prop) → Prop
  | .leaf, _, S, K => K S
  | .flo i t, l, S, K => oB l[i]? fun o => evG o S fun S' => evTr t l S' K
  | .step i t, l, S, K => oB l[i]? fun o => evG o S fun S' => evTr t l S' K
  | .alt a b, l, S, K => evTr a l S K ∧ evTr b l S K
def insO (i : Nat) (o : Ob) : List (Nat × Ob) → List (Nat × Ob)
  | [] => [(i, o)]
  | (j, p) :: l => if i ≤ j then (i, o) :: (j, p) :: l else (j, p) :: insO i o l
def srtO : List (Nat × Ob) → List (Nat × Ob)
  | [] => []
  | (i, o) :: l => insO i o (srtO l)
def St.sorted (S : St) : St := ⟨S.T, srtO S.O, S.n⟩

/-- Code. 'ops': a list in its order; 'drw n': a region that draws its order, its first n operations in front. -/
inductive SC where
  | skip
  | ops (l : List GOp)
  | drw (n : Nat) (l : List GOp)
  | ord (t : OTr) (l : List GOp)
  | seq (a b : SC)
  | cond (c : Operand) (a b : SC)
  | block (id : Nat) (a : SC)
  | loop (a : SC)
  | exit (id : Nat)
  | ret
inductive Ex where
  | next
  | exit (id : Nat)
  | ret

/-- What is no longer needed is forgotten. -/
def keepT {α : Type} (l : List (Nat × α)) : List Nat → List (Nat × α)
  | [] => []
  | k :: ks => match getA l k with
    | some x => (k, x) :: keepT l ks
    | none => keepT l ks
/-- It names no part of one's own memory but these. -/
def refsC (ids : List Nat) : Sh → Bool
  | .own i => ids.contains i
  | .ptr i _ _ => ids.contains i
  | .agg _ | .tup _ => false
  | .v _ | .sl .. | .mp .. | .fn .. | .ifc .. | .fp .. | .any => true
def refsL (ids : List Nat) : List Sh → Bool
  | [] => true
  | x :: l => refsC ids x && refsL ids l
def refsOk (ids : List Nat) : Sh → Bool
  | .agg cs => refsL ids cs
  | .own i => ids.contains i
  | .ptr i _ _ => ids.contains i
  | .tup _ => false
  | .v _ | .sl .. | .mp .. | .fn .. | .ifc .. | .fp .. | .any => true
def refsT (ids : List Nat) : List (Nat × Sh) → Bool
  | [] => true
  | p :: l => refsOk ids p.2 && refsT ids l
def refsO (ids : List Nat) : List (Nat × Ob) → Bool
  | [] => true
  | (_, .box _ cs) :: l => refsL ids cs && refsO ids l
  | (_, .row ..) :: l => refsO ids l
  | (_, .map ..) :: l => refsO ids l
  | (_, .iter ..) :: l => refsO ids l
  | (_, .frz _) :: l => refsO ids l
/-- Names anew: the part that stands at place j of the list is called j. -/
def idxN : List Nat → Nat → Nat
  | [], _ => 0
  | k :: l, i => if k = i then 0 else idxN l i + 1
def renC (ids : List Nat) : Sh → Sh
  | .own i => .own (idxN ids i)
  | .ptr i a b => .ptr (idxN ids i) a b
  | .v x => .v x
  | .agg cs => .agg cs
  | .tup cs => .tup cs
  | .sl k g es => .sl k g es
  | .mp kt f => .mp kt f
  | .fn f a b => .fn f a b
  | .ifc t x => .ifc t x
  | .fp e o => .fp e o
  | .any => .any
def renSh (ids : List Nat) : Sh → Sh
  | .agg cs => .agg (cs.map (renC ids))
  | .own i => .own (idxN ids i)
  | .ptr i a b => .ptr (idxN ids i) a b
  | .v x => .v x
  | .tup cs => .tup cs
  | .sl k g es => .sl k g es
  | .mp kt f => .mp kt f
  | .fn f a b => .fn f a b
  | .ifc t x => .ifc t x
  | .fp e o => .fp e o
  | .any => .any
def renT (ids : List Nat) : List (Nat × Sh) → List (Nat × Sh)
  | [] => []
  | (t, x) :: l => (t, renSh ids x) :: renT ids l
def renOb (ids : List Nat) : Ob → Ob
  | .box t cs => .box t (cs.map (renC ids))
  | .row e k es => .row e k es
  | .map kt n f => .map kt n f
  | .iter f left cnt cur => .iter f left cnt cur
  | .frz x => .frz x
def renO (ids : List Nat) : List (Nat × Ob) → List (Nat × Ob)
  | [] => []
  | (i, o) :: l => (idxN ids i, renOb ids o) :: renO ids l
def St.keep (S : St) : Option (List Nat × Option (List Nat × Nat)) → St
  | none => S
  | some (ks, none) => ⟨keepT S.T ks, S.O, S.n⟩
  | some (ks, some (ids, n)) => if (refsT ids (keepT S.T ks) && (refsO ids (keepT S.O ids) && decide (ids.length ≤ n))) = true then ⟨renT ids (keepT S.T ks), renO ids (keepT S.O ids), n⟩ else ⟨keepT S.T ks, S.O, S.n⟩

def ev : SC → St → (Ex → St → Prop) → Prop
  | .skip, S, K => K .next S
  | .ops l, S, K => ∃ cs, evL l (S.casts cs) (K .next)
  | .drw n l, S, K => ∃ gs cs, evF (l.take n) ((S.casts cs).frzAll gs) ((S.casts cs).frzAll gs) [] fun S' => evL (l.drop n) S' (K .next)
  | .ord t l, S, K => ∃ cs S1, evTr t l (S.casts cs) (fun S' => ∃ kp, (S'.keep kp).sorted = S1) ∧ K .next S1
  | .seq a b, S, K => ev a S fun e S' => match e with | .next => ∃ ks, ev b (S'.keep ks) K | .ret => K .ret S' | .exit i => K (.exit i) S'
  | .cond c a b, S, K => oB (S.opd c) fun s => match s with | .v (.bool t) => (t = true → ev a S K) ∧ (t = false → ev b S K) | _ => False
  | .block id a, S, K => ev a S fun e S' => match e with | .exit j => if j = id then K .next S' else K (.exit j) S' | .next => K .next S' | .ret => K .ret S'
  | .loop a, S, K => ∃ (I : Nat → St → Prop) (m : Nat) (kp : Option (List Nat × Option (List Nat × Nat))) (cs : List Cst), I m ((S.casts cs).keep kp) ∧ ∀ k S1, I k S1 → ev a S1 fun e S' => match e with | .next => ∃ k' kp, k' < k ∧ I k' (S'.keep kp) | .ret => K .ret S' | .exit i => K (.exit i) S'
  | .exit id, S, K => K (.exit id) S
  | .ret, S, K => K .ret S

/-- What a function hands back. -/
inductive RV where
  | tmp (t : Nat)
  | cel (t : Nat) (ag : Option Nat)
def St.retv (S : St) : RV → Option Sh
  | .tmp t => S.opd (.tmp t)
  | .cel t ag => (S.opd (.tmp t)).bind fun p => (S.at p).bind fun q => match ag with
    | some n => if q.2 + n ≤ q.1.length then some (.agg ((q.1.drop q.2).take n)) else none
    | none => q.1[q.2]?
def St.frzRets (S : St) : List RV → St
  | [] => S
  | r :: l => match S.retv r with
    | some x => (S.frzSh x).frzRets l
    | none => S.frzRets l
def St.retL (S : St) : List RV → Option (List Sh)
  | [] => some []
  | r :: l => ((S.retv r).bind S.arg).bind fun y => (S.retL l).map (y :: ·)
def ret1 : List Sh → Sh
  | [x] => x
  | l => .tup l
def argT : Nat → List Sh → List (Nat × Sh)
  | _, [] => []
  | i, x :: l => (i, x) :: argT (i + 1) l
/-- The end of a function's body. -/
def fin (rvs : List RV) (r : Sh) (e : Ex) (S : St) : Prop :=
  match e with
  | .exit _ => False
  | _ => oB ((S.frzRets rvs).retL rvs) fun l => ret1 l = r
/-- What r' shadows, r shadows. -/
def RepLe (r' r : Sh) : Prop := ∀ (H : Hp) (v : Value), Rep H E0 r' v → Rep H E0 r v
def fin2 (rvs : List RV) (r : Sh) (e : Ex) (S : St) : Prop :=
  match e with
  | .exit _ => False
  | _ => oB ((S.frzRets rvs).retL rvs) fun l => RepLe (ret1 l) r
def evFn2 (sc : SC) (rvs : List RV) (args : List Sh) (r : Sh) : Prop := ev sc ⟨argT 0 args, [], 0⟩ (fin2 rvs r)
def evFn (sc : SC) (rvs : List RV) (args : List Sh) (r : Sh) : Prop := ev sc ⟨argT 0 args, [], 0⟩ (fin rvs r)
end Go.Proofs.Ytfcjkchpldfamaa

/-
  The shadow machine: from a function's code to the shadow code.
-/
import Derived.Test.YtfcjkchpldfamaaShG
namespace Go.Proofs.Ytfcjkchpldfamaa
set_option linter.unusedSimpArgs false
set_option linter.unusedVariables false
open Go.RowKit Go.Maps

def ZSh.isV : ZSh → Value → Bool
  | .int k, .int k' n => decide (k' = k) && decide (n = 0)
  | .bool, .bool b => !b
  | .sl _, .slice none 0 0 => true
  | .mp _, .map none => true
  | .nilFunc, .nilFunc => true
  | .nilIface, .nilIface => true
  | .nilPtr, .pointer none => true
  | _, _ => false
theorem ZSh.isV_spec {z : ZSh} {v : Value} (h : z.isV v = true) : v = z.val := by
  unfold ZSh.isV at h
  split at h <;> simp_all [ZSh.val]
def isZs : List ZSh → List Value → Bool
  | [], [] => true
  | z :: zs, v :: vs => z.isV v && isZs zs vs
  | _, _ => false
theorem isZs_spec : ∀ {zs : List ZSh} {vs : List Value}, isZs zs vs = true → vs = zs.map ZSh.val
  | [], [], _ => rfl
  | z :: zs, v :: vs, h => by
    simp only [isZs, Bool.and_eq_true] at h
    rw [ZSh.isV_spec h.1, isZs_spec h.2]; rfl
  | [], _ :: _, h => by cases h
  | _ :: _, [], h => by cases h

theorem undr_of {P : Program} (hP : P = Try.prog) {t : TypeId} {d : TypeDesc} (h : P.underlying t = some d) : Try.prog.underlying t = some d := by subst hP; exact h
theorem infr_of {P : Program} (hP : P = Try.prog) {t : TypeId} {d : TypeInfo} (h : P.info? t = some d) : Try.prog.info? t = some d := by subst hP; exact h
theorem fnr_of {P : Program} (hP : P = Try.prog) {t : FuncId} {d : Func} (h : P.funcs[t]? = some d) : Try.prog.funcs[t]? = some d := by subst hP; exact h
theorem places_of {P : Program} (hP : P = Try.prog) {fs : List Field} {places : List (Nat × Nat)} (h : fs.mapM (fun f => (P.info? f.type).map fun i => (f.offset, i.size)) = some places) :
    fs.mapM (fun f => (Try.prog.info? f.type).map fun i => (f.offset, i.size)) = some places := by subst hP; exact h
def optSub {α : Type} {p : α → Prop} : (o : Option α) → (∀ d, o = some d → p d) → Option {d : α // p d}
  | some d, h => some ⟨d, h d rfl⟩
  | none, _ => none
/-- What the types of a program's table are. -/
def undr (P : Program) (hP : P = Try.prog) (t : TypeId) : Option {d : TypeDesc // Try.prog.underlying t = some d} := optSub (P.underlying t) fun _ h => undr_of hP h
def infr (P : Program) (hP : P = Try.prog) (t : TypeId) : Option {i : TypeInfo // Try.prog.info? t = some i} := optSub (P.info? t) fun _ h => infr_of hP h
def fnr (P : Program) (hP : P = Try.prog) (f : FuncId) : Option {fn : Func // Try.prog.funcs[f]? = some fn} := optSub (P.funcs[f]?) fun _ h => fnr_of hP h

def zshL (g : TypeId → Option (List ZSh)) : List TypeId → Option (List ZSh)
  | [] => some []
  | t :: l => match g t, zshL g l with
    | some a, some b => some (a ++ b)
    | _, _ => none
def zshOf (P : Program) : Nat → TypeId → Option (List ZSh)
  | 0, _ => none
  | n + 1, t => match P.underlying t with
    | some (.int k) => some [.int k]
    | some .bool => some [.bool]
    | some (.slice e) => (P.info? e).map fun i => [.sl i.size]
    | some (.map kt _) => some [.mp kt]
    | some (.func _ _ _) => some [.nilFunc]
    | some (.interface _) => some [.nilIface]
    | some (.pointer _) => some [.nilPtr]
    | some (.struct fs) => zshL (zshOf P n) (fs.toList.map (·.type))
    | some (.array m e) => (zshOf P n e).map fun l => (List.replicate m l).flatten
    | _ => none

def opEq : Operand → Operand → Bool
  | .tmp a, .tmp b => decide (a = b)
  | .const (.int k n), .const (.int k' n') => decide (k = k') && decide (n = n')
  | _, _ => false
theorem opEq_spec {x y : Operand} (h : opEq x y = true) : x = y := by
  unfold opEq at h
  split at h <;> simp_all

theorem idxs_of {α : Type} : ∀ (l : List (Nat × α)) (j : Nat), l.map (·.1) = List.range' j l.length → l = idxs j (l.map (·.2))
  | [], j, _ => rfl
  | (i, x) :: l, j, h => by
    simp only [List.map_cons, List.length_cons, List.range'_succ, List.cons.injEq] at h
    obtain ⟨rfl, h⟩ := h
    simp only [List.map_cons, idxs]
    rw [← idxs_of l (i + 1) h]

theorem built_struct {t : TypeId} {it : TypeInfo} {fs : Array Field} {z : Value} {places : List (Nat × Nat)} (hi : Try.prog.info? t = some it) (hu : Try.prog.underlying t = some (.struct fs)) (hz : it.zero = some z)
    (hp : fs.toList.mapM (fun f => (Try.prog.info? f.type).map fun i => (f.offset, i.size)) = some places) (vals : List (Nat × Value)) : Try.prog.built t vals = Instr.fill (fun j => places[j]?) z.cells vals := by
  simp [Program.built, hi, hu, hz, hp]
theorem built_array {t e : TypeId} {it ie : TypeInfo} {m : Nat} {z : Value} (hi : Try.prog.info? t = some it) (hu : Try.prog.underlying t = some (.array m e)) (hz : it.zero = some z) (he : Try.prog.info? e = some ie) (vals : List (Nat × Value)) :
    Try.prog.built t vals = Instr.fill (fun i => some (i * ie.size, ie.size)) z.cells vals := by
  simp [Program.built, hi, hu, hz, he]

/-- The zero value of a type. -/
def zeroOf (P : Program) (hP : P = Try.prog) (t : TypeId) : Option {p : TypeInfo × Value × List ZSh // Try.prog.info? t = some p.1 ∧ p.1.zero = some p.2.1 ∧ p.2.1.cells.toList = p.2.2.map ZSh.val} :=
  match infr P hP t with
  | none => none
  | some ⟨i, hi⟩ => match hz : i.zero with
    | none => none
    | some z => match zshOf P 8 t with
      | none => none
      | some zs => if h : isZs zs z.cells.toList = true then some ⟨(i, z, zs), hi, hz, isZs_spec h⟩ else none

def sliceOf (P : Program) (hP : P = Try.prog) (t : TypeId) : Option {p : TypeId × TypeInfo // Try.prog.underlying t = some (.slice p.1) ∧ Try.prog.info? p.1 = some p.2} :=
  match undr P hP t with
  | some ⟨.slice e, hu⟩ => match infr P hP e with
    | some ⟨i, hi⟩ => some ⟨(e, i), hu, hi⟩
    | none => none
  | _ => none

def trBuild (P : Program) (hP : P = Try.prog) (t : TypeId) (parts : Array (Nat × Operand)) : Option {so : SOp // OpM (.build t parts) so} :=
  match zeroOf P hP t with
  | none => none
  | some ⟨(i, z, zs), hi, hz, hzs⟩ => match undr P hP t with
    | some ⟨.struct fs, hu⟩ => match hp : fs.toList.mapM (fun f => (P.info? f.type).map fun i => (f.offset, i.size)) with
      | some places => match hps : parts.toList.mapM (fun p => (places[p.1]?).map fun q => (q.1, q.2, p.2)) with
        | some ps => some ⟨.bld zs ps, .bld (pl := fun j => places[j]?) hi hz hzs (built_struct hi hu hz (places_of hP hp)) hps⟩
        | none => none
      | none => none
    | some ⟨.array m e, hu⟩ => match infr P hP e with
      | some ⟨ie, he⟩ => match hps : parts.toList.mapM (fun p => ((some (p.1 * ie.size, ie.size) : Option (Nat × Nat))).map fun q => (q.1, q.2, p.2)) with
        | some ps => some ⟨.bld zs ps, .bld (pl := fun j => some (j * ie.size, ie.size)) hi hz hzs (built_array hi hu hz he) hps⟩
        | none => none
      | none => none
    | _ => none

def trBuildSlice (P : Program) (hP : P = Try.prog) (t : TypeId) (len : Nat) (parts : Array (Nat × Operand)) : Option {so : SOp // OpM (.buildSlice t len parts) so} :=
  match sliceOf P hP t with
  | none => none
  | some ⟨(e, i), hu, hi⟩ => match hz : i.zero with
    | none => none
    | some z =>
      if h : z.cells.size = i.size ∧ 0 < i.size ∧ parts.toList.map (·.1) = List.range' 0 parts.toList.length ∧ len = (parts.toList.map (·.2)).length ∧ len * i.size ≤ 16777216 then
        some ⟨.bsl i.size (parts.toList.map (·.2)), by
          obtain ⟨h1, h2, h3, h4, h5⟩ := h
          subst h4
          exact .bsl hu hi hz h1 h2 (idxs_of _ 0 h3) h5⟩
      else none

def trAppend (P : Program) (hP : P = Try.prog) (t : TypeId) (x y : Operand) : Option {so : SOp // OpM (.call ⟨.builtin .append, #[x, y], #[t, t]⟩) so} :=
  match sliceOf P hP t with
  | some ⟨(e, i), hu, hi⟩ => match hz : i.zero with
    | some z => if h : z.cells.size = i.size ∧ 0 < i.size then some ⟨.app x y e i.size i.bytes, .app hu hi hz h.1 h.2⟩ else none
    | none => none
  | none => none

def trCall (P : Program) (hP : P = Try.prog) (c : Call) : Option {so : SOp // OpM (.call c) so} :=
  match c with
  | ⟨.value (.func f), args, tys⟩ => match fnr P hP f with
    | some ⟨fn, hf⟩ => if h : fn.body.isSome = true ∧ (fn.name == "runtime.NumGoroutine") = false then some ⟨.call f args.toList, .call hf h.1 h.2⟩ else none
    | none => none
  | ⟨.value (.tmp t), args, tys⟩ => some ⟨.callv (.tmp t) args.toList, .callv⟩
  | ⟨.builtin .len, ⟨[x]⟩, ⟨[t]⟩⟩ => match sliceOf P hP t with
    | some ⟨(e, i), hu, hi⟩ => some ⟨.len x, .len hu⟩
    | none => match undr P hP t with
      | some ⟨.map kt e, hu⟩ => match undr P hP kt with
        | some ⟨.int .i64, hk⟩ => some ⟨.lenm kt x, .lenm hu hk⟩
        | _ => none
      | _ => none
  | ⟨.builtin .max, ⟨[x, y]⟩, tys⟩ => some ⟨.mm true x y, .max⟩
  | ⟨.builtin .min, ⟨[x, y]⟩, tys⟩ => some ⟨.mm false x y, .min⟩
  | ⟨.builtin .append, ⟨[x, y]⟩, ⟨[t, t']⟩⟩ =>
    if ht : t = t' then match trAppend P hP t x y with
      | some ⟨so, h⟩ => some ⟨so, by subst ht; exact h⟩
      | none => none
    else none
  | ⟨.builtin .delete, ⟨[m, key]⟩, ⟨[t, t']⟩⟩ => match undr P hP t with
    | some ⟨.map kt e, hu⟩ => match undr P hP kt with
      | some ⟨.int .i64, hk⟩ => if ht : kt = t' then some ⟨.del kt m key, by subst ht; exact .del hu hk⟩ else none
      | _ => none
    | _ => none
  | ⟨.builtin .copy, ⟨[x, y]⟩, ⟨[t, t']⟩⟩ => match sliceOf P hP t with
    | some ⟨(e, i), hu, hi⟩ => some ⟨.cpy x y i.size, .cpy hu hi⟩
    | none => none
  | _ => none

def trLoad (P : Program) (hP : P = Try.prog) (t : TypeId) (x : Operand) : Option {so : SOp // OpM (.load t x) so} :=
  match undr P hP t with
  | some ⟨d, hu⟩ => if ha : aggB d = true then (match infr P hP t with | some ⟨i, hi⟩ => some ⟨.ld x (some i.size), .ldA hu ha hi⟩ | none => none) else some ⟨.ld x none, .ld1 hu (by simpa using ha)⟩
  | none => none
def trField (P : Program) (hP : P = Try.prog) (s : TypeId) (x : Operand) (j : Nat) : Option {so : SOp // OpM (.field s x j) so} :=
  match undr P hP s with
  | some ⟨.struct fs, hu⟩ => match hf : fs[j]? with
    | some f => match undr P hP f.type with
      | some ⟨d, hd⟩ => if ha : aggB d = true then (match infr P hP f.type with | some ⟨i, hi⟩ => some ⟨.fld x f.offset (some i.size), .fldA hu hf hi hd ha⟩ | none => none) else some ⟨.fld x f.offset none, .fld1 hu hf hd (by simpa using ha)⟩
      | none => none
    | none => none
  | _ => none
def trFieldAddr (P : Program) (hP : P = Try.prog) (s : TypeId) (x : Operand) (j : Nat) : Option {so : SOp // OpM (.fieldAddr s x j) so} :=
  match undr P hP s with
  | some ⟨.struct fs, hu⟩ => match hf : fs[j]? with
    | some f => match infr P hP f.type with
      | some ⟨i, hi⟩ => if hz : i.size ≠ 0 then some ⟨.fa x f.offset, .fa hu hf hi hz⟩ else none
      | none => none
    | none => none
  | _ => none
def trIndexAddr (P : Program) (hP : P = Try.prog) (t : TypeId) (x j : Operand) : Option {so : SOp // OpM (.indexAddr t x j) so} :=
  match undr P hP t with
  | some ⟨.slice e, hu⟩ => match infr P hP e with
    | some ⟨i, hi⟩ => if hp : 0 < i.size then some ⟨.ixa x j i.size, .ixa hu hi hp⟩ else none
    | none => none
  | some ⟨.array n e, hu⟩ => match infr P hP e with
    | some ⟨i, hi⟩ => some ⟨.ixp x j i.size n, .ixp hu hi⟩
    | none => none
  | _ => none
theorem one_zero {z : Value} {zz : ZSh} (h : z.oneCell' = true) (hzs : z.cells.toList = [zz].map ZSh.val) : z = zz.val := by
  have e1 : z.cells = #[z] := by cases z <;> simp_all [Value.cells, Value.oneCell']
  simpa [e1] using hzs
def trLookup (P : Program) (hP : P = Try.prog) (t : TypeId) (m key : Operand) (ok : Bool) : Option {so : SOp // OpM (.lookup t m key ok) so} :=
  match undr P hP t with
  | some ⟨.map kt e, hu⟩ => match undr P hP kt with
    | some ⟨.int .i64, hk⟩ => match zeroOf P hP e with
      | some ⟨(i, z, [zz]), hi, hz, hzs⟩ => if h : z.oneCell' = true then some ⟨.lkp kt m key zz ok, .lkp hu hk hi (by rw [← one_zero h hzs]; exact hz)⟩ else none
      | _ => none
    | _ => none
  | _ => none
def trMakeSlice (P : Program) (hP : P = Try.prog) (t : TypeId) (n c : Operand) : Option {so : SOp // OpM (.makeSlice t n c) so} :=
  if hc : opEq n c = true then (match sliceOf P hP t with
    | some ⟨(e, i), hu, hi⟩ => match zeroOf P hP e with
      | some ⟨(i', z, zs), hi', hz, hzs⟩ => if h : z.cells.size = i.size ∧ 0 < i.size then some ⟨.mks n e i.size i.bytes zs, by
          have e1 := opEq_spec hc; subst e1
          have e2 : i = i' := Option.some.inj (hi.symm.trans hi')
          subst e2
          exact .mks hu hi hz hzs h.1 h.2⟩ else none
      | none => none
    | none => none) else none
def isIfc : TypeDesc → Bool
  | .interface _ => true
  | _ => false

def trOp (P : Program) (hP : P = Try.prog) (op : Op) : Option {so : SOp // OpM op so} :=
  match op with
  | .move x => some ⟨.mv x, .mv⟩
  | .assign x => some ⟨.mv x, .asg⟩
  | .load t x => trLoad P hP t x
  | .fieldAddr s x j => trFieldAddr P hP s x j
  | .field s x j => trField P hP s x j
  | .indexAddr t x j => trIndexAddr P hP t x j
  | .build t parts => trBuild P hP t parts
  | .buildSlice t len parts => trBuildSlice P hP t len parts
  | .slice t x lo hi mx => match sliceOf P hP t with
    | some ⟨(e, i), hu, hi'⟩ => some ⟨.slc i.size x lo hi mx, .slc hu hi'⟩
    | none => none
  | .lookup t m key ok => trLookup P hP t m key ok
  | .extract x i => some ⟨.ext x i, .ext⟩
  | .binOp op t x y t2 => match P.underlying t with
    | some (.int _) => some ⟨.bin op x y, .bin⟩
    | _ => match op with
      | .eql => some ⟨.eqv false t x y, .eqv⟩
      | .neq => some ⟨.eqv true t x y, .neqv⟩
      | _ => none
  | .unOp .not t x => some ⟨.not x, .not⟩
  | .convert src dst x => match undr P hP src, undr P hP dst with
    | some ⟨d, hs⟩, some ⟨.int k, hd⟩ => some ⟨.cnv k x, .cnv hs hd⟩
    | _, _ => none
  | .call c => trCall P hP c
  | .makeFunc f first cap => some ⟨.mkf f first.toList cap.toList, .mkf⟩
  | .makeInterface t x => match undr P hP t with
    | some ⟨d, hu⟩ => if h : isIfc d = false then some ⟨.mki t x, .mki hu (fun ms e => by subst e; cases h)⟩ else none
    | none => none
  | .pick c a b => some ⟨.pick c a b, .pick⟩
  | .range t x => match undr P hP t with
    | some ⟨.map kt e, hu⟩ => match undr P hP kt with
      | some ⟨.int .i64, hk⟩ => some ⟨.rng kt x, .rng hu hk⟩
      | _ => none
    | _ => none
  | .next x false => some ⟨.nxt x, .nxt⟩
  | .entry x => some ⟨.ent x, .ent⟩
  | .nilCheck x => some ⟨.nck x, .nck⟩
  | .makeSlice t n c => trMakeSlice P hP t n c
  | .makeMap t none => match undr P hP t with
    | some ⟨.map kt e, hu⟩ => match undr P hP kt with
      | some ⟨.int .i64, hk⟩ => some ⟨.mkm t kt, .mkm hu hk⟩
      | _ => none
    | _ => none
  | .alloc t => match zeroOf P hP t with
    | some ⟨(i, z, zs), hi, hz, hzs⟩ => some ⟨.alc t zs, .alc hi hz hzs⟩
    | none => none
  | .box t x => some ⟨.box t x, .box⟩
  | .store t x y => match infr P hP t with
    | some ⟨i, hi⟩ => some ⟨.st i.size x y, .st hi⟩
    | none => none
  | .mapUpdate t m key x => match undr P hP t with
    | some ⟨.map kt e, hu⟩ => match undr P hP kt with
      | some ⟨.int .i64, hk⟩ => some ⟨.mup kt m key x, .mup hu hk⟩
      | _ => none
    | _ => none
  | _ => none

/-- The slot of the operation that a guard names. -/
def trGuard (ops : Array Oper) : Option (Nat × Bool) → Option (Option (Nat × Bool))
  | none => some none
  | some (j, b) => match ops[j]? with
    | some oj => oj.dst.map fun t => some (t, b)
    | none => none
theorem trGuard_spec {ops : Array Oper} {o : Oper} {g : Option (Nat × Bool)} (h : trGuard ops o.guard = some g) : GdM ops o g := by
  unfold trGuard at h
  split at h
  · rename_i hg; cases h; exact hg
  · rename_i j b hg
    split at h
    · rename_i oj hj
      cases hd : oj.dst with
      | none => rw [hd] at h; cases h
      | some t => rw [hd] at h; cases h; exact ⟨j, oj, hg, hj, hd⟩
    · cases h

def ltB (N : Nat) : Option Nat → Bool
  | none => true
  | some d => decide (d < N)
def trOper (P : Program) (hP : P = Try.prog) (N : Nat) (ops : Array Oper) (o : Oper) : Option {g : GOp // GM N ops o g} :=
  match trOp P hP o.op, hg : trGuard ops o.guard with
  | some so, some gd => if h : ltB N o.dst = true then some ⟨⟨o.dst, gd, so.1⟩, rfl, so.2, fun t h' => (by rw [h'] at h; simpa [ltB] using h), trGuard_spec hg⟩ else none
  | _, _ => none

def trOpers (P : Program) (hP : P = Try.prog) (N : Nat) (ops : Array Oper) : (l : List Oper) → Option {gl : List GOp // GMs N ops l gl}
  | [] => some ⟨[], .nil⟩
  | o :: l => match trOper P hP N ops o, trOpers P hP N ops l with
    | some g, some gl => some ⟨g.1 :: gl.1, .cons g.2 gl.2⟩
    | _, _ => none

/-- The front operations that not all of those behind wait for. -/
def floatsOf (ops : Array Oper) (n : Nat) : List Nat :=
  (List.range n).filter fun j => (List.range ops.size).any fun i => decide (n ≤ i) && (match ops[i]? with | some o => !waits o j && !(downs ops i (wl o)).contains j | none => false)

def drawAt (N : Nat) (ops : Array Oper) (gl : List GOp) (n : Nat) : Bool :=
  agChk ops n (floatsOf ops n) && agDst ops n N && frontB ops n gl && floatB (floatsOf ops n) gl

def trCode (P : Program) (hP : P = Try.prog) (N : Nat) : (c : Code) → Option {sc : SC // CM N c sc}
  | .skip => some ⟨.skip, .skip⟩
  | .region id ops false => match trOpers P hP N ops ops.toList with
    | some gl => some ⟨.ops gl.1, .ops gl.2⟩
    | none => none
  | .region id ops true => match trOpers P hP N ops ops.toList with
    | some gl => match (List.range (ops.size + 1)).find? (drawAt N ops gl.1) with
      | some n => if h : drawAt N ops gl.1 n = true then some ⟨.drw n gl.1, by
          unfold drawAt at h
          simp only [Bool.and_eq_true] at h
          exact .drw gl.2 h.1.1.1 h.1.1.2 h.1.2 h.2⟩ else none
      | none => if h : (Region.noSelect ops && otChk ops gl.1 [] (mkTr ops gl.1 ops.size [])) = true then some ⟨.ord (mkTr ops gl.1 ops.size []) gl.1, by
          simp only [Bool.and_eq_true] at h
          exact .ord gl.2 h.1 h.2⟩ else none
    | none => none
  | .seq a b => match trCode P hP N a, trCode P hP N b with
    | some x, some y => some ⟨.seq x.1 y.1, .seq x.2 y.2⟩
    | _, _ => none
  | .cond c a b => match trCode P hP N a, trCode P hP N b with
    | some x, some y => some ⟨.cond c x.1 y.1, .cond x.2 y.2⟩
    | _, _ => none
  | .block id a => match trCode P hP N a with
    | some x => some ⟨.block id x.1, .block x.2⟩
    | none => none
  | .loop a => match trCode P hP N a with
    | some x => some ⟨.loop x.1, .loop x.2⟩
    | none => none
  | .exit id => some ⟨.exit id, .exit⟩
  | .ret => some ⟨.ret, .ret⟩
  | _ => none

def trRV (P : Program) (hP : P = Try.prog) : (x : ResultVar) → Option {y : RV // RVM x y}
  | .tmp t => some ⟨.tmp t, .tmp⟩
  | .cell t ty => match undr P hP ty with
    | some ⟨d, hu⟩ => if ha : aggB d = true then (match infr P hP ty with | some ⟨i, hi⟩ => some ⟨.cel t (some i.size), .celA hu ha hi⟩ | none => none) else some ⟨.cel t none, .cel1 hu (by simpa using ha)⟩
    | none => none
def trRes (P : Program) (hP : P = Try.prog) : (l : List ResultVar) → Option {y : List RV // RVMs l y}
  | [] => some ⟨[], .nil⟩
  | x :: l => match trRV P hP x, trRes P hP l with
    | some y, some ys => some ⟨y.1 :: ys.1, .cons y.2 ys.2⟩
    | _, _ => none

def trFn (P : Program) (hP : P = Try.prog) (fn : Func) : Option (SC × List RV) :=
  match fn.body with
  | none => none
  | some c => match trCode P hP fn.ntmps c, trRes P hP fn.results.toList with
    | some x, some y => some (x.1, y.1)
    | _, _ => none

theorem mixed : Try.prog.follows .mixedOrders = true := by kernel_rfl

/-- A function is told by its shadow code. -/
theorem ok_of_tr {f : FuncId} {fn : Func} {sc : SC} {rvs : List RV} {args : List Sh} {r : Sh} (hf : Try.prog.funcs[f]? = some fn) (ht : trFn Try.prog rfl fn = some (sc, rvs)) (hn : Nat.ble args.length fn.ntmps = true) (h : evFn sc rvs args r) : Ok f args r := by
  unfold trFn at ht
  split at ht
  · cases ht
  · rename_i c hb
    split at ht
    · rename_i x y _ _
      cases ht
      exact ok_of_ev hf hb mixed x.2 y.2 (Nat.le_of_ble_eq_true hn) h
    · cases ht
/-- A function is told by its shadow code. -/
theorem ok_of_tr2 {f : FuncId} {fn : Func} {sc : SC} {rvs : List RV} {args : List Sh} {r : Sh} (hf : Try.prog.funcs[f]? = some fn) (ht : trFn Try.prog rfl fn = some (sc, rvs)) (hn : Nat.ble args.length fn.ntmps = true) (h : evFn2 sc rvs args r) : Ok f args r := by
  unfold trFn at ht
  split at ht
  · cases ht
  · rename_i c hb
    split at ht
    · rename_i x y _ _
      cases ht
      exact ok_of_ev2 hf hb mixed x.2 y.2 (Nat.le_of_ble_eq_true hn) h
    · cases ht
end Go.Proofs.Ytfcjkchpldfamaa

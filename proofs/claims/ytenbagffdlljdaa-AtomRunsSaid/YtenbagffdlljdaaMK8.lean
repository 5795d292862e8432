/-
  The arguments of layer 4's laws.
  The arguments of layer 10's laws.
  The shadow machine: a fourth reading of code, where a new row's zero maps are nil.
-/
import Derived.Test.YtenbagffdlljdaaMC
import Derived.Test.YtenbagffdlljdaaMK7
import Derived.Test.YtenbagffdlljdaaK10b
namespace Go.Proofs.Ytenbagffdlljdaa
set_option linter.unusedSimpArgs false
set_option linter.unusedVariables false
open Go.ChangeShapes Go.WideShapes Go.ChangeAt Go.RowKit Go.Deep Go.Maps
abbrev plWord : Pl := .cons (.int .i64) (.cons (.int .u32) (.cons (.int .u32) .nil))
theorem map_shP {α : Type} {p : Pl} {e : α → List Sh} {Q : α → Prop} (h : ∀ d, OkD p d → ∃ x, shP p d = e x ∧ Q x) : ∀ (xs : List Dt), (∀ x ∈ xs, OkD p x) → ∃ ys : List α, xs.map (fun x => shP p x) = ys.map e ∧ ∀ y ∈ ys, Q y
  | [], _ => ⟨[], rfl, fun y hy => by cases hy⟩
  | x :: xs, hx => by
    obtain ⟨y, h1, h2⟩ := h x (hx x (List.mem_cons_self ..))
    obtain ⟨ys, h3, h4⟩ := map_shP h xs (fun z hz => hx z (List.mem_cons_of_mem _ hz))
    refine ⟨y :: ys, by simp only [List.map_cons, h1, h3], fun z hz => ?_⟩
    rcases List.mem_cons.1 hz with rfl | hz
    · exact h2
    · exact h4 z hz
theorem okd_int {k : IntKind} {d : Dt} (h : OkD (.int k) d) : ∃ n, d = .i n ∧ k.min ≤ n ∧ n ≤ k.max := by
  cases d with
  | i n => exact ⟨n, rfl, h⟩
  | _ => exact h.elim
theorem okd_sl {k : Nat} {e : Pl} {d : Dt} (h : OkD (.sl k e) d) : ∃ xs, d = .l xs ∧ ∀ x ∈ xs, OkD e x := by
  cases d with
  | l xs => exact ⟨xs, rfl, h⟩
  | _ => exact h.elim
theorem okd_cons {p q : Pl} {d : Dt} (h : OkD (.cons p q) d) : ∃ a b, d = .cons a b ∧ OkD p a ∧ OkD q b := by
  cases d with
  | cons a b => exact ⟨a, b, rfl, h.1, h.2⟩
  | _ => exact h.elim
theorem okd_nil {d : Dt} (h : OkD .nil d) : d = .nil := by
  cases d with
  | nil => rfl
  | _ => exact h.elim
def WordIn (w : WordV) : Prop := (-9223372036854775808 ≤ w.val ∧ w.val ≤ 9223372036854775807) ∧ (0 ≤ w.ver ∧ w.ver ≤ 4294967295) ∧ (0 ≤ w.ref ∧ w.ref ≤ 4294967295)
theorem okd_word {d : Dt} (h : OkD plWord d) : ∃ w, shP plWord d = eWord w ∧ WordIn w := by
  obtain ⟨_, _, rfl, h1, h⟩ := okd_cons h
  obtain ⟨_, _, rfl, h2, h⟩ := okd_cons h
  obtain ⟨_, _, rfl, h3, h⟩ := okd_cons h
  obtain rfl := okd_nil h
  obtain ⟨a, rfl, a1⟩ := okd_int h1
  obtain ⟨b, rfl, b1⟩ := okd_int h2
  obtain ⟨c, rfl, c1⟩ := okd_int h3
  exact ⟨⟨a, b, c⟩, rfl, a1, b1, c1⟩
structure ActIn (a : ActM) : Prop where
  op : -9223372036854775808 ≤ a.op ∧ a.op ≤ 9223372036854775807
  place : InLoc a.place
  old : WordIn a.old
  new : WordIn a.new
structure DoIn (d : DoV) : Prop where
  act : ActIn d.act
end Go.Proofs.Ytenbagffdlljdaa
namespace Go.Proofs.Ytenbagffdlljdaa
set_option linter.unusedSimpArgs false
set_option linter.unusedVariables false
open Go.ChangeShapes Go.WideShapes Go.ChangeAt Go.RowKit Go.Deep Go.Maps
abbrev plPick : Pl := .cons (.int .i64) (.cons (.int .i64) (.cons (.int .i64) .nil))
abbrev plOp : Pl := .cons (.int .i64) (.cons (.int .i64) (.cons (.int .i64) .nil))
abbrev plRun : Pl := .cons (.cons plWord (.cons plWord .nil)) (.cons (.sl 3 plOp) (.cons (.sl 3 plPick) .nil))
theorem pl_run : planOf Try.prog 8 80 = some plRun := by kernel_rfl
def In64 (n : Int) : Prop := -9223372036854775808 ≤ n ∧ n ≤ 9223372036854775807
structure PickIn (p : PickV) : Prop where
  kind : -9223372036854775808 ≤ p.kind ∧ p.kind ≤ 9223372036854775807
  thread : -9223372036854775808 ≤ p.thread ∧ p.thread ≤ 9223372036854775807
theorem okd_pick {d : Dt} (h : OkD plPick d) : ∃ x, shP plPick d = ePick x ∧ PickIn x := by
  obtain ⟨_, _, rfl, h1, h⟩ := okd_cons h
  obtain ⟨_, _, rfl, h2, h⟩ := okd_cons h
  obtain ⟨_, _, rfl, h3, h⟩ := okd_cons h
  obtain rfl := okd_nil h
  obtain ⟨a, rfl, a1⟩ := okd_int h1
  obtain ⟨b, rfl, b1⟩ := okd_int h2
  obtain ⟨c, rfl, c1⟩ := okd_int h3
  exact ⟨⟨a, b, c⟩, rfl, a1, b1⟩
theorem okd_picks {d : Dt} (h : OkD (.sl 3 plPick) d) : ∃ ps : List PickV, shP (.sl 3 plPick) d = [.sl 3 2 (ps.map ePick)] ∧ ∀ p ∈ ps, PickIn p := by
  obtain ⟨xs, rfl, b1⟩ := okd_sl h
  obtain ⟨ws, e2, b2⟩ := map_shP (fun d h => okd_pick h) xs b1
  exact ⟨ws, by show [Sh.sl 3 2 (xs.map fun x => shP plPick x)] = _; rw [e2], b2⟩
section
variable {H : Type} {enc : TypeId × Value → H} {P : Program} {W : World} {base : Nat} {spare : Nat → Bool} {held : Bool}
end
structure OpIn (o : OpV) : Prop where
  n : In64 o.n
theorem okd_op {d : Dt} (h : OkD plOp d) : ∃ x, shP plOp d = eOp x ∧ OpIn x := by
  obtain ⟨_, _, rfl, h1, h⟩ := okd_cons h
  obtain ⟨_, _, rfl, h2, h⟩ := okd_cons h
  obtain ⟨_, _, rfl, h3, h⟩ := okd_cons h
  obtain rfl := okd_nil h
  obtain ⟨a, rfl, a1⟩ := okd_int h1
  obtain ⟨b, rfl, b1⟩ := okd_int h2
  obtain ⟨c, rfl, c1⟩ := okd_int h3
  exact ⟨⟨a, b, c⟩, rfl, ⟨c1⟩⟩
structure RunIn (r : RunV) : Prop where
  w0 : WordIn r.w0
  w1 : WordIn r.w1
  ops : ∀ o ∈ r.ops, OpIn o
theorem okd_run {d : Dt} (h : OkD plRun d) : ∃ x, shP plRun d = cRun x ∧ RunIn x := by
  obtain ⟨_, _, rfl, h0, h⟩ := okd_cons h
  obtain ⟨_, _, rfl, h3, h⟩ := okd_cons h
  obtain ⟨_, _, rfl, h4, h⟩ := okd_cons h
  obtain rfl := okd_nil h
  obtain ⟨_, _, rfl, h1, h0⟩ := okd_cons h0
  obtain ⟨_, _, rfl, h2, h0⟩ := okd_cons h0
  obtain rfl := okd_nil h0
  obtain ⟨a, e1, a1⟩ := okd_word h1
  obtain ⟨b, e2, b1⟩ := okd_word h2
  obtain ⟨xs, rfl, c1⟩ := okd_sl h3
  obtain ⟨l, e3, c2⟩ := map_shP (fun d h => okd_op h) xs c1
  obtain ⟨ps, e4, _⟩ := okd_picks h4
  refine ⟨⟨a, b, 2, l, 2, ps⟩, ?_, a1, b1, c2⟩
  show (shP plWord _ ++ (shP plWord _ ++ [])) ++ ([Sh.sl 3 2 (xs.map fun x => shP plOp x)] ++ (shP (.sl 3 plPick) _ ++ [])) = _
  rw [e1, e2, e3, e4]; rfl
end Go.Proofs.Ytenbagffdlljdaa
namespace Go.Proofs.Ytenbagffdlljdaa
set_option linter.unusedSimpArgs false
set_option linter.unusedVariables false
open Go.RowKit Go.Maps

def ZSh.toN : ZSh → ZSh
  | .mp _ => .nmp
  | z => z
theorem ZSh.toN_val (z : ZSh) : z.toN.val = z.val := by cases z <;> rfl
theorem zs_toN (zs : List ZSh) : (zs.map ZSh.toN).map ZSh.val = zs.map ZSh.val := by simp [ZSh.toN_val]
def toNmp : (op : Op) → {so : SOp // OpM op so} → {so : SOp // OpM op so}
  | .makeSlice t n c, ⟨.mks x e k b zs, h⟩ => ⟨.mks x e k b (zs.map ZSh.toN), by
      cases h with
      | mks h1 h2 h3 h4 h5 h6 => exact .mks h1 h2 h3 (h4.trans (zs_toN zs).symm) h5 h6⟩
  | _, so => so
theorem zsh_nmp : ZSh.nmp.sh = .v (.map none) := rfl
def trOperN (P : Program) (hP : P = Try.prog) (N : Nat) (ops : Array Oper) (o : Oper) : Option {g : GOp // GM N ops o g} :=
  match (trOp P hP o.op).map (toNmp o.op), hg : trGuard ops o.guard with
  | some so, some gd => if h : ltB N o.dst = true then some ⟨⟨o.dst, gd, so.1⟩, rfl, so.2, fun t h' => (by rw [h'] at h; simpa [ltB] using h), trGuard_spec hg⟩ else none
  | _, _ => none
def trOpersN (P : Program) (hP : P = Try.prog) (N : Nat) (ops : Array Oper) : (l : List Oper) → Option {gl : List GOp // GMs N ops l gl}
  | [] => some ⟨[], .nil⟩
  | o :: l => match trOperN P hP N ops o, trOpersN P hP N ops l with
    | some g, some gl => some ⟨g.1 :: gl.1, .cons g.2 gl.2⟩
    | _, _ => none
/-- Two new variables of one type. -/
def alcT (g : GOp) : Option TypeId := match g.op with
  | .alc t _ => some t
  | _ => none
def dupA (l : List GOp) : Bool := match l.filterMap alcT with
  | [a, b] => decide (a = b)
  | _ => false
def trCodeN (P : Program) (hP : P = Try.prog) (N : Nat) : (c : Code) → Option {sc : SC // CM N c sc}
  | .region id ops false => match trOpersN P hP N ops ops.toList with
    | some gl => some ⟨.ops gl.1, .ops gl.2⟩
    | none => none
  | .region id ops true => match trOpers P hP N ops ops.toList with
    | some gl => if dupA gl.1 = true then (if h : (Region.noSelect ops && wlLow ops) = true then some ⟨.cfl (ops.toList.map wl) gl.1, by
          simp only [Bool.and_eq_true] at h
          exact .cfl gl.2 h.1 h.2⟩ else none) else trCode P hP N (.region id ops true)
    | none => none
  | .seq a b => match trCodeN P hP N a, trCodeN P hP N b with
    | some x, some y => some ⟨.seq x.1 y.1, .seq x.2 y.2⟩
    | _, _ => none
  | .cond c a b => match trCodeN P hP N a, trCodeN P hP N b with
    | some x, some y => some ⟨.cond c x.1 y.1, .cond x.2 y.2⟩
    | _, _ => none
  | .block id a => match trCodeN P hP N a with
    | some x => some ⟨.block id x.1, .block x.2⟩
    | none => none
  | .loop a => match trCodeN P hP N a with
    | some x => some ⟨.loop x.1, .loop x.2⟩
    | none => none
  | c => trCode P hP N c
def trFnN (P : Program) (hP : P = Try.prog) (fn : Func) : Option (SC × List RV) :=
  match fn.body with
  | none => none
  | some c => match trCodeN P hP fn.ntmps c, trRes P hP fn.results.toList with
    | some x, some y => some (x.1, y.1)
    | _, _ => none
/-- A function is told by its shadow code. -/
theorem ok_of_trN {f : FuncId} {fn : Func} {sc : SC} {rvs : List RV} {args : List Sh} {r : Sh} (hf : Try.prog.funcs[f]? = some fn) (ht : trFnN Try.prog rfl fn = some (sc, rvs)) (hn : Nat.ble args.length fn.ntmps = true) (h : evFn sc rvs args r) : Ok f args r := by
  unfold trFnN at ht
  split at ht
  · cases ht
  · rename_i c hb
    split at ht
    · rename_i x y _ _
      cases ht
      exact ok_of_ev hf hb mixed x.2 y.2 (Nat.le_of_ble_eq_true hn) h
    · cases ht
/-- A part of a code. -/
def SC.sub : SC → List Bool → SC
  | .seq a _, false :: p => a.sub p
  | .seq _ b, true :: p => b.sub p
  | .cond _ a _, false :: p => a.sub p
  | .cond _ _ b, true :: p => b.sub p
  | .block _ a, false :: p => a.sub p
  | .loop a, false :: p => a.sub p
  | c, _ => c
theorem eCflP {S : St} {K : Ex → St → Prop} (cs : List Cst) (I : List Nat → St → Prop) (P : St → Prop) {wt : List (List Nat)} {l : List GOp} (h0 : I [] (S.casts cs)) (h1 : ∀ done S' i, I done S' → rdyW wt done i = true → oB l[i]? fun g => evG g S' fun S2 => I (i :: done) S2)
    (h2 : ∀ done S', I done S' → (∀ i, i < wt.length → done.contains i = true) → ∃ kp, P ((S'.keep kp).sorted)) (h3 : ∀ S1, P S1 → K .next S1) : ev (.cfl wt l) S K :=
  ⟨cs, I, h0, h1, fun d S' hi ha => by obtain ⟨kp, e⟩ := h2 d S' hi ha; exact ⟨kp, h3 _ e⟩⟩
theorem cfOpN {l : List GOp} {i : Nat} {o : GOp} {S : St} {J : St → Prop} (ho : l[i]? = some o) (h : ∀ L1 : St → Prop, (∀ S', J S' → L1 S') → evG o S L1) : oB l[i]? fun g => evG g S J := by
  rw [ho]
  exact h J fun _ h => h
theorem rdyN_wait {wt : List (List Nat)} {done : List Nat} {i : Nat} {l : List Nat} (h : rdyW wt done i = true) (hl : wt[i]? = some l) : ∀ j, l.contains j = true → done.contains j = true := fun j hj => by
  unfold rdyW at h
  rw [hl, Bool.and_eq_true] at h
  exact List.all_eq_true.1 h.2 j (by simpa using hj)
theorem rdyN_lt {wt : List (List Nat)} {done : List Nat} {i : Nat} (h : rdyW wt done i = true) : i < wt.length := by
  unfold rdyW at h
  rw [Bool.and_eq_true] at h
  by_cases hi : i < wt.length
  · exact hi
  · rw [List.getElem?_eq_none (by omega)] at h
    cases h.2
theorem rdyN_not {wt : List (List Nat)} {done : List Nat} {i : Nat} (h : rdyW wt done i = true) : done.contains i = false := by
  unfold rdyW at h
  rw [Bool.and_eq_true] at h
  simpa using h.1
end Go.Proofs.Ytenbagffdlljdaa

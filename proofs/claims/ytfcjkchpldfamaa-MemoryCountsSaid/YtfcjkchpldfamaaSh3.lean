/-
  The shadow machine: what a shadow state says of a world; reads.
-/
import Derived.Test.YtfcjkchpldfamaaSh2
import Derived.Laws.Tables
import Derived.Laws.Cells
namespace Go.Proofs.Ytfcjkchpldfamaa
set_option linter.unusedSimpArgs false
set_option linter.unusedVariables false
open Go.RowKit Go.Maps

/-- Block r, ob, is an iterator of a map that nobody writes any more. -/
def IterO (H : Hp) (r : Nat) (ob : Obj) (f : Int → Option Sh) (left : Int → Bool) (cnt : Nat) : Prop :=
  (∃ a s c, ob = .mapIter none a s c ∧ ∀ j, left j = false) ∨ ∃ b om kt M D lft F, H b = some om ∧ Try.prog.underlying kt = some (.int .i64) ∧
    (∀ w : World, w.heap[b]? = some om → w.heap[r]? = some ob → w.ranges Try.prog kt anyElem b r M D lft cnt) ∧ DF D F ∧ (∀ j, f j = none ↔ F j = none) ∧ (∀ j s u, f j = some s → F j = some u → Rep H E0 s u) ∧ ∀ j, lft (.int .i64 j) = left j
/-- The entry it stands at. -/
def CurO (H : Hp) (r : Nat) (ob : Obj) (j : Int) (s : Sh) : Prop :=
  ∃ v, (∀ w : World, Sub H w → w.heap[r]? = some ob → (Instr.entry (.pointer (some ⟨r, 0, none⟩))).run Try.prog w = .ok (.tuple #[.int .i64 j, v]) w) ∧ Rep H E0 s v
theorem IterO.le {H H' : Hp} (g : Le H H') {r : Nat} {ob : Obj} {f left cnt} (h : IterO H r ob f left cnt) : IterO H' r ob f left cnt := by
  rcases h with h | ⟨b, om, kt, M, D, lft, F, h1, h2, h3, h4, h5, h6, h7⟩
  · exact .inl h
  · exact .inr ⟨b, om, kt, M, D, lft, F, g _ _ h1, h2, h3, h4, h5, fun j s u a b => (h6 j s u a b).mono g (ELe.refl _), h7⟩
theorem CurO.le {H H' : Hp} (g : Le H H') {r : Nat} {ob : Obj} {j s} (h : CurO H r ob j s) : CurO H' r ob j s := by
  obtain ⟨v, h1, h2⟩ := h
  exact ⟨v, fun w hs hr => h1 w (fun i o ho => hs i o (g _ _ ho)) hr, h2.mono g (ELe.refl _)⟩
def ObRep (B : Nat) (H : Hp) (E : Env) (w : World) (i : Nat) : Ob → Prop
  | .box t cs => ∃ b vs, E i = some (.pointer (some ⟨b, 0, none⟩), 0, some b) ∧ B ≤ b ∧ H b = none ∧ w.heap[b]? = some (.cells vs.toArray t (0, 0)) ∧ RepL H E cs vs ∧ cs.all Sh.one = true
  | .row e k es => ∃ u ob xs, E i = some (u, k, ob) ∧ 0 < k ∧ RepEs H k es xs ∧ ((es = [] ∧ ob = none ∧ ∃ a, u = .slice a 0 0) ∨
      ∃ g cap cur, ob = some g ∧ u = .slice (some ⟨g, 0, none⟩) es.length cap ∧ B ≤ g ∧ H g = none ∧ w.heap[g]? = some (.cells cur e (0, 0)) ∧ es.length ≤ cap ∧ cap ≤ maxLen ∧ (es = [] → cap = 0) ∧ cur.size = cap * k ∧ cur.toList.take (es.length * k) = xs)
  | .map kt N f => ∃ b o F, E i = some (.map (some b), 0, some b) ∧ B ≤ b ∧ H b = none ∧ w.heap[b]? = some o ∧ MapOf kt o N F ∧ N ≤ 1000000 ∧ (∀ j, f j = none ↔ F j = none) ∧ (∀ j s u, f j = some s → F j = some u → Rep H E0 s u)
  | .iter f left cnt cur => ∃ r ob, E i = some (.pointer (some ⟨r, 0, none⟩), 0, some r) ∧ B ≤ r ∧ H r = none ∧ w.heap[r]? = some ob ∧ IterO H r ob f left cnt ∧ ∀ j s, cur = some (j, s) → CurO H r ob j s
  | .frz x => ∃ u k b, E i = some (u, k, b) ∧ Rep H E0 x u ∧ x.pure = true ∧ (∀ e, x = .fp e 0 → k = 0 ∧ ∃ b0, b = some b0 ∧ u = .pointer (some ⟨b0, 0, none⟩))
def Objs (B : Nat) (S : St) (E : Env) (w : World) (H : Hp) : Prop := ∀ i o, getA S.O i = some o → ObRep B H E w i o

theorem ObRep.grow {B H E w i o w' H'} (h : ObRep B H E w i o) (g : Grow w H w' H') (hs : Sub H w) : ObRep B H' E w' i o := by
  have hle := g.le hs
  cases o with
  | box t cs =>
    obtain ⟨b, vs, h1, h2, h3, h4, h5, h6⟩ := h
    have hlt := (Array.getElem?_eq_some_iff.1 h4).1
    exact ⟨b, vs, h1, h2, (g.old b hlt).trans h3, (g.below.block b hlt).trans h4, h5.mono hle (ELe.refl _), h6⟩
  | row e k es =>
    obtain ⟨u, ob, xs, h1, hk, h2, h3⟩ := h
    refine ⟨u, ob, xs, h1, hk, h2.mono hle, h3.imp id ?_⟩
    rintro ⟨g', cap, cur, a1, a2, a3, a4, a5, a6⟩
    have hlt := (Array.getElem?_eq_some_iff.1 a5).1
    exact ⟨g', cap, cur, a1, a2, a3, (g.old _ hlt).trans a4, (g.below.block _ hlt).trans a5, a6⟩
  | map kt N f =>
    obtain ⟨b, o, F, h1, h2, h3, h4, h5, h6, h7, h8⟩ := h
    have hlt := (Array.getElem?_eq_some_iff.1 h4).1
    exact ⟨b, o, F, h1, h2, (g.old b hlt).trans h3, (g.below.block b hlt).trans h4, h5, h6, h7, fun j s u a b => (h8 j s u a b).mono hle (ELe.refl _)⟩
  | iter f left cnt cur =>
    obtain ⟨r, ob, h1, h2, h3, h4, h5, h6⟩ := h
    have hlt := (Array.getElem?_eq_some_iff.1 h4).1
    exact ⟨r, ob, h1, h2, (g.old r hlt).trans h3, (g.below.block r hlt).trans h4, h5.le hle, fun j s e => (h6 j s e).le hle⟩
  | frz x =>
    obtain ⟨u, k, b, h1, h2, h3, h4⟩ := h
    exact ⟨u, k, b, h1, h2.mono hle (ELe.refl _), h3, h4⟩
theorem Objs.grow {B S E w H w' H'} (h : Objs B S E w H) (g : Grow w H w' H') (hs : Sub H w) : Objs B S E w' H' := fun i o ho => (h i o ho).grow g hs

section
variable {B : Nat} {S : St} {E : Env} {w : World} {H : Hp}

theorem res_rep (hO : Objs B S E w H) {x u} (h : Rep H E x u) : Rep H E (S.res x) u := by
  cases h with
  | own h h1 =>
    rename_i i k b
    show Rep H E (match getA S.O i with | some (.frz x) => x | _ => .own i) u
    split
    · rename_i y hg
      obtain ⟨u', k', b', e1, e2, _⟩ := hO _ _ hg
      rw [h] at e1; cases e1
      exact e2.mono (fun _ _ h => h) (E0_le _)
    · exact .own h h1
  | ptr h =>
    rename_i i idx off u' k b
    show Rep H E (match getA S.O i with | some (.frz (.fp e 0)) => .fp e off | _ => .ptr i idx off) _
    split
    · rename_i e hg
      obtain ⟨u2, k', b', e1, e2, _, e4⟩ := hO _ _ hg
      rw [h] at e1; cases e1
      obtain ⟨rfl, b0, hb, rfl⟩ := e4 e rfl
      cases hb
      generalize hq : (Value.pointer (some ⟨b, 0, none⟩)) = q at e2
      cases e2 with
      | fp a1 a2 a3 =>
        rename_i bb o xs
        simp only [Nat.add_zero, Value.pointer.injEq, Option.some.injEq, Addr.mk.injEq, and_true] at hq
        obtain ⟨rfl, rfl⟩ := hq
        have := Rep.fp (E := E) (off := off) a1 a2 a3
        simpa using this
    · exact .ptr h
  | v h => exact .v h
  | agg a b => exact .agg a b
  | tup a => exact .tup a
  | sl a b c d e f g => exact .sl a b c d e f g
  | mpn h => exact .mpn h
  | mp a b c d e => exact .mp a b c d e
  | fn a b => exact .fn a b
  | ifc a => exact .ifc a
  | fp a b c => exact .fp a b c
  | any a => exact .any a

/-- What is laid of the slots that an operation reads. -/
def OpdOk (S : St) (E : Env) (H : Hp) (a : Act) (xs : List Operand) : Prop := ∀ x ∈ xs, ∀ y, S.opd x = some y → Rep H E y (a.eval x)
theorem OpdOk.get {a : Act} {xs : List Operand} (h : OpdOk S E H a xs) {x : Operand} {y : Sh} (hx : x ∈ xs) (hy : S.opd x = some y) : Rep H E y (a.eval x) := h x hx y hy
theorem opd_of {a : Act} (hO : Objs B S E w H) {x : Operand} (hT : ∀ t y, x = .tmp t → getA S.T t = some y → Rep H E y (a.eval (.tmp t))) {y : Sh} (h : S.opd x = some y) : Rep H E y (a.eval x) := by
  cases x with
  | tmp t =>
    simp only [St.opd, Option.map_eq_some_iff] at h
    obtain ⟨z, hz, rfl⟩ := h
    exact res_rep hO (hT t z rfl hz)
  | const v =>
    simp only [St.opd] at h
    split at h
    · rename_i h1; cases h; exact .v h1
    · cases h
  | func f => simp only [St.opd, Option.some.injEq] at h; subst h; exact .fn .nil .nil
  | global g => simp only [St.opd] at h; cases h

theorem arg1_rep (hO : Objs B S E w H) {x y u} (h : Rep H E x u) (ha : S.arg1 x = some y) : Rep H E0 y u ∧ y.pure = true ∧ (x.one = true → y.one = true) := by
  unfold St.arg1 at ha
  simp only at ha
  split at ha
  · rename_i hp
    cases ha
    refine ⟨(res_rep hO h).pure hp _, hp, fun _ => ?_⟩
    cases hq : S.res x <;> simp_all [Sh.pure, Sh.one]
  · cases ha
theorem argL_rep (hO : Objs B S E w H) : ∀ {xs ys us}, RepL H E xs us → S.argL xs = some ys → RepL H E0 ys us ∧ ys.all Sh.pure = true ∧ (xs.all Sh.one = true → ys.all Sh.one = true)
  | _, _, _, .nil, h => by simp only [St.argL, Option.some.injEq] at h; subst h; exact ⟨.nil, rfl, fun _ => rfl⟩
  | _, _, _, .cons h t, ha => by
    simp only [St.argL, Option.bind_eq_some_iff, Option.map_eq_some_iff] at ha
    obtain ⟨y, hy, l, hl, rfl⟩ := ha
    obtain ⟨a1, a2, a3⟩ := arg1_rep hO h hy
    obtain ⟨b1, b2, b3⟩ := argL_rep hO t hl
    refine ⟨.cons a1 b1, by simp [a2]; simpa using b2, fun h1 => ?_⟩
    simp only [List.all_cons, Bool.and_eq_true] at h1 ⊢
    exact ⟨a3 h1.1, b3 h1.2⟩
theorem arg_rep (hO : Objs B S E w H) {x y u} (h : Rep H E x u) (ha : S.arg x = some y) : Rep H E0 y u := by
  cases h with
  | agg h h1 =>
    simp only [St.arg, Option.map_eq_some_iff] at ha
    obtain ⟨l, hl, rfl⟩ := ha
    obtain ⟨a1, _, a3⟩ := argL_rep hO h hl
    exact .agg a1 (a3 h1)
  | tup h => cases ha
  | v h => cases ha; exact .v h
  | sl a b c d e f g => cases ha; exact .sl a b c d e f g
  | mpn h => cases ha; exact .mpn h
  | mp a b c d e => cases ha; exact .mp a b c d e
  | fn a b => cases ha; exact .fn a b
  | ifc a => cases ha; exact .ifc a
  | fp a b c => cases ha; exact .fp a b c
  | any a => cases ha; exact .any a
  | own h h1 => exact (arg1_rep hO (.own h h1) ha).1
  | ptr h => exact (arg1_rep hO (.ptr h) ha).1
theorem args_rep (hO : Objs B S E w H) {a : Act} : ∀ {xs : List Operand} {ys}, OpdOk S E H a xs → S.args xs = some ys → RepL H E0 ys (xs.map a.eval)
  | [], _, _, h => by simp only [St.args, Option.some.injEq] at h; subst h; exact .nil
  | x :: l, _, ho, ha => by
    simp only [St.args, Option.bind_eq_some_iff, Option.map_eq_some_iff] at ha
    obtain ⟨y, ⟨z, hz, hy⟩, l', hl, rfl⟩ := ha
    exact .cons (arg_rep hO (ho.get (by simp) hz) hy) (args_rep hO (fun x hx => ho x (by simp [hx])) hl)

theorem cells_rep {x u} (h : Rep H E x u) (h1 : x.cells.all Sh.one = true) : RepL H E x.cells u.cells.toList := by
  cases h with
  | agg h _ => simpa [Sh.cells, Value.cells] using h
  | tup h => simp [Sh.cells, Sh.one] at h1
  | v h => 
    have e : u.cells = #[u] := by cases u <;> simp_all [Value.cells, Value.oneCell']
    simp only [Sh.cells, e]; exact .cons (.v h) .nil
  | sl a b c d e f g => exact .cons (.sl a b c d e f g) .nil
  | mpn h => exact .cons (.mpn h) .nil
  | mp a b c d e => exact .cons (.mp a b c d e) .nil
  | fn a b => exact .cons (.fn a b) .nil
  | ifc a => exact .cons (.ifc a) .nil
  | fp a b c => exact .cons (.fp a b c) .nil
  | any h1 =>
    have e : u.cells = #[u] := by cases u <;> simp_all [Value.cells, Value.oneCell']
    simp only [Sh.cells, e]; exact .cons (.any h1) .nil
  | own h h1 =>
    have e : u.cells = #[u] := by cases u <;> simp_all [Value.cells, Value.oneCell']
    simp only [Sh.cells, e]; exact .cons (.own h h1) .nil
  | ptr h => exact .cons (.ptr h) .nil

theorem at_rep (hO : Objs B S E w H) (hs : Sub H w) {x u cs off} (h : Rep H E x u) (ha : S.at x = some (cs, off)) :
    ∃ b o vs, u = .pointer (some ⟨b, o + off, none⟩) ∧ RepL H E cs vs ∧ cs.all Sh.one = true ∧ ∀ j v, vs[j]? = some v → w.cell? ⟨b, o + j, none⟩ = some v := by
  cases h with
  | ptr h =>
    rename_i i idx off' u' k b
    simp only [St.at] at ha
    split at ha
    · rename_i t cs' hg
      cases ha
      obtain ⟨b', vs, h1, h2, h3, h4, h5, h6⟩ := hO _ _ hg
      rw [h] at h1; cases h1
      refine ⟨b, 0, vs, by simp, h5, h6, fun j v hv => ?_⟩
      simp [World.cell?, h4, hv]
    · rename_i e k' es hg
      simp only [Option.map_eq_some_iff, Prod.mk.injEq] at ha
      obtain ⟨el, hel, rfl, rfl⟩ := ha
      obtain ⟨u2, ob, xs, h1, hk, h2, h3⟩ := hO _ _ hg
      rw [h] at h1; cases h1
      rcases h3 with ⟨_, h3, _⟩ | ⟨g, cap, cur, a1, a2, a3, a4, a5, a6, a7, a7', a8, a9⟩
      · cases h3
      · cases a1
        obtain ⟨vs, c1, c2, c3, c4⟩ := h2.get hel
        refine ⟨_, idx * k, vs, rfl, c2.mono (fun _ _ h => h) (E0_le _), c3, fun j v hv => ?_⟩
        have := c4 j v hv
        rw [← a9, List.getElem?_take] at this
        split at this
        · simp [World.cell?, a5]; simpa using this
        · cases this
    · cases ha
  | fp a1 a2 a3 =>
    simp only [St.at, Option.some.injEq, Prod.mk.injEq] at ha
    obtain ⟨rfl, rfl⟩ := ha
    refine ⟨_, _, _, rfl, a1.mono (fun _ _ h => h) (E0_le _), a2, fun j v hv => ?_⟩
    obtain ⟨cells, t, fr, e2, e3⟩ := a3 j v hv
    have := hs _ _ e2
    simp [World.cell?, this, e3]
  | _ => cases ha

theorem cut_rep {cs vs off ag k} (h : RepL H E cs vs) (h1 : cs.all Sh.one = true) (hk : cut cs off ag k) :
    ∃ s, k s ∧ match ag with
      | some n => off + n ≤ vs.length ∧ Rep H E s (.agg ((vs.drop off).take n).toArray)
      | none => ∃ u, vs[off]? = some u ∧ Rep H E s u := by
  unfold cut at hk
  cases ag with
  | some n =>
    refine ⟨_, hk.2, ?_⟩
    simp only
    refine ⟨by rw [← h.length]; exact hk.1, .agg ((h.drop off).take n) ?_⟩
    rw [List.all_eq_true] at h1 ⊢
    intro x hx
    exact h1 x (List.mem_of_mem_drop (List.mem_of_mem_take hx))
  | none =>
    obtain ⟨x, hx, hk⟩ := oB_elim hk
    obtain ⟨u, hu, hr⟩ := h.get hx
    exact ⟨x, hk, u, hu, hr⟩
end
end Go.Proofs.Ytfcjkchpldfamaa

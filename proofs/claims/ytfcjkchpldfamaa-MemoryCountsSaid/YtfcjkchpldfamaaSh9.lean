/-
  The shadow machine: what holds between a shadow state and a running function; one's own memory written, handed over.
-/
import Derived.Test.YtfcjkchpldfamaaSh8
namespace Go.Proofs.Ytfcjkchpldfamaa
set_option linter.unusedSimpArgs false
set_option linter.unusedVariables false
open Go.RowKit Go.Maps

def lives (S : St) (i : Nat) : Prop := ∃ o, getA S.O i = some o ∧ o.live = true

structure Sim (N : Nat) (w0 : World) (H0 : Hp) (S : St) (E : Env) (a : Act) (w : World) (H : Hp) : Prop where
  grow : Grow w0 H0 w H
  tm : ∀ t x, getA S.T t = some x → Rep H E x (a.eval (.tmp t))
  ob : Objs w0.heap.size S E w H
  ap : ∀ i j, i ≠ j → lives S i → lives S j → ∀ b u k u' k', E i = some (u, k, some b) → E j = some (u', k', some b) → False
  fr : ∀ i, S.n ≤ i → E i = none
  sz : a.tmps.size = N
  df : a.defers = []

section
variable {N : Nat} {w0 w w' : World} {H0 H H' : Hp} {S : St} {E : Env} {a : Act}

theorem Sim.sub (h : Sim N w0 H0 S E a w H) : Sub H w := h.grow.sub
theorem Sim.opds (h : Sim N w0 H0 S E a w H) (xs : List Operand) : OpdOk S E H a xs := fun x _ y hy => opd_of h.ob (fun t y _ ht => h.tm t y ht) hy
theorem eval_put_self {a : Act} {d : Nat} {v : Value} (h : d < a.tmps.size) : (a.put (some d) v).eval (.tmp d) = v := by simp [Act.put, Act.eval, h]
theorem eval_put_other {a : Act} {d t : Nat} {v : Value} (h : d ≠ t) : (a.put (some d) v).eval (.tmp t) = a.eval (.tmp t) := by simp [Act.put, Act.eval, Array.getElem?_setIfInBounds_ne h]
theorem put_size {a : Act} {d : Option Nat} {v : Value} : (a.put d v).tmps.size = a.tmps.size := by cases d <;> simp [Act.put]
theorem put_defers {a : Act} {d : Option Nat} {v : Value} : (a.put d v).defers = a.defers := by cases d <;> simp [Act.put]

/-- A slot gets a value. -/
theorem Sim.put (h : Sim N w0 H0 S E a w H) {d : Option Nat} {s : Sh} {v : Value} (hr : Rep H E s v) (hd : ∀ t, d = some t → t < N) : Sim N w0 H0 (S.put? d s) E (a.put d v) w H := by
  cases d with
  | none => exact h
  | some d =>
    refine ⟨h.grow, fun t x hx => ?_, h.ob, h.ap, h.fr, by rw [put_size]; exact h.sz, by rw [put_defers]; exact h.df⟩
    simp only [St.put?, St.put, getA_put] at hx
    split at hx
    · rename_i e; cases hx; subst e
      rw [eval_put_self (by rw [h.sz]; exact hd _ rfl)]; exact hr
    · rename_i e; rw [eval_put_other e]; exact h.tm t x hx
theorem Sim.grown (h : Sim N w0 H0 S E a w H) (g : Grow w H w' H') : Sim N w0 H0 S E a w' H' :=
  ⟨h.grow.trans g, fun t x hx => (h.tm t x hx).mono (g.le h.sub) (ELe.refl _), h.ob.grow g h.sub, h.ap, h.fr, h.sz, h.df⟩
theorem getA_del_some {α : Type} {l : List (Nat × α)} {i j : Nat} {x : α} (h : getA (delA l i) j = some x) : getA l j = some x ∧ i ≠ j := by
  by_cases e : i = j
  · subst e; rw [getA_delA_self] at h; cases h
  · rw [getA_delA_other l e] at h; exact ⟨h, e⟩
/-- A slot is forgotten. -/
theorem Sim.skip (h : Sim N w0 H0 S E a w H) {d : Nat} {v : Value} : Sim N w0 H0 ⟨delA S.T d, S.O, S.n⟩ E (a.put (some d) v) w H := by
  refine ⟨h.grow, fun t x hx => ?_, h.ob, h.ap, h.fr, by rw [put_size]; exact h.sz, by rw [put_defers]; exact h.df⟩
  obtain ⟨hx, e⟩ := getA_del_some hx
  rw [eval_put_other e]; exact h.tm t x hx
/-- Less is known. -/
theorem Sim.less (h : Sim N w0 H0 S E a w H) {S' : St} (hT : ∀ t x, getA S'.T t = some x → getA S.T t = some x) (hO : ∀ i o, getA S'.O i = some o → getA S.O i = some o) (hn : S'.n = S.n) : Sim N w0 H0 S' E a w H :=
  ⟨h.grow, fun t x hx => h.tm t x (hT t x hx), fun i o ho => h.ob i o (hO i o ho), fun i j hij ⟨o, ho, hl⟩ ⟨o', ho', hl'⟩ => h.ap i j hij ⟨o, hO _ _ ho, hl⟩ ⟨o', hO _ _ ho', hl'⟩, fun i hi => h.fr i (by rw [← hn]; exact hi), h.sz, h.df⟩

def Env.set (E : Env) (i : Nat) (p : Value × Nat × Option Nat) : Env := fun j => if j = i then some p else E j
theorem Env.set_self (E : Env) (i : Nat) (p : Value × Nat × Option Nat) : E.set i p i = some p := if_pos rfl
theorem Env.set_le {E : Env} {i : Nat} (p : Value × Nat × Option Nat) (h : E i = none) : ELe E (E.set i p) := fun j q hj => by
  unfold Env.set; rw [if_neg (fun e => by subst e; rw [h] at hj; cases hj)]; exact hj
theorem ObRep.env {B H E E' w i o} (h : ObRep B H E w i o) (g : ELe E E') : ObRep B H E' w i o := by
  cases o with
  | box t cs => obtain ⟨b, vs, h1, h2, h3, h4, h5, h6⟩ := h; exact ⟨b, vs, g _ _ h1, h2, h3, h4, h5.mono (fun _ _ h => h) g, h6⟩
  | row e k es => obtain ⟨u, ob, xs, h1, h⟩ := h; exact ⟨u, ob, xs, g _ _ h1, h⟩
  | map kt N f => obtain ⟨b, o, F, h1, h⟩ := h; exact ⟨b, o, F, g _ _ h1, h⟩
  | iter f left cnt cur => obtain ⟨r, ob, h1, h⟩ := h; exact ⟨r, ob, g _ _ h1, h⟩
  | frz x => obtain ⟨u, k, b, h1, h⟩ := h; exact ⟨u, k, b, g _ _ h1, h⟩

/-- A new part of one's own memory. -/
theorem Sim.new (h : Sim N w0 H0 S E a w H) {o : Ob} {p : Value × Nat × Option Nat} (ho : ObRep w0.heap.size H (E.set S.n p) w S.n o)
    (hfresh : ∀ b, p.2.2 = some b → ∀ i, lives S i → ∀ u k, E i = some (u, k, some b) → False) : Sim N w0 H0 (S.newO o) (E.set S.n p) a w H := by
  have hg := Env.set_le p (h.fr S.n (Nat.le_refl _))
  have hlt : ∀ i o, getA S.O i = some o → i ≠ S.n := fun i o ho e => by
    subst e
    have hn := h.fr S.n (Nat.le_refl _)
    have := h.ob _ _ ho
    cases o with
    | box t cs => obtain ⟨b, vs, h1, _⟩ := this; rw [hn] at h1; cases h1
    | row e k es => obtain ⟨u, ob, xs, h1, _⟩ := this; rw [hn] at h1; cases h1
    | map kt N f => obtain ⟨b, o, F, h1, _⟩ := this; rw [hn] at h1; cases h1
    | iter f left cnt cur => obtain ⟨r, ob, h1, _⟩ := this; rw [hn] at h1; cases h1
    | frz x => obtain ⟨u, k, b, h1, _⟩ := this; rw [hn] at h1; cases h1
  have hget : ∀ i o', getA (S.newO o).O i = some o' → (i = S.n ∧ o' = o) ∨ (i ≠ S.n ∧ getA S.O i = some o') := fun i o' hi => by
    simp only [St.newO, getA] at hi
    split at hi
    · rename_i e; cases hi; exact .inl ⟨e.symm, rfl⟩
    · rename_i e; exact .inr ⟨fun e' => e e'.symm, hi⟩
  refine ⟨h.grow, fun t x hx => (h.tm t x hx).mono (fun _ _ h => h) hg, fun i o' hi => ?_, ?_, fun i hi => ?_, h.sz, h.df⟩
  · rcases hget i o' hi with ⟨rfl, rfl⟩ | ⟨_, hi⟩
    · exact ho
    · exact (h.ob i o' hi).env hg
  · rintro i j hij ⟨o1, ho1, hl1⟩ ⟨o2, ho2, hl2⟩ b u k u' k' e1 e2
    rcases hget i o1 ho1 with ⟨rfl, rfl⟩ | ⟨n1, g1⟩ <;> rcases hget j o2 ho2 with ⟨rfl, rfl⟩ | ⟨n2, g2⟩
    · exact hij rfl
    · rw [Env.set_self] at e1
      unfold Env.set at e2; rw [if_neg n2] at e2
      cases e1
      exact hfresh b rfl j ⟨o2, g2, hl2⟩ _ _ e2
    · rw [Env.set_self] at e2
      unfold Env.set at e1; rw [if_neg n1] at e1
      cases e2
      exact hfresh b rfl i ⟨o1, g1, hl1⟩ _ _ e1
    · unfold Env.set at e1 e2; rw [if_neg n1] at e1; rw [if_neg n2] at e2
      exact h.ap i j hij ⟨o1, g1, hl1⟩ ⟨o2, g2, hl2⟩ b u k u' k' e1 e2
  · unfold Env.set
    simp only [St.newO] at hi
    rw [if_neg (by omega)]
    exact h.fr i (by omega)

/-- Where a live part lies, nothing frozen lies. -/
theorem Sim.live_lt (h : Sim N w0 H0 S E a w H) {i b : Nat} (hl : lives S i) {u k} (hE : E i = some (u, k, some b)) : w0.heap.size ≤ b ∧ H b = none ∧ b < w.heap.size := by
  obtain ⟨o, ho, hlv⟩ := hl
  have := h.ob _ _ ho
  cases o with
  | box t cs => obtain ⟨b', vs, h1, h2, h3, h4, _⟩ := this; rw [hE] at h1; cases h1; exact ⟨h2, h3, (Array.getElem?_eq_some_iff.1 h4).1⟩
  | row e k' es =>
    obtain ⟨u', ob, xs, h1, _, _, h3⟩ := this
    rw [hE] at h1; cases h1
    rcases h3 with ⟨_, h, _⟩ | ⟨g, cap, cur, a1, a2, a3, a4, a5, _⟩
    · cases h
    · cases a1; exact ⟨a3, a4, (Array.getElem?_eq_some_iff.1 a5).1⟩
  | map kt N f => obtain ⟨b', o, F, h1, h2, h3, h4, _⟩ := this; rw [hE] at h1; cases h1; exact ⟨h2, h3, (Array.getElem?_eq_some_iff.1 h4).1⟩
  | iter f left cnt cur => obtain ⟨r, ob, h1, h2, h3, h4, _⟩ := this; rw [hE] at h1; cases h1; exact ⟨h2, h3, (Array.getElem?_eq_some_iff.1 h4).1⟩
  | frz x => cases hlv

/-- A new variable. -/
theorem Sim.newBox (h : Sim N w0 H0 S E a w H) {t : TypeId} {cs : List Sh} {vs : List Value} (hc : RepL H E cs vs) (h1 : cs.all Sh.one = true) {d : Option Nat} (hd : ∀ t, d = some t → t < N) :
    ∃ E', Sim N w0 H0 ((S.newO (.box t cs)).put? d (.ptr S.n 0 0)) E' (a.put d (.pointer (some ⟨w.heap.size, 0, none⟩))) (w.alloc (.cells vs.toArray t)) H := by
  have hg : Grow w H (w.alloc (.cells vs.toArray t)) H := (Grow.refl h.sub).alloc _
  have hr := h.grown hg
  let p : Value × Nat × Option Nat := (.pointer (some ⟨w.heap.size, 0, none⟩), 0, some w.heap.size)
  have hn := h.fr S.n (Nat.le_refl _)
  have hR : Sim N w0 H0 (S.newO (.box t cs)) (E.set S.n p) a (w.alloc (.cells vs.toArray t)) H := by
    refine hr.new ⟨w.heap.size, vs, Env.set_self _ _ _, h.grow.below.size, h.sub.none (Nat.le_refl _), heap_alloc_new w _, hc.mono (fun _ _ h => h) (Env.set_le p hn), h1⟩ ?_
    intro b hb i hl u k hE
    cases hb
    exact absurd (h.live_lt hl hE).2.2 (by omega)
  refine ⟨_, hR.put ?_ hd⟩
  have := Rep.ptr (H := H) (E := E.set S.n p) (i := S.n) (idx := 0) (off := 0) (Env.set_self E S.n p)
  simpa using this

/-- What another part's block is made of does not matter to this part. -/
theorem ObRep.keep {B : Nat} {i b : Nat} {o : Ob} (h : ObRep B H E w i o) (hne : o.live = true → ∀ u k, E i ≠ some (u, k, some b)) (hs : ∀ k, k < w.heap.size → k ≠ b → w'.heap[k]? = w.heap[k]?) : ObRep B H E w' i o := by
  cases o with
  | box t cs =>
    obtain ⟨b', vs, h1, h2, h3, h4, h5, h6⟩ := h
    exact ⟨b', vs, h1, h2, h3, (hs b' (Array.getElem?_eq_some_iff.1 h4).1 (fun e => by subst e; exact hne rfl _ _ h1)).trans h4, h5, h6⟩
  | row e k es =>
    obtain ⟨u, ob, xs, h1, hk, h2, h3⟩ := h
    refine ⟨u, ob, xs, h1, hk, h2, h3.imp id ?_⟩
    rintro ⟨g', cap, cur, a1, a2, a3, a4, a5, a6⟩
    subst a1
    exact ⟨g', cap, cur, rfl, a2, a3, a4, (hs g' (Array.getElem?_eq_some_iff.1 a5).1 (fun e => by subst e; exact hne rfl _ _ h1)).trans a5, a6⟩
  | map kt N f =>
    obtain ⟨b', o, F, h1, h2, h3, h4, h5⟩ := h
    exact ⟨b', o, F, h1, h2, h3, (hs b' (Array.getElem?_eq_some_iff.1 h4).1 (fun e => by subst e; exact hne rfl _ _ h1)).trans h4, h5⟩
  | iter f left cnt cur =>
    obtain ⟨r, ob, h1, h2, h3, h4, h5⟩ := h
    exact ⟨r, ob, h1, h2, h3, (hs r (Array.getElem?_eq_some_iff.1 h4).1 (fun e => by subst e; exact hne rfl _ _ h1)).trans h4, h5⟩
  | frz x => exact h

/-- A part is written. -/
theorem Sim.upd (h : Sim N w0 H0 S E a w H) {i b : Nat} {o' : Ob} {u : Value} {k : Nat} (hi : lives S i) (hE : E i = some (u, k, some b))
    (hs : ∀ k, k < w.heap.size → k ≠ b → w'.heap[k]? = w.heap[k]?) (hsz : w.heap.size ≤ w'.heap.size) (hos : w'.os = w.os) (htp : w'.tape = w.tape) (hout : w'.output = w.output)
    (ho' : ObRep w0.heap.size H E w' i o') (hl' : o'.live = true) : Sim N w0 H0 (S.setO i o') E a w' H := by
  obtain ⟨l1, l2, l3⟩ := h.live_lt hi hE
  have hget : ∀ j o, getA (S.setO i o').O j = some o → (j = i ∧ o = o') ∨ (i ≠ j ∧ getA S.O j = some o) := fun j o hj => by
    simp only [St.setO, getA_put] at hj
    split at hj
    · rename_i e; cases hj; exact .inl ⟨e.symm, rfl⟩
    · rename_i e; exact .inr ⟨e, hj⟩
  refine ⟨⟨⟨hos.trans h.grow.below.os, htp.trans h.grow.below.tape, hout.trans h.grow.below.output, Nat.le_trans h.grow.below.size hsz, fun k hk => ?_⟩, fun k o hk => ?_, h.grow.old⟩, h.tm, fun j o hj => ?_, ?_, h.fr, h.sz, h.df⟩
  · exact (hs k (Nat.lt_of_lt_of_le hk h.grow.below.size) (by omega)).trans (h.grow.below.block k hk)
  · have := h.sub.lt hk
    exact (hs k this (fun e => by subst e; rw [l2] at hk; cases hk)).trans (h.sub k o hk)
  · rcases hget j o hj with ⟨rfl, rfl⟩ | ⟨e, hj⟩
    · exact ho'
    · exact (h.ob j o hj).keep (fun hl u' k' e' => h.ap i j e hi ⟨o, hj, hl⟩ b _ _ _ _ hE e') hs
  · rintro j1 j2 hj ⟨o1, ho1, hl1⟩ ⟨o2, ho2, hl2⟩ b' u1 k1 u2 k2 e1 e2
    rcases hget j1 o1 ho1 with ⟨rfl, rfl⟩ | ⟨n1, g1⟩ <;> rcases hget j2 o2 ho2 with ⟨rfl, rfl⟩ | ⟨n2, g2⟩
    · exact hj rfl
    · exact h.ap _ _ hj hi ⟨o2, g2, hl2⟩ b' _ _ _ _ e1 e2
    · exact h.ap _ _ hj ⟨o1, g1, hl1⟩ hi b' _ _ _ _ e1 e2
    · exact h.ap _ _ hj ⟨o1, g1, hl1⟩ ⟨o2, g2, hl2⟩ b' _ _ _ _ e1 e2
end
end Go.Proofs.Ytfcjkchpldfamaa

/-
  Base: parts of the heap that nobody writes any more; maps as functions from integers to values. Lemmas only.
  A region whose order is drawn: each operation is shown once, from what is known of the operations that it waits for; no order is walked. Lemmas over any program.
  Variables in memory, each a block known whole: read, written, kept. Lemmas over any program.
  Slices as lists: elements of k cells each, each read by R. Lemmas over any program.
  Maps with integer keys: the canonical reading.
  Shadows: what a value means, without the heap. Lemmas only.
  The shadow machine: states, operations, and what each operation does to a shadow state. Definitions.
  The shadow machine: what a shadow state says of a world; reads.
  The shadow machine: the operations that write nothing of one's own are told rightly.
  Views: the contracts of maps.Clone at a view and of View.With.
  The shadow machine: further operations.
  The shadow machine: operations that make values that nobody writes any more.
-/
import Derived.Test.YtijblpkdfmkcfaaRows
import Derived.WalkKit
import Derived.WalkSpells
import Derived.WalkLawsBesides
import Derived.Maps.OwnSet
import Derived.Maps.RangeWalk
import Derived.Maps.Ext
import Derived.Shelf.SlMaps.Clone
import Derived.Deep.AppendLies
import Derived.Deep.RegionHeld3
import Derived.Deep.RegionLawGrows
import Derived.Deep.DrawnRows
import Derived.Deep.QuietTactic
import Derived.BigQuiet
import Derived.Lib.Hide
import Derived.Laws.CopyRow
import Derived.ArgAppend
import Derived.Laws.IdiomRangeMap
import Derived.Laws.Tables
import Derived.Laws.Cells
namespace Go.Proofs.Ytijblpkdfmkcfaa
set_option linter.unusedSimpArgs false
set_option linter.unusedVariables false
open Go.RowKit Go.Maps

/-- A part of a heap. -/
abbrev Hp := Nat → Option Obj
/-- The package variables that are read: each one's block, and what it holds. -/
def gTab : List (Nat × List Value) := []
def GOk (H : Hp) : Prop := ∀ p ∈ gTab, ∃ cells t fr, H p.1 = some (.cells cells t fr) ∧ ∀ (j : Nat) (u : Value), p.2[j]? = some u → cells[j]? = some u
/-- H is a part of w's heap. -/
structure Sub (H : Hp) (w : World) : Prop where
  get : ∀ k o, H k = some o → w.heap[k]? = some o
  glob : GOk H
instance (H : Hp) (w : World) : CoeFun (Sub H w) (fun _ => ∀ k o, H k = some o → w.heap[k]? = some o) := ⟨Sub.get⟩
/-- From (w, H) to (w', H'): what was in w is as it was; H' has more than H, of new blocks alone. -/
structure Grow (w : World) (H : Hp) (w' : World) (H' : Hp) : Prop where
  below : Below w.heap.size w w'
  sub : Sub H' w'
  old : ∀ k, k < w.heap.size → H' k = H k

theorem Sub.lt {H : Hp} {w : World} (h : Sub H w) {k : Nat} {o : Obj} (hk : H k = some o) : k < w.heap.size := (Array.getElem?_eq_some_iff.1 (h k o hk)).1
theorem Sub.none {H : Hp} {w : World} (h : Sub H w) {k : Nat} (hk : w.heap.size ≤ k) : H k = none := by
  cases e : H k with
  | none => rfl
  | some o => exact absurd (h.lt e) (by omega)
theorem Sub.drew {H : Hp} {w : World} (h : Sub H w) : Sub H w.drew := ⟨h.get, h.glob⟩
theorem Sub.below {H : Hp} {w w' : World} {B : Nat} (h : Sub H w) (hb : Below B w w') (hB : ∀ k o, H k = some o → k < B) : Sub H w' :=
  ⟨fun k o hk => (hb.block k (hB k o hk)).trans (h k o hk), h.glob⟩
theorem Sub.alloc {H : Hp} {w : World} (h : Sub H w) (o : Obj) : Sub H (w.alloc o) := ⟨fun k x hk => (Below.heap_alloc w o k (h.lt hk)).trans (h k x hk), h.glob⟩
/-- More of the heap. -/
def Le (H H' : Hp) : Prop := ∀ k o, H k = some o → H' k = some o
theorem GOk.le {H H' : Hp} (h : GOk H) (g : Le H H') : GOk H' := fun p hp => by
  obtain ⟨c, t, fr, e, k⟩ := h p hp
  exact ⟨c, t, fr, g _ _ e, k⟩
theorem Le.refl (H : Hp) : Le H H := fun _ _ h => h
theorem Le.trans {A B C : Hp} (h : Le A B) (k : Le B C) : Le A C := fun i o e => k i o (h i o e)
theorem Grow.le {w w' : World} {H H' : Hp} (g : Grow w H w' H') (h : Sub H w) : Le H H' := fun k o e => by rw [g.old k (h.lt e)]; exact e
theorem Grow.refl {w : World} {H : Hp} (h : Sub H w) : Grow w H w H := ⟨Below.refl _ _, h, fun _ _ => rfl⟩
theorem Grow.trans {a b c : World} {A B C : Hp} (g : Grow a A b B) (k : Grow b B c C) : Grow a A c C :=
  ⟨g.below.trans (k.below.mono g.below.size), k.sub, fun i hi => (k.old i (Nat.lt_of_lt_of_le hi g.below.size)).trans (g.old i hi)⟩

/-! ### Maps whose keys are integers (of 64 bits), whatever their elements -/
/-- Every element reads as itself. -/
def anyElem (v : Value) : Option (DataW Value × List MemPlace) := some (.held v, [])

/-- Block o is a map: f says what it holds at each key. -/
def MapOf (kt : TypeId) (o : Obj) (n : Nat) (f : Int → Option Value) : Prop :=
  ∃ D : DataW Value, (∃ es clock, o = .map es clock ∧ Go.WideElems.Fit Try.prog kt anyElem es clock ∧ es.size ≤ n ∧ D = .map ((es.toList.map (Go.WideElems.rg Try.prog kt anyElem)).foldr DataW.insert [])) ∧
    ∀ k, D.atKey (.int .i64 k) .nil = (match f k with | some v => .held v | Option.none => .nil)

theorem MapOf.owns {kt : TypeId} {o : Obj} {n b : Nat} {f : Int → Option Value} {w : World} (h : MapOf kt o n f) (hb : w.heap[b]? = some o) :
    ∃ D : DataW Value, w.ownsMap Try.prog kt anyElem b n D ∧ ∀ k, D.atKey (.int .i64 k) .nil = (match f k with | some v => .held v | Option.none => .nil) := by
  obtain ⟨D, ⟨es, clock, rfl, F, hs, hD⟩, hf⟩ := h
  exact ⟨D, ⟨es, clock, hb, F, hs, hD⟩, hf⟩
theorem MapOf.of_owns {kt : TypeId} {n b : Nat} {f : Int → Option Value} {w : World} {D : DataW Value} (h : w.ownsMap Try.prog kt anyElem b n D)
    (hf : ∀ k, D.atKey (.int .i64 k) .nil = (match f k with | some v => .held v | Option.none => .nil)) : ∃ o, w.heap[b]? = some o ∧ MapOf kt o n f := by
  obtain ⟨es, clock, hb, F, hs, hD⟩ := h
  exact ⟨_, hb, D, ⟨es, clock, rfl, F, hs, hD⟩, hf⟩

theorem wf64 {k : Int} (h1 : -9223372036854775808 ≤ k) (h2 : k ≤ 9223372036854775807) : (Lit.int .i64 k).wf = true := WalkArith.wf_i64 ⟨h1, h2⟩

/-- The zero value of an element type does not depend on the world, and is what 'atKey' gives where there is none. -/
theorem MapOf.lookup {kt t e : TypeId} {o : Obj} {n b : Nat} {f : Int → Option Value} {w : World} (h : MapOf kt o n f) (hb : w.heap[b]? = some o) (hk : Try.prog.underlying kt = some (.int .i64))
    (ht : Try.prog.underlying t = some (.map kt e)) {z : Value} (hz : (zeroValue e).run Try.prog w = .ok z w) {k : Int} (h1 : -9223372036854775808 ≤ k) (h2 : k ≤ 9223372036854775807) :
    (Instr.lookup t (.map (some b)) (.int .i64 k) false).run Try.prog w = .ok ((f k).getD z) w ∧ (Instr.lookup t (.map (some b)) (.int .i64 k) true).run Try.prog w = .ok (.tuple #[(f k).getD z, .bool (f k).isSome]) w := by
  obtain ⟨D, ⟨es, clock, rfl, F, hs, hD⟩, hf⟩ := h
  have K := int_keyed (P := Try.prog) hk
  have hkey := keyOf_int_mk (P := Try.prog) hk (wf64 h1 h2)
  constructor
  · rcases Maps.fit_look false K ht hz hb F hkey with ⟨hrun, _, hat⟩ | ⟨e0, y, _, _, hrun, hRv, hat, _⟩
    · have := hf k
      rw [hD, hat .nil] at this
      cases e : f k with
      | none => rw [hrun]; rfl
      | some v => rw [e] at this; cases this
    · have h0 := hf k
      rw [hD, hat .nil] at h0
      simp only [anyElem, Option.some.injEq] at hRv
      cases e : f k with
      | none => rw [e, ← hRv] at h0; cases h0
      | some v => rw [e, ← hRv] at h0; simp only [DataW.held.injEq] at h0; rw [hrun]; subst h0; rfl
  · rcases Maps.fit_look true K ht hz hb F hkey with ⟨hrun, _, hat⟩ | ⟨e0, y, _, _, hrun, hRv, hat, _⟩
    · have := hf k
      rw [hD, hat .nil] at this
      cases e : f k with
      | none => rw [hrun]; rfl
      | some v => rw [e] at this; cases this
    · have h0 := hf k
      rw [hD, hat .nil] at h0
      simp only [anyElem, Option.some.injEq] at hRv
      cases e : f k with
      | none => rw [e, ← hRv] at h0; cases h0
      | some v => rw [e, ← hRv] at h0; simp only [DataW.held.injEq] at h0; rw [hrun]; subst h0; rfl

def upd (f : Int → Option Value) (k : Int) (v : Option Value) : Int → Option Value := fun j => if j = k then v else f j

theorem MapOf.update {kt t e : TypeId} {o : Obj} {n b : Nat} {f : Int → Option Value} {w : World} (h : MapOf kt o n f) (hb : w.heap[b]? = some o) (hk : Try.prog.underlying kt = some (.int .i64))
    (ht : Try.prog.underlying t = some (.map kt e)) (hn : n < maxLen) {k : Int} (h1 : -9223372036854775808 ≤ k) (h2 : k ≤ 9223372036854775807) (v : Value) :
    ∃ w' o', (Instr.mapUpdate t (.map (some b)) (.int .i64 k) v).run Try.prog w = .ok () w' ∧ w'.heap[b]? = some o' ∧ MapOf kt o' (n + 1) (upd f k (some v)) ∧ w.grownBy w' (some b) := by
  obtain ⟨D, hown, hf⟩ := h.owns hb
  have K := int_keyed (P := Try.prog) hk
  have hkey := keyOf_int_mk (P := Try.prog) hk (wf64 h1 h2)
  obtain ⟨w', hrun, r1, r2⟩ := hown.update K ht hn hkey (show anyElem v = some (.held v, []) from rfl)
  have hM := (hown.tidy K).isMap
  obtain ⟨o', ho, hm⟩ := MapOf.of_owns (f := upd f k (some v)) r1 (fun j => by
    unfold upd
    by_cases e : j = k
    · subst e; rw [if_pos rfl, atKey_put_same hM (K.key hkey)]
    · rw [if_neg e, atKey_put_other (by intro h; exact e (by cases h; rfl)), hf j])
  exact ⟨w', o', hrun, ho, hm, r2⟩

theorem MapOf.mono {kt : TypeId} {o : Obj} {n n' : Nat} {f : Int → Option Value} (h : MapOf kt o n f) (hn : n ≤ n') : MapOf kt o n' f := by
  obtain ⟨D, ⟨es, clock, ho, F, hs, hD⟩, hf⟩ := h
  exact ⟨D, ⟨es, clock, ho, F, Nat.le_trans hs hn, hD⟩, hf⟩

theorem MapOf.made {kt : TypeId} : MapOf kt (.map #[] 0) 0 (fun _ => Option.none) := by
  obtain ⟨es, clock, hb, F, hs, hD⟩ := World.ownsMap_made (default : World) Try.prog kt anyElem
  have e : ((default : World).alloc (.map #[] 0)).heap[(default : World).heap.size]? = some (.map #[] 0) := (MapKept.heap_alloc (default : World) _).1
  rw [e] at hb
  cases hb
  exact ⟨.map [], ⟨_, _, rfl, F, Nat.le_refl _, hD⟩, fun k => rfl⟩

/-- A nodup list of naturals below n has at most n members. -/
theorem nodup_le : ∀ (n : Nat) (l : List Nat), l.Nodup → (∀ x ∈ l, x < n) → l.length ≤ n
  | 0, l, _, h => by cases l with | nil => simp | cons x r => exact absurd (h x (by simp)) (by omega)
  | n + 1, l, hn, h => by
    have h1 := nodup_le n (l.erase n) (hn.erase n) (fun x hx => by
      have h2 := h x (List.mem_of_mem_erase hx)
      have : x ≠ n := fun e => by subst e; exact (List.Nodup.not_mem_erase hn) hx
      omega)
    rw [List.length_erase] at h1
    split at h1 <;> omega

def litNat : Lit → Nat | .int _ k => k.toNat | _ => 0
theorem MapOf.tight {kt : TypeId} {o : Obj} {n : Nat} {f : Int → Option Value} (h : MapOf kt o n f) (hk : Try.prog.underlying kt = some (.int .i64)) (m : Nat) (hf : ∀ k, (f k).isSome = true → 0 ≤ k ∧ k < m) : MapOf kt o m f := by
  have h0 := h
  obtain ⟨D, ⟨es, clock, rfl, F, hs, hD⟩, hD2⟩ := h
  have K := int_keyed (P := Try.prog) hk
  let w : World := (default : World).alloc (.map es clock)
  have hw : w.heap[(default : World).heap.size]? = some (.map es clock) := (MapKept.heap_alloc (default : World) _).1
  have hown : w.ownsMap Try.prog kt anyElem (default : World).heap.size n D := ⟨es, clock, hw, F, hs, hD⟩
  obtain ⟨ents, hE, hap, hlit⟩ := hown.entries K
  have hsz : es.size = ents.length := by
    have : (DataW.map ((es.toList.map (Go.WideElems.rg Try.prog kt anyElem)).foldr DataW.insert []) : DataW Value) = .map ents := by rw [← hD, hE]
    simp only [DataW.map.injEq] at this
    rw [← this, length_sorted]; simp
  refine ⟨D, ⟨es, clock, rfl, F, ?_, hD⟩, hD2⟩
  have hap2 := Maps.fit_apart K F
  have hkeys : ∀ x ∈ es.toList, ∃ k : Int, (Go.WideElems.rg Try.prog kt anyElem x).1 = .int .i64 k ∧ 0 ≤ k ∧ k < m := by
    intro x hx
    obtain ⟨v, hv⟩ := Maps.fit_keys F _ (List.mem_map.2 ⟨x, hx, rfl⟩)
    obtain ⟨k, _, hk2, _⟩ := Maps.keyOf_int_inv hk hv
    refine ⟨k, hk2, ?_⟩
    obtain ⟨y, hy⟩ := F.reads x hx
    obtain ⟨z, hz, hzd⟩ := Go.WideElems.rd_val hy
    have hmem : Go.WideElems.rg Try.prog kt anyElem x ∈ ents := by
      have : (DataW.map ((es.toList.map (Go.WideElems.rg Try.prog kt anyElem)).foldr DataW.insert []) : DataW Value) = .map ents := by rw [← hD, hE]
      simp only [DataW.map.injEq] at this
      rw [← this]; exact mem_sorted.2 (List.mem_map.2 ⟨x, hx, rfl⟩)
    obtain ⟨p, hp⟩ : ∃ p, p = Go.WideElems.rg Try.prog kt anyElem x := ⟨_, rfl⟩
    rw [← hp] at hmem hk2
    have hrg := Go.WideElems.rg_of hy
    rw [← hp] at hrg
    have hat := WideAt.atKey_mem (entries := ents) (k := p.1) (d := p.2) .nil (hlit p hmem) hap hmem
    rw [hk2, ← hE, hD2 k] at hat
    apply hf k
    cases e : f k with
    | some v => rfl
    | none =>
      rw [e, hrg, hzd] at hat
      simp only [anyElem, Option.some.injEq] at hz
      rw [← hz] at hat
      cases hat
  have hl := nodup_le m (es.toList.map fun x => litNat (Go.WideElems.rg Try.prog kt anyElem x).1) (by
    rw [List.Nodup, List.pairwise_map]
    rw [List.pairwise_map] at hap2
    refine List.Pairwise.imp_of_mem ?_ hap2
    intro a b ha hb hne he
    obtain ⟨k1, e1, r1, _⟩ := hkeys a ha
    obtain ⟨k2, e2, r2, _⟩ := hkeys b hb
    rw [e1, e2] at hne; rw [e1, e2] at he
    simp only [litNat] at he
    exact hne (by rw [show k1 = k2 from by omega])) (by
    intro x hx
    obtain ⟨y, hy, rfl⟩ := List.mem_map.1 hx
    obtain ⟨k1, e1, r1, r2⟩ := hkeys y hy
    rw [e1]; simp only [litNat]; omega)
  simpa using hl

theorem heap_past (w : World) (o : Obj) {k : Nat} {x : Obj} (h : w.heap[k]? = some x) : (w.alloc o).heap[k]? = some x :=
  (Below.heap_alloc w o k (Array.getElem?_eq_some_iff.1 h).1).trans h

/-- The heap with one block more. -/
def Hp.add (H : Hp) (b : Nat) (o : Obj) : Hp := fun k => if k = b then some o else H k
theorem Hp.add_at (H : Hp) (b : Nat) (o : Obj) : H.add b o b = some o := if_pos rfl
theorem Hp.add_le {H : Hp} {b : Nat} {o : Obj} (h : H b = Option.none) : Le H (H.add b o) := fun k x e => by
  unfold Hp.add; rw [if_neg (fun e2 => by subst e2; rw [h] at e; cases e)]; exact e
theorem Hp.add_sub {H : Hp} {b : Nat} {o : Obj} {w : World} (h : Sub H w) (hb : w.heap[b]? = some o) : Sub (H.add b o) w := ⟨fun k x e => by
  unfold Hp.add at e
  split at e
  · rename_i hk; subst hk; cases e; exact hb
  · exact h k x e, fun p hp => by
  obtain ⟨c, t, fr, e, k⟩ := h.glob p hp
  refine ⟨c, t, fr, ?_, k⟩
  unfold Hp.add
  split
  · rename_i hk
    have := h _ _ e
    rw [hk, hb] at this
    exact this
  · exact e⟩
theorem Grow.add {w w' : World} {H H' : Hp} (g : Grow w H w' H') {b : Nat} {o : Obj} (hb : w'.heap[b]? = some o) (hn : w.heap.size ≤ b) : Grow w H w' (H'.add b o) :=
  ⟨g.below, Hp.add_sub g.sub hb, fun k hk => by unfold Hp.add; rw [if_neg (by omega)]; exact g.old k hk⟩
theorem Grow.alloc {w w' : World} {H H' : Hp} (g : Grow w H w' H') (o : Obj) : Grow w H (w'.alloc o) H' := ⟨g.below.alloc g.below.size o, g.sub.alloc o, g.old⟩
theorem Grow.drew {w w' : World} {H H' : Hp} (g : Grow w H w' H') : Grow w H w'.drew H' := ⟨g.below.drew, g.sub.drew, g.old⟩
theorem Grow.grown {w w' w'' : World} {H H' : Hp} (g : Grow w H w' H') {row : Option Nat} (hg : w'.grownBy w'' row) (hr : ∀ k, row = some k → w.heap.size ≤ k ∧ H' k = Option.none) : Grow w H w'' H' :=
  ⟨g.below.grown hg g.below.size (fun k e => (hr k e).1), ⟨fun k o hk => (hg.block k (g.sub.lt hk) (fun e => by have := (hr k e.symm).2; rw [this] at hk; cases hk)).trans (g.sub k o hk), g.sub.glob⟩, g.old⟩

end Go.Proofs.Ytijblpkdfmkcfaa
namespace Go.Proofs.Ytijblpkdfmkcfaa
set_option linter.unusedSimpArgs false
set_option linter.unusedVariables false
open Go.RowKit

/-- What is known of an operation's value, in the world at hand. -/
abbrev Rel := Value → World → Hp → Prop
/-- It stays known while the heap grows. -/
def Keeps (R : Rel) : Prop := ∀ v w H w' H', R v w H → Grow w H w' H' → Sub H w → R v w' H'
theorem keeps_eq (c : Value) : Keeps (fun v _ _ => v = c) := fun _ _ _ _ _ h _ _ => h

def dstv (ops : Array Oper) (a : Act) (j : Nat) : Value := match (ops[j]?).bind (·.dst) with | some t => a.eval (.tmp t) | none => undef
def waits (o : Oper) (j : Nat) : Bool := o.after.toList.any fun e => e.on == j && Region.binds .any e
/-- No one of the first n operations writes slot t. -/
def noDst (ops : Array Oper) (n : Nat) (t : Tmp) : Bool := (ops.toList.take n).all fun o => o.dst != some t
def OutSame (ops : Array Oper) (n : Nat) (a0 a : Act) : Prop := a.defers = a0.defers ∧ a.tmps.size = a0.tmps.size ∧ ∀ t, noDst ops n t = true → a.tmps[t]? = a0.tmps[t]?
def NoQ : Exit → Act → World → Prop := fun _ _ _ => False

section
variable {P : Program} {ops : Array Oper} {Q : Exit → Act → World → Prop} {n : Nat} {a0 : Act} {w0 : World} {H0 : Hp}

def Preds (ops : Array Oper) (Γ : List Rel) (o : Oper) (a : Act) (w : World) (H : Hp) : Prop :=
  ∀ (j : Nat) (R : Rel), waits o j = true → Γ[j]? = some R → R (dstv ops a j) w H

def Obl (P : Program) (ops : Array Oper) (n : Nat) (a0 : Act) (w0 : World) (H0 : Hp) (Γ : List Rel) (o : Oper) (R : Rel) : Prop :=
  ∀ a w H, Grow w0 H0 w H → Preds ops Γ o a w H → OutSame ops n a0 a →
    if Region.wanted o (yielded ops a.tmps) = true then o.wp P a w (fun a' w' => ∃ v H', a' = a.put o.dst v ∧ Grow w H w' H' ∧ R v w' H') NoQ else R undef w H

/-- A float: it may come up behind a store; it looks at no world. -/
def FObl (P : Program) (ops : Array Oper) (n : Nat) (a0 : Act) (w0 : World) (H0 : Hp) (Γ : List Rel) (o : Oper) (R : Rel) : Prop :=
  ∀ a w H, Grow w0 H0 w H → Preds ops Γ o a w H → OutSame ops n a0 a → ∃ v, Yields P ops o v a ∧ R v w H

/-- What stands behind the first n operations, in the world then at hand. -/
def FinL (P : Program) (ops : Array Oper) (Q : Exit → Act → World → Prop) (n : Nat) (w : World) (H : Hp) : List Oper → List Rel → Act → Prop
  | o :: os, R :: Rs, a => ∀ v, R v w H → FinL P ops Q n w H os Rs (a.put o.dst v)
  | _, _, a => wpList P ops Q (ops.toList.drop n) a w

def J (ops : Array Oper) (n : Nat) (a0 : Act) (w0 : World) (H0 : Hp) (Γ : List Rel) (listed : Array Bool) (a : Act) (w : World) : Prop :=
  ∃ H, Grow w0 H0 w H ∧ (∀ (j : Nat) (R : Rel), listed.getD j false = true → Γ[j]? = some R → R (dstv ops a j) w H) ∧ OutSame ops n a0 a ∧ listed.size = ops.size ∧ (∀ j, n ≤ j → listed.getD j false = false) ∧ ∀ (j : Nat) (o : Oper), listed.getD j false = true → ops[j]? = some o → ∀ k, waits o k = true → listed.getD k false = true

theorem Oper.wp_post {o : Oper} {a : Act} {w : World} {K K' : Act → World → Prop} (h : ∀ a w, K a w → K' a w) (hh : o.wp P a w K NoQ) : o.wp P a w K' Q := by
  unfold Oper.wp at *
  generalize (execOp a.eval o).run P w = r at *
  cases r with
  | ok n w' =>
    cases n <;> simp only [Oper.upon] at hh ⊢
    case value u => exact h _ _ hh
    case skip => exact h _ _ hh
    case defer d => exact h _ _ hh
    case enter f args =>
      refine Calls.mono hh fun e w'' he => ?_
      cases e with
      | returned u => exact h _ _ he
      | panicked c => exact he.elim
      | outgrown => obtain ⟨_, _, hf⟩ := he; exact hf.elim
    case row row args => exact Rows.mono hh (fun _ _ he => h _ _ he)
  | halt x w' => cases x <;> simp only [Oper.upon] at hh ⊢ <;> exact hh.elim

theorem getD_of_set {listed : Array Bool} {i j : Nat} (h : (listed.setIfInBounds i true).getD j false = true) : j = i ∨ listed.getD j false = true := by
  by_cases hij : i = j
  · exact .inl hij.symm
  · right; rw [getD_set_ne false hij] at h; exact h

/-- How many are still to come. -/
def leftN (listed : Array Bool) : Nat := listed.toList.countP (fun b => !b)
theorem leftN_set {listed : Array Bool} {i : Nat} (hi : i < listed.size) (h : listed.getD i false = false) : leftN (listed.setIfInBounds i true) + 1 = leftN listed := by
  unfold leftN
  have h1 : listed[i]'hi = false := by simpa [hi] using h
  rw [Array.toList_setIfInBounds]
  have h2 : i < listed.toList.length := by simpa using hi
  have h3 : listed.toList[i] = false := by simpa using h1
  rw [List.set_eq_take_append_cons_drop, if_pos h2]
  have h4 : listed.toList = listed.toList.take i ++ listed.toList[i] :: listed.toList.drop (i + 1) := by rw [← List.drop_eq_getElem_cons h2, List.take_append_drop]
  have h5 : listed.toList.countP (fun b => !b) = (listed.toList.take i ++ listed.toList[i] :: listed.toList.drop (i + 1)).countP (fun b => !b) := by rw [← h4]
  rw [h5, h3]
  simp [List.countP_append, List.countP_cons]
  omega
theorem leftN_zero {listed : Array Bool} (h : leftN listed = 0) (j : Nat) (hj : j < listed.size) : listed.getD j false = true := by
  unfold leftN at h
  rw [List.countP_eq_zero] at h
  have := h (listed[j]) (by simp)
  simp [hj] at this ⊢
  exact this
/-- What an operation waits for. -/
def wl (o : Oper) : List Nat := o.after.toList.filterMap fun e => if Region.binds .any e = true then some e.on else none
/-- .. and those that they wait for, down from k. -/
def downs (ops : Array Oper) : Nat → List Nat → List Nat
  | 0, acc => acc
  | k + 1, acc => downs ops k (if acc.contains k = true then (match ops[k]? with | some o => wl o ++ acc | none => acc) else acc)
theorem wl_spec {o : Oper} {j : Nat} (h : j ∈ wl o) : waits o j = true := by
  unfold wl at h
  obtain ⟨e, he, h⟩ := List.mem_filterMap.1 h
  split at h
  · rename_i hb
    cases h
    unfold waits
    rw [List.any_eq_true]
    exact ⟨e, he, by simp [hb]⟩
  · cases h
theorem downs_spec {ops : Array Oper} {P : Nat → Prop} (hP : ∀ k o, P k → ops[k]? = some o → ∀ j, waits o j = true → P j) : ∀ (k : Nat) (acc : List Nat), (∀ j ∈ acc, P j) → ∀ j ∈ downs ops k acc, P j
  | 0, _, h, j, hj => h j hj
  | k + 1, acc, h, j, hj => by
    refine downs_spec hP k _ (fun i hi => ?_) j hj
    split at hi
    · rename_i hc
      split at hi
      · rename_i o ho
        rcases List.mem_append.1 hi with hi | hi
        · exact hP k o (h k (by simpa using hc)) ho i (wl_spec hi)
        · exact h i hi
      · exact h i hi
    · exact h i hi
/-- The closed facts on a region: n operations in front, then those that come in their order; fl: the floats. -/
def agChk (ops : Array Oper) (n : Nat) (fl : List Nat) : Bool :=
  Region.noSelect ops && decide (n ≤ ops.size) &&
  (List.range ops.size).all (fun i => match ops[i]? with
    | some o => o.after.all (fun e => !Region.binds .any e || decide (e.on < i)) &&
      (decide (i < n) || (List.range i).all (fun j => (decide (j < n) && fl.contains j) || waits o j || (decide (n ≤ j) && (List.range i).any (fun k => decide (j < k) && waits o k)) || (decide (j < n) && (downs ops i (wl o)).contains j)))
    | none => false) &&
  (List.range n).all (fun i => (List.range n).all (fun j => decide (i = j) || match (ops[i]?).bind (·.dst) with | some d => (ops[j]?).bind (·.dst) != some d | none => true)) &&
  fl.all (fun f => decide (f < n) && match ops[f]? with
    | some o => o.after.all (fun e => !Region.binds .any e || !fl.contains e.on) &&
      (List.range ops.size).all (fun j => decide (j = f) || waits o j || match ops[j]? with | some oj => waits oj f || o.apart ops oj | none => true)
    | none => false)

theorem dstv_put_same {a : Act} {i : Nat} {o : Oper} {v : Value} (hi : ops[i]? = some o) (hsz : ∀ d, o.dst = some d → d < a.tmps.size) (hd : o.dst ≠ none) : dstv ops (a.put o.dst v) i = v := by
  unfold dstv
  rw [hi]
  cases ho : o.dst with
  | none => exact absurd ho hd
  | some d =>
    have := hsz d ho
    simp [Act.put, Act.eval, ho, this]

theorem wpAny_of_list (hed : ∀ i o, ops[i]? = some o → ∀ e ∈ o.after, Region.binds .any e = true → e.on < i) (hsuf : ∀ i o, n ≤ i → ops[i]? = some o → ∀ j, n ≤ j → j < i → ∃ k, j ≤ k ∧ waits o k = true) :
    ∀ (m k : Nat) (listed : Array Bool) (a : Act) (w : World), n ≤ k → k + m = ops.size → listed.size = ops.size → (∀ j, j < k → listed.getD j false = true) → (∀ j, k ≤ j → listed.getD j false = false) →
    wpList P ops Q (ops.toList.drop k) a w → wpAny P .any ops Q m listed a w := by
  intro m
  induction m with
  | zero =>
    intro k listed a w _ hk hsz hl _ h
    have h0 : ops.toList.drop k = [] := List.drop_eq_nil_of_le (by simp; omega)
    rw [h0] at h
    refine ⟨?_, h⟩
    rw [List.eq_nil_iff_forall_not_mem]
    intro j hj
    obtain ⟨h1, o, ho, _⟩ := mem_ready.1 hj
    have hlt : j < ops.size := (Array.getElem?_eq_some_iff.1 ho).1
    have h2 := hl j (by omega)
    have hjl : j < listed.size := by omega
    simp [hjl] at h1 h2
    rw [h1] at h2; cases h2
  | succ m ih =>
    intro k listed a w hnk hk hsz hl hu h
    have hlt : k < ops.size := by omega
    have hkl : k < listed.size := by omega
    obtain ⟨o, ho⟩ : ∃ o, ops[k]? = some o := ⟨ops[k], by simp [hlt]⟩
    have hdrop : ops.toList.drop k = o :: ops.toList.drop (k + 1) := by
      have h1 : k < ops.toList.length := by simpa using hlt
      rw [List.drop_eq_getElem_cons h1]
      congr 1
      have : ops.toList[k]? = some o := by simpa using ho
      rw [List.getElem?_eq_getElem h1] at this
      exact Option.some.inj this
    have hkr : k ∈ Region.ready .any ops listed := mem_ready.2 ⟨by have := hu k (Nat.le_refl _); simp [hkl] at this ⊢; exact this, o, ho, fun e he hb => hl _ (hed k o ho e he hb)⟩
    refine ⟨fun h0 => (by rw [h0] at hkr; cases hkr), fun i hi => ?_⟩
    obtain ⟨h1, oi, hoi, hall⟩ := mem_ready.1 hi
    have hilt : i < ops.size := (Array.getElem?_eq_some_iff.1 hoi).1
    have hil : i < listed.size := by omega
    have hik : i = k := by
      rcases Nat.lt_trichotomy i k with h2 | h2 | h2
      · have := hl i h2; simp [hil] at h1 this; rw [h1] at this; cases this
      · exact h2
      · have h3 := hsuf i oi (by omega) hoi k hnk h2
        obtain ⟨k', hk', h3⟩ := h3
        unfold waits at h3
        rw [List.any_eq_true] at h3
        obtain ⟨e, he, h4⟩ := h3
        simp only [Bool.and_eq_true, beq_iff_eq] at h4
        have h5 := hall e (by simpa using he) h4.2
        rw [h4.1, hu k' hk'] at h5
        cases h5
    subst hik
    rw [hdrop] at h
    unfold wpOp
    rw [ho]
    unfold wpList at h
    have hnext : ∀ a w, wpList P ops Q (ops.toList.drop (i + 1)) a w → wpAny P .any ops Q m (listed.setIfInBounds i true) a w := fun a w h => by
      refine ih (i + 1) _ a w (by omega) (by omega) (by simpa using hsz) (fun j hj => ?_) (fun j hj => ?_) h
      · by_cases e : i = j
        · subst e; simp [hkl]
        · rw [getD_set_ne false e]; exact hl j (by omega)
      · rw [getD_set_ne false (by omega)]; exact hu j (by omega)
    simp only
    split
    · rename_i hw
      rw [if_pos hw] at h
      exact h.imp (Oper.wp_mono hnext) id
    · rename_i hw
      rw [if_neg hw] at h
      exact hnext _ _ h

structure AgFacts (ops : Array Oper) (n : Nat) (fl : List Nat) : Prop where
  sel : Region.noSelect ops = true
  le : n ≤ ops.size
  ed : ∀ i o, ops[i]? = some o → ∀ e ∈ o.after, Region.binds .any e = true → e.on < i
  suf : ∀ i o, n ≤ i → ops[i]? = some o → ∀ j, j < i → (j < n ∧ j ∈ fl) ∨ waits o j = true ∨ (n ≤ j ∧ ∃ k, j < k ∧ k < i ∧ waits o k = true) ∨ (j < n ∧ j ∈ downs ops i (wl o))
  dst : ∀ i j, i < n → j < n → i ≠ j → ∀ d, (ops[i]?).bind (·.dst) = some d → (ops[j]?).bind (·.dst) ≠ some d
  fl : ∀ f, f ∈ fl → f < n ∧ ∃ o, ops[f]? = some o ∧ (∀ e ∈ o.after, Region.binds .any e = true → e.on ∉ fl) ∧ ∀ j oj, ops[j]? = some oj → j ≠ f → waits o j = true ∨ waits oj f = true ∨ o.apart ops oj = true

theorem agChk_spec {fl : List Nat} (h : agChk ops n fl = true) : AgFacts ops n fl := by
  unfold agChk at h
  simp only [Bool.and_eq_true, decide_eq_true_eq, List.all_eq_true, List.mem_range] at h
  obtain ⟨⟨⟨⟨h1, h2⟩, h3⟩, h4⟩, h5⟩ := h
  refine ⟨h1, h2, ?_, ?_, ?_, ?_⟩
  · intro i o ho e he hb
    have hlt : i < ops.size := (Array.getElem?_eq_some_iff.1 ho).1
    have h6 := h3 i hlt
    rw [ho] at h6
    simp only [Bool.and_eq_true] at h6
    have h7 := h6.1
    rw [Array.all_eq_true_iff_forall_mem] at h7
    have h8 := h7 e he
    rw [hb] at h8
    simpa using h8
  · intro i o hi ho j hj
    have hlt : i < ops.size := (Array.getElem?_eq_some_iff.1 ho).1
    have h6 := h3 i hlt
    rw [ho] at h6
    simp only [Bool.and_eq_true, Bool.or_eq_true, decide_eq_true_eq, List.all_eq_true, List.mem_range] at h6
    rcases h6.2 with h7 | h7
    · omega
    · rcases h7 j hj with ((⟨a, b⟩ | b) | ⟨a, b⟩) | ⟨a, b⟩
      · exact .inl ⟨a, by simpa using b⟩
      · exact .inr (.inl b)
      · rw [List.any_eq_true] at b
        obtain ⟨k, hk, b⟩ := b
        simp only [Bool.and_eq_true, decide_eq_true_eq] at b
        exact .inr (.inr (.inl ⟨a, k, b.1, by simpa using hk, b.2⟩))
      · exact .inr (.inr (.inr ⟨a, by simpa using b⟩))
  · intro i j hi hj hne d hd
    have h6 := h4 i hi j hj
    rw [hd] at h6
    simp only [Bool.or_eq_true, decide_eq_true_eq] at h6
    rcases h6 with h6 | h6
    · exact absurd h6 hne
    · simpa using h6
  · intro f hf
    have h6 := h5 f hf
    refine ⟨h6.1, ?_⟩
    cases ho : ops[f]? with
    | none => rw [ho] at h6; simp at h6
    | some o =>
      rw [ho] at h6
      simp only [Bool.and_eq_true, List.all_eq_true, List.mem_range, Bool.or_eq_true, decide_eq_true_eq] at h6
      refine ⟨o, rfl, fun e he hb => ?_, fun j oj hoj hne => ?_⟩
      · have h7 := h6.2.1
        rw [Array.all_eq_true_iff_forall_mem] at h7
        have h8 := h7 e he
        rw [hb] at h8
        simpa using h8
      · have hlt : j < ops.size := (Array.getElem?_eq_some_iff.1 hoj).1
        have h7 := h6.2.2 j hlt
        rw [hoj] at h7
        simp only [Bool.or_eq_true] at h7
        rcases h7 with (h7 | h7) | (h7 | h7)
        · exact absurd h7 hne
        · exact .inl h7
        · exact .inr (.inl h7)
        · exact .inr (.inr h7)

theorem waits_spec {o : Oper} {j : Nat} (h : waits o j = true) : ∃ e ∈ o.after, Region.binds .any e = true ∧ e.on = j := by
  unfold waits at h
  rw [List.any_eq_true] at h
  obtain ⟨e, he, h4⟩ := h
  simp only [Bool.and_eq_true, beq_iff_eq] at h4
  exact ⟨e, by simpa using he, h4.2, h4.1⟩
theorem ag_any {fl : List Nat} {Γ : List Rel} (hf : AgFacts ops n fl) (hlen : Γ.length = n) (hk : ∀ (j : Nat) (R : Rel), Γ[j]? = some R → Keeps R)
    (hob : ∀ (j : Nat) (o : Oper) (R : Rel), Γ[j]? = some R → ops[j]? = some o → j ∉ fl → Obl P ops n a0 w0 H0 Γ o R)
    (hfo : ∀ (j : Nat) (o : Oper) (R : Rel), Γ[j]? = some R → ops[j]? = some o → j ∈ fl → FObl P ops n a0 w0 H0 Γ o R)
    (hQ : ∀ c a (d : Tmp) v w, Q (.panic c) (Act.put a (some d) v) w → Q (.panic c) a w)
    (hsz : ∀ (i : Nat) (o : Oper) d, ops[i]? = some o → o.dst = some d → d < a0.tmps.size)
    (hdn : ∀ (i : Nat) (o : Oper), i < n → ops[i]? = some o → o.dst ≠ none)
    (hfin : ∀ a w H, Grow w0 H0 w H → (∀ (j : Nat) (R : Rel), Γ[j]? = some R → R (dstv ops a j) w H) → OutSame ops n a0 a → wpList P ops Q (ops.toList.drop n) a w) :
    ∀ (fuel : Nat) (listed : Array Bool) (a : Act) (w : World), leftN listed = fuel → J ops n a0 w0 H0 Γ listed a w → wpAny P .any ops Q fuel listed a w := by
  have hput : ∀ {listed : Array Bool} {a : Act} {w w' : World} {H H' : Hp} {i : Nat} {o : Oper} {v : Value} {R : Rel}, Sub H w → i < n → ops[i]? = some o → Γ[i]? = some R → listed.getD i false = false →
      Grow w0 H0 w H → (∀ (j : Nat) (R : Rel), listed.getD j false = true → Γ[j]? = some R → R (dstv ops a j) w H) → OutSame ops n a0 a → listed.size = ops.size → (∀ j, n ≤ j → listed.getD j false = false) → (∀ (j : Nat) (o : Oper), listed.getD j false = true → ops[j]? = some o → ∀ k, waits o k = true → listed.getD k false = true) → (∀ k, waits o k = true → listed.getD k false = true) →
      Grow w H w' H' → R v w' H' → J ops n a0 w0 H0 Γ (listed.setIfInBounds i true) (a.put o.dst v) w' := by
    intro listed a w w' H H' i o v R hsub hi ho hR hun hg hrel hsame hls hnl hcl hwl hg' hv
    have hdo := hdn i o hi ho
    obtain ⟨d, hd⟩ : ∃ d, o.dst = some d := by cases h : o.dst with | none => exact absurd h hdo | some d => exact ⟨d, rfl⟩
    have hup : ∀ k, listed.getD k false = true → (listed.setIfInBounds i true).getD k false = true := fun k hk => by
      by_cases e : i = k
      · subst e; rw [hun] at hk; cases hk
      · rw [getD_set_ne false e]; exact hk
    refine ⟨H', hg.trans hg', ?_, ?_, by simpa using hls, ?_, fun j oj hj hoj k hk => ?_⟩
    · intro j R' hj hR'
      by_cases hji : j = i
      · subst hji
        rw [hR] at hR'; cases hR'
        rw [dstv_put_same ho (fun d' hd' => by rw [hsame.2.1]; exact hsz j o d' ho hd') hdo]
        exact hv
      · have hj2 : listed.getD j false = true := by rcases getD_of_set hj with h | h; exact absurd h hji; exact h
        have hjn : j < n := by
          rcases Nat.lt_or_ge j n with h | h
          · exact h
          · rw [hnl j h] at hj2; cases hj2
        have hne : dstv ops (a.put o.dst v) j = dstv ops a j := by
          unfold dstv
          cases hdj : (ops[j]?).bind (·.dst) with
          | none => rfl
          | some t =>
            have h1 : d ≠ t := fun e => by
              subst e
              exact hf.dst j i hjn hi hji d hdj (by rw [ho]; exact hd)
            simp only
            exact Act.eval_put (fun d' hd' e => by rw [hd] at hd'; cases hd'; cases e; exact h1 rfl)
        rw [hne]
        exact hk j R' hR' _ _ _ _ _ (hrel j R' hj2 hR') hg' hsub
    · refine ⟨by rw [← hsame.1, hd]; rfl, by rw [← hsame.2.1, hd]; simp [Act.put], fun t ht => ?_⟩
      rw [← hsame.2.2 t ht, hd]
      have h1 : d ≠ t := fun e => by
        subst e
        unfold noDst at ht
        rw [List.all_eq_true] at ht
        have h2 : o ∈ ops.toList.take n := by
          rw [List.mem_take_iff_getElem]
          have hlt : i < ops.size := (Array.getElem?_eq_some_iff.1 ho).1
          refine ⟨i, by simp; omega, ?_⟩
          have : ops.toList[i]? = some o := by simpa using ho
          rw [List.getElem?_eq_getElem (by simpa using hlt)] at this
          exact Option.some.inj this
        have := ht o h2
        rw [hd] at this
        simp at this
      simp [Act.put, Array.getElem?_setIfInBounds_ne h1]
    · intro j hj
      rw [getD_set_ne false (by omega)]
      exact hnl j hj
    · rcases getD_of_set hj with rfl | hj
      · rw [ho] at hoj; cases hoj
        exact hup k (hwl k hk)
      · exact hup k (hcl j oj hj hoj k hk)
  intro fuel
  induction fuel with
  | zero =>
    intro listed a w hl ⟨H, hg, hrel, hsame, hls, hnl, _⟩
    have hall : ∀ j, j < ops.size → listed.getD j false = true := fun j hj => leftN_zero hl j (by omega)
    have hn : n = ops.size := by
      rcases Nat.lt_or_ge n ops.size with h | h
      · have h1 := hall n h; rw [hnl n (Nat.le_refl _)] at h1; cases h1
      · have := hf.le; omega
    refine wpAny_of_list (n := n) hf.ed (fun i o hi ho j hnj hj => by rcases hf.suf i o hi ho j hj with h | h | ⟨_, k, h1, _, h2⟩ | h; exact absurd h.1 (by omega); exact ⟨j, Nat.le_refl _, h⟩; exact ⟨k, by omega, h2⟩; exact absurd h.1 (by omega)) 0 n listed a w (Nat.le_refl _) (by omega) hls (fun j hj => hall j (by omega)) hnl ?_
    exact hfin a w H hg (fun j R hR => hrel j R (hall j (by have := (List.getElem?_eq_some_iff.1 hR).1; omega)) hR) hsame
  | succ fuel ih =>
    intro listed a w hl hJ
    have hJ0 := hJ
    obtain ⟨H, hg, hrel, hsame, hls, hnl, hcl⟩ := hJ
    have hsub := hg.sub
    have hun : ∀ i, i ∈ Region.ready .any ops listed → i < ops.size ∧ listed.getD i false = false := fun i hi => by
      obtain ⟨h1, oi, hoi, _⟩ := mem_ready.1 hi
      have hlt : i < ops.size := (Array.getElem?_eq_some_iff.1 hoi).1
      have : i < listed.size := by omega
      refine ⟨hlt, ?_⟩
      simp [this] at h1 ⊢; exact h1
    have hpre : ∀ i o, ops[i]? = some o → i ∈ Region.ready .any ops listed → Preds ops Γ o a w H := fun i o ho hi j R hw hR => by
      obtain ⟨_, oi, hoi, hall⟩ := mem_ready.1 hi
      rw [ho] at hoi; cases hoi
      obtain ⟨e, he, hb, rfl⟩ := waits_spec hw
      exact hrel _ R (hall e he hb) hR
    have hrw : ∀ i o, ops[i]? = some o → i ∈ Region.ready .any ops listed → ∀ k, waits o k = true → listed.getD k false = true := fun i o ho hi k hw => by
      obtain ⟨_, oi, hoi, hall⟩ := mem_ready.1 hi
      rw [ho] at hoi; cases hoi
      obtain ⟨e, he, hb, rfl⟩ := waits_spec hw
      exact hall e he hb
    by_cases hflo : ∃ f, f ∈ fl ∧ f ∈ Region.ready .any ops listed
    · obtain ⟨f, hf1, hf2⟩ := hflo
      obtain ⟨hfn, o, ho, hfl1, hfl2⟩ := hf.fl f hf1
      obtain ⟨hlt, hunf⟩ := hun f hf2
      obtain ⟨R, hR⟩ : ∃ R, Γ[f]? = some R := ⟨Γ[f]'(by omega), by simp⟩
      obtain ⟨v, hy, hv⟩ := hfo f o R hR ho hf1 a w H hg (hpre f o ho hf2) hsame
      refine wpAny_first ho (Region.noSelect_spec hf.sel) (fun c a w h => by obtain ⟨d, hd⟩ := Option.ne_none_iff_exists'.1 (hdn f o hfn ho); rw [hd] at h; exact hQ c a d _ w h) fuel listed a w ?_ hf2 hy (ih _ _ _ ?_ (hput hsub hfn ho hR hunf hg hrel hsame hls hnl hcl (hrw f o ho hf2) (Grow.refl hsub) hv))
      · intro j oj hoj hne hunj hnw
        rcases hfl2 j oj hoj hne with h | h | h
        · obtain ⟨e, he, hb, rfl⟩ := waits_spec h
          obtain ⟨_, oi, hoi, hall⟩ := mem_ready.1 hf2
          rw [ho] at hoi; cases hoi
          have h2 := hall e he hb
          have h3 : e.on < listed.size := by
            rcases Nat.lt_or_ge e.on listed.size with h4 | h4
            · exact h4
            · simp [Array.getElem?_eq_none h4] at h2
          simp [h3] at h2 hunj
          rw [h2] at hunj; cases hunj
        · obtain ⟨e, he, hb, he2⟩ := waits_spec h
          exact absurd he2 (hnw e he hb)
        · exact h
      · have := leftN_set (listed := listed) (by omega) hunf
        omega
    · have hready : ∀ i o, ops[i]? = some o → listed.getD i false = false → (∀ j, j < i → listed.getD j false = true) → i ∈ Region.ready .any ops listed := fun i o ho hi hj => by
        have hlt : i < ops.size := (Array.getElem?_eq_some_iff.1 ho).1
        have : i < listed.size := by omega
        exact mem_ready.2 ⟨by simp [this] at hi ⊢; exact hi, o, ho, fun e he hb => hj _ (hf.ed i o ho e he hb)⟩
      refine ⟨fun h0 => ?_, fun i hi => ?_⟩
      · exfalso
        have hex : ∃ i, i < ops.size ∧ listed.getD i false = false := by
          by_cases h : ∃ i, i < ops.size ∧ listed.getD i false = false
          · exact h
          · exfalso
            have hall : ∀ b ∈ listed.toList, (!b) = false := fun b hb => by
              obtain ⟨i, hi, rfl⟩ := List.mem_iff_getElem.1 hb
              have hi2 : i < listed.size := by simpa using hi
              cases hc : listed[i] with
              | true => simp [hc]
              | false => exact absurd ⟨i, by omega, by simp [hi2, hc]⟩ h
            have : leftN listed = 0 := by
              unfold leftN
              rw [List.countP_eq_zero]
              intro b hb
              simp [hall b hb]
            omega
        have hmin : ∀ m i, i < m → i < ops.size → listed.getD i false = false → ∃ k, k < ops.size ∧ listed.getD k false = false ∧ ∀ j, j < k → listed.getD j false = true := by
          intro m
          induction m with
          | zero => intro i h; omega
          | succ m ihm =>
            intro i him hi hif
            by_cases h : ∃ j, j < i ∧ listed.getD j false = false
            · obtain ⟨j, hj, hjf⟩ := h
              exact ihm j (by omega) (by omega) hjf
            · refine ⟨i, hi, hif, fun j hj => ?_⟩
              cases hc : listed.getD j false with
              | true => rfl
              | false => exact absurd ⟨j, hj, hc⟩ h
        obtain ⟨i, hi, hif⟩ := hex
        obtain ⟨k, hk1, hk2, hk3⟩ := hmin (i + 1) i (by omega) hi hif
        have := hready k ops[k] (by simp [hk1]) hk2 hk3
        rw [h0] at this; cases this
      · obtain ⟨hlt, huni⟩ := hun i hi
        obtain ⟨o, ho⟩ : ∃ o, ops[i]? = some o := ⟨ops[i], by simp [hlt]⟩
        by_cases hin : i < n
        · have hnf : i ∉ fl := fun h => hflo ⟨i, h, hi⟩
          obtain ⟨R, hR⟩ : ∃ R, Γ[i]? = some R := ⟨Γ[i]'(by omega), by simp⟩
          have hO := hob i o R hR ho hnf a w H hg (hpre i o ho hi) hsame
          unfold wpOp
          rw [ho]
          simp only
          have hln := leftN_set (listed := listed) (i := i) (by omega) huni
          split
          · rename_i hw
            rw [if_pos hw] at hO
            refine .inl (Oper.wp_post ?_ hO)
            rintro a' w' ⟨v, H', rfl, hg', hv⟩
            exact ih _ _ _ (by omega) (hput hsub hin ho hR huni hg hrel hsame hls hnl hcl (hrw i o ho hi) hg' hv)
          · rename_i hw
            rw [if_neg hw] at hO
            exact ih _ _ _ (by omega) (hput hsub hin ho hR huni hg hrel hsame hls hnl hcl (hrw i o ho hi) (Grow.refl hsub) hO)
        · have hallj : ∀ j, j < i → listed.getD j false = true := fun j hj => by
            have hno : ∀ k, n ≤ k → waits o k = true → False := fun k hk hw => by
              obtain ⟨e2, he2, hb2, h5⟩ := waits_spec hw
              obtain ⟨_, oi, hoi, hall⟩ := mem_ready.1 hi
              rw [ho] at hoi; cases hoi
              have h6 := hall e2 he2 hb2
              rw [h5, hnl k hk] at h6; cases h6
            have hdn : ∀ j, j ∈ downs ops i (wl o) → listed.getD j false = true := downs_spec (P := fun k => listed.getD k false = true) (fun k ok hk hok j hw => hcl k ok hk hok j hw) i _ (fun j hj => hrw i o ho hi j (wl_spec hj))
            rcases hf.suf i o (by omega) ho j hj with ⟨h1, h2⟩ | h | ⟨h1, k, h2, _, h3⟩ | ⟨_, h⟩
            · cases hc : listed.getD j false with
              | true => rfl
              | false =>
                exfalso
                obtain ⟨_, oj, hoj, hj1, _⟩ := hf.fl j h2
                have hjs : j < listed.size := by omega
                refine hflo ⟨j, h2, mem_ready.2 ⟨by simp [hjs] at hc ⊢; exact hc, oj, hoj, fun e he hb => ?_⟩⟩
                have h3 := hf.ed j oj hoj e he hb
                rcases hf.suf i o (by omega) ho e.on (by omega) with ⟨_, h4⟩ | h4 | ⟨h4, k, h6, _, h7⟩ | ⟨_, h4⟩
                · exact absurd h4 (hj1 e he hb)
                · obtain ⟨e2, he2, hb2, h5⟩ := waits_spec h4
                  obtain ⟨_, oi, hoi, hall⟩ := mem_ready.1 hi
                  rw [ho] at hoi; cases hoi
                  rw [← h5]; exact hall e2 he2 hb2
                · exact (hno k (by omega) h7).elim
                · exact hdn _ h4
            · obtain ⟨e2, he2, hb2, h5⟩ := waits_spec h
              obtain ⟨_, oi, hoi, hall⟩ := mem_ready.1 hi
              rw [ho] at hoi; cases hoi
              rw [← h5]; exact hall e2 he2 hb2
            · exact (hno k (by omega) h3).elim
            · exact hdn _ h
          have hi_n : i = n := by
            rcases Nat.lt_or_ge n i with h | h
            · have := hallj n h; rw [hnl n (Nat.le_refl _)] at this; cases this
            · omega
          subst hi_n
          have hcnt : leftN listed = ops.size - i := by
            have : ∀ (m : Nat) (l : List Bool), (∀ j b, l[j]? = some b → (j < m → b = true) ∧ (m ≤ j → b = false)) → l.countP (fun b => !b) = l.length - m := by
              intro m l
              induction l generalizing m with
              | nil => intro _; simp
              | cons b r ihr =>
                intro h
                cases m with
                | zero =>
                  have h1 := (h 0 b rfl).2 (by omega)
                  have h2 := ihr 0 (fun j c hj => ⟨fun h => by omega, fun _ => (h (j + 1) c (by simpa using hj)).2 (by omega)⟩)
                  rw [List.countP_cons, h2, h1]; simp
                | succ m =>
                  have h1 := (h 0 b rfl).1 (by omega)
                  have h2 := ihr m (fun j c hj => ⟨fun hh => (h (j + 1) c (by simpa using hj)).1 (by omega), fun hh => (h (j + 1) c (by simpa using hj)).2 (by omega)⟩)
                  rw [List.countP_cons, h2, h1]; simp
            unfold leftN
            rw [this i listed.toList]
            · simp [hls]
            · intro j b hj
              have hj' : listed[j]? = some b := by simpa using hj
              refine ⟨fun h => ?_, fun h => ?_⟩
              · have := hallj j h; rw [Array.getD_eq_getD_getElem?, hj'] at this; simpa using this
              · have := hnl j h; rw [Array.getD_eq_getD_getElem?, hj'] at this; simpa using this
          have hW := wpAny_of_list (P := P) (Q := Q) (n := i) hf.ed (fun i' o' hi' ho' j hj1 hj2 => by rcases hf.suf i' o' hi' ho' j hj2 with h | h | ⟨_, k, h1, _, h2⟩ | h; exact absurd h.1 (by omega); exact ⟨j, Nat.le_refl _, h⟩; exact ⟨k, by omega, h2⟩; exact absurd h.1 (by omega)) (fuel + 1) i listed a w (Nat.le_refl _) (by omega) hls hallj hnl
            (hfin a w H hg (fun j R hR => hrel j R (hallj j (by have := (List.getElem?_eq_some_iff.1 hR).1; omega)) hR) hsame)
          exact hW.2 i hi

/-- The obligations, one operation behind the other, each with what is known of those before it. -/
def AGL (P : Program) (ops : Array Oper) (Q : Exit → Act → World → Prop) (n : Nat) (fl : List Nat) (a0 : Act) (w0 : World) (H0 : Hp) : List Rel → List Oper → Prop
  | Γ, [] => ∀ W H, Grow w0 H0 W H → FinL P ops Q n W H (ops.toList.take n) Γ a0
  | Γ, o :: rest => ∃ R, Keeps R ∧ (if fl.contains Γ.length = true then FObl P ops n a0 w0 H0 Γ o R else Obl P ops n a0 w0 H0 Γ o R) ∧ AGL P ops Q n fl a0 w0 H0 (Γ ++ [R]) rest

def putsL (ops : Array Oper) (a : Act) : List Oper → Nat → Act → Act
  | [], _, b => b
  | o :: os, k, b => putsL ops a os (k + 1) (b.put o.dst (dstv ops a k))

theorem putsL_eq (a : Act) : ∀ (os : List Oper) (k : Nat) (b : Act), (∀ j, os[j]? = none ∨ os[j]? = ops[k + j]?) → b.defers = a.defers → b.tmps.size = a.tmps.size →
    (∀ t : Nat, b.tmps[t]? = a.tmps[t]? ∨ ∃ o ∈ os, o.dst = some t) → putsL ops a os k b = a
  | [], k, b, _, hd, hs, ht => by
    have : b.tmps = a.tmps := Array.ext_getElem? fun t => (ht t).resolve_right (by simp)
    cases b; cases a; simp_all [putsL]
  | o :: os, k, b, hos, hd, hs, ht => by
    have ho : ops[k]? = some o := by
      rcases hos 0 with h | h
      · simp at h
      · simpa using h.symm
    refine putsL_eq a os (k + 1) _ (fun j => ?_) ?_ ?_ (fun t => ?_)
    · rcases hos (j + 1) with h | h
      · exact .inl (by simpa using h)
      · exact .inr (by simpa [Nat.add_assoc, Nat.add_comm 1 j] using h)
    · cases o.dst <;> exact hd
    · cases o.dst <;> simpa [Act.put] using hs
    · cases hdst : o.dst with
      | none =>
        rcases ht t with h | ⟨o', ho', h⟩
        · exact .inl h
        · rcases List.mem_cons.1 ho' with rfl | hm
          · rw [hdst] at h; cases h
          · exact .inr ⟨o', hm, h⟩
      | some d =>
        by_cases hdt : d = t
        · subst hdt
          left
          unfold dstv
          rw [ho]
          simp only [Option.bind_some, hdst, Act.put, Act.eval]
          rw [Array.getElem?_setIfInBounds]
          by_cases hlt : d < a.tmps.size
          · simp [hs, hlt]
          · simp [hs, hlt]
        · rcases ht t with h | ⟨o', ho', h⟩
          · left; simp only [Act.put]; rw [Array.getElem?_setIfInBounds_ne hdt]; exact h
          · rcases List.mem_cons.1 ho' with rfl | hm
            · rw [hdst] at h; cases h; exact absurd rfl hdt
            · exact .inr ⟨o', hm, h⟩

theorem FinL_puts {w : World} {H : Hp} (a : Act) : ∀ (os : List Oper) (Rs : List Rel) (k : Nat) (b : Act), os.length = Rs.length → (∀ (j : Nat) (R : Rel), Rs[j]? = some R → R (dstv ops a (k + j)) w H) → FinL P ops Q n w H os Rs b →
    wpList P ops Q (ops.toList.drop n) (putsL ops a os k b) w
  | [], [], _, _, _, _, h => h
  | o :: os, R :: Rs, k, b, hl, hr, h => FinL_puts a os Rs (k + 1) _ (by simpa using hl) (fun j R' hR' => by have := hr (j + 1) R' (by simpa using hR'); simpa [Nat.add_assoc, Nat.add_comm 1 j] using this) (h _ (hr 0 R (by simp)))
  | [], _ :: _, _, _, hl, _, _ => by simp at hl
  | _ :: _, [], _, _, hl, _, _ => by simp at hl

theorem AGL_spec {fl : List Nat} : ∀ (rest : List Oper) (Γ : List Rel), (∀ j, rest[j]? = none ∨ rest[j]? = ops[Γ.length + j]?) → AGL P ops Q n fl a0 w0 H0 Γ rest → (∀ (j : Nat) (R : Rel), Γ[j]? = some R → Keeps R) →
    (∀ (j : Nat) (o : Oper) (R : Rel), Γ[j]? = some R → ops[j]? = some o → if fl.contains j = true then FObl P ops n a0 w0 H0 Γ o R else Obl P ops n a0 w0 H0 Γ o R) →
    ∃ Γ', Γ'.length = Γ.length + rest.length ∧ (∀ (j : Nat) (R : Rel), Γ'[j]? = some R → Keeps R) ∧
      (∀ (j : Nat) (o : Oper) (R : Rel), Γ'[j]? = some R → ops[j]? = some o → if fl.contains j = true then FObl P ops n a0 w0 H0 Γ' o R else Obl P ops n a0 w0 H0 Γ' o R) ∧ ∀ W H, Grow w0 H0 W H → FinL P ops Q n W H (ops.toList.take n) Γ' a0
  | [], Γ, _, h, hk, ho => ⟨Γ, by simp, hk, ho, h⟩
  | o :: rest, Γ, hr, ⟨R, hR, hO, h⟩, hk, ho => by
    have hmono : ∀ (o' : Oper) (a : Act) (w : World) (H : Hp), Preds ops (Γ ++ [R]) o' a w H → Preds ops Γ o' a w H := fun o' a w H hp j R' hw hR' => hp j R' hw (by
      rw [List.getElem?_append_left (List.getElem?_eq_some_iff.1 hR').1]; exact hR')
    have hlift : ∀ (o' : Oper) (R' : Rel) (b : Bool), (if b = true then FObl P ops n a0 w0 H0 Γ o' R' else Obl P ops n a0 w0 H0 Γ o' R') → (if b = true then FObl P ops n a0 w0 H0 (Γ ++ [R]) o' R' else Obl P ops n a0 w0 H0 (Γ ++ [R]) o' R') := fun o' R' b hb => by
      cases b with
      | true => simp only [if_true] at hb ⊢; exact fun a w H hg hp hs => hb a w H hg (hmono _ _ _ _ hp) hs
      | false => simp only [Bool.false_eq_true, if_false] at hb ⊢; exact fun a w H hg hp hs => hb a w H hg (hmono _ _ _ _ hp) hs
    have hcase : ∀ (j : Nat) (R' : Rel), (Γ ++ [R])[j]? = some R' → (j < Γ.length ∧ Γ[j]? = some R') ∨ (j = Γ.length ∧ R' = R) := fun j R' hj => by
      rcases Nat.lt_or_ge j Γ.length with h1 | h1
      · rw [List.getElem?_append_left h1] at hj; exact .inl ⟨h1, hj⟩
      · rw [List.getElem?_append_right h1] at hj
        have h2 : j - Γ.length = 0 := by
          have := (List.getElem?_eq_some_iff.1 hj).1; simp at this; omega
        rw [h2] at hj; simp at hj
        exact .inr ⟨by omega, hj.symm⟩
    obtain ⟨Γ', h1, h2, h3, h4⟩ := AGL_spec rest (Γ ++ [R]) (fun j => by
        rcases hr (j + 1) with h | h
        · exact .inl (by simpa using h)
        · exact .inr (by simpa [Nat.add_assoc, Nat.add_comm 1 j] using h)) h
      (fun j R' hj => by rcases hcase j R' hj with ⟨_, h⟩ | ⟨_, rfl⟩; exact hk j R' h; exact hR)
      (fun j o' R' hj ho' => by
        rcases hcase j R' hj with ⟨_, h⟩ | ⟨rfl, rfl⟩
        · exact hlift _ _ _ (ho j o' R' h ho')
        · have : ops[Γ.length]? = some o := by
            rcases hr 0 with h | h
            · simp at h
            · simpa using h.symm
          rw [this] at ho'; cases ho'
          exact hlift _ _ _ hO)
    exact ⟨Γ', by simp [h1]; omega, h2, h3, h4⟩

/-- The closed facts on the slots. -/
def agDst (ops : Array Oper) (n : Nat) (sz : Nat) : Bool := (ops.toList.all fun o => match o.dst with | some d => decide (d < sz) | none => true) && ((ops.toList.take n).all fun o => o.dst.isSome)

theorem agl_wpAny {fl : List Nat} {w : World} (hc : agChk ops n fl = true) (hd : agDst ops n a0.tmps.size = true)
    (hQ : ∀ c a (d : Tmp) v w, Q (.panic c) (Act.put a (some d) v) w → Q (.panic c) a w) (hg : Grow w0 H0 w H0)
    (h : AGL P ops Q n fl a0 w0 H0 [] (ops.toList.take n)) : wpAny P .any ops Q ops.size (Array.replicate ops.size false) a0 w := by
  have hf := agChk_spec hc
  unfold agDst at hd
  simp only [Bool.and_eq_true, List.all_eq_true] at hd
  obtain ⟨hd1, hd2⟩ := hd
  have htake : ∀ j : Nat, (ops.toList.take n)[j]? = none ∨ (ops.toList.take n)[j]? = ops[([] : List Rel).length + j]? := fun j => by
    by_cases hj : j < n
    · right; rw [List.getElem?_take, if_pos hj]; simp
    · left; rw [List.getElem?_take, if_neg hj]
  obtain ⟨Γ, h1, h2, h3, h4⟩ := AGL_spec _ [] htake h (fun j R hj => by simp at hj) (fun j o R hj => by simp at hj)
  have hlen : Γ.length = n := by rw [h1]; simp; have := hf.le; omega
  refine ag_any (a0 := a0) (w0 := w0) (H0 := H0) hf hlen h2 (fun j o R hR ho hfl => ?_) (fun j o R hR ho hfl => ?_) hQ ?_ ?_ ?_ _ _ _ _ ?_ ?_
  · have := h3 j o R hR ho
    rw [if_neg (by simpa using hfl)] at this
    exact this
  · have := h3 j o R hR ho
    rw [if_pos (by simpa using hfl)] at this
    exact this
  · intro i o d ho hdo
    have := hd1 o (by rw [List.mem_iff_getElem?]; exact ⟨i, by simpa using ho⟩)
    rw [hdo] at this
    simpa using this
  · intro i o hi ho hn
    have := hd2 o (by rw [List.mem_iff_getElem?]; exact ⟨i, by rw [List.getElem?_take, if_pos hi]; simpa using ho⟩)
    rw [hn] at this; cases this
  · intro a w' H hg' hr hs
    have hF := h4 w' H hg'
    have hp := FinL_puts (P := P) (Q := Q) (n := n) a (ops.toList.take n) Γ 0 a0 (by rw [hlen]; simp; have := hf.le; omega) (fun j R hR => by rw [Nat.zero_add]; exact hr j R hR) hF
    rw [putsL_eq a _ 0 a0 (fun j => htake j) hs.1.symm hs.2.1.symm (fun t => ?_)] at hp
    · exact hp
    · by_cases ht : noDst ops n t = true
      · exact .inl (hs.2.2 t ht).symm
      · right
        unfold noDst at ht
        rw [List.all_eq_true] at ht
        simp only [bne_iff_ne, ne_eq] at ht
        by_cases hex : ∃ o ∈ ops.toList.take n, o.dst = some t
        · exact hex
        · exact absurd (fun o ho hh => hex ⟨o, ho, hh⟩) ht
  · unfold leftN
    rw [Array.toList_replicate, List.countP_replicate]; simp
  · have hrep : ∀ j, (Array.replicate ops.size false).getD j false = false := fun j => by
      rw [Array.getD_eq_getD_getElem?, Array.getElem?_replicate]; split <;> rfl
    exact ⟨H0, hg, fun j R hj => (by rw [hrep j] at hj; cases hj), ⟨rfl, rfl, fun _ _ => rfl⟩, by simp, fun j _ => hrep j, fun j o hj => (by rw [hrep j] at hj; cases hj)⟩

/-- A region that draws its order. -/
theorem wp_region_ag {id : Nat} (n : Nat) (fl : List Nat) (H0 : Hp) (hm : P.follows .mixedOrders = true) (hc : agChk ops n fl = true) (hd : agDst ops n a0.tmps.size = true)
    (hQ : ∀ c a (d : Tmp) v w, Q (.panic c) (Act.put a (some d) v) w → Q (.panic c) a w) (hs : Sub H0 w0)
    (h : AGL P ops Q n fl a0 w0 H0 [] (ops.toList.take n)) : (Code.region id ops true).wp P Q a0 w0 :=
  wp_region_any hm (agl_wpAny hc hd hQ (Grow.refl hs).drew h)

end
/-! ### One lemma for each kind of operation -/
section
variable {P : Program} {ops : Array Oper} {Q : Exit → Act → World → Prop} {n : Nat} {fl : List Nat} {a0 : Act} {w0 : World} {H0 : Hp} {Γ : List Rel} {o : Oper} {rest : List Oper}

theorem oeval {a : Act} (h : OutSame ops n a0 a) {t : Tmp} (ht : noDst ops n t = true) : a.eval (.tmp t) = a0.eval (.tmp t) := by
  have := h.2.2 t ht
  simp [Act.eval, this]
theorem yielded_of {a : Act} {j : Nat} {b : Bool} (h : dstv ops a j = .bool b) : yielded ops a.tmps j = some b := by
  unfold dstv at h
  unfold yielded
  cases hd : (ops[j]?).bind (·.dst) with
  | none => rw [hd] at h; cases h
  | some t =>
    rw [hd] at h
    simp only [Act.eval] at h
    cases ht : a.tmps[t]? with
    | none => rw [Array.getD_eq_getD_getElem?, ht] at h; cases h
    | some v => rw [Array.getD_eq_getD_getElem?, ht] at h; simp only [Option.getD_some] at h; subst h; simp [ht]
theorem wanted_none {y : Nat → Option Bool} (h : o.guard = none) : Region.wanted o y = true := by simp [Region.wanted, h]
theorem wanted_some {a : Act} {j : Nat} {b b' : Bool} (h : o.guard = some (j, b)) (hj : dstv ops a j = .bool b') : Region.wanted o (yielded ops a.tmps) = (b' == b) := by
  simp [Region.wanted, h, yielded_of hj]
theorem wants {a : Act} {j : Nat} {b : Bool} (h : o.guard = some (j, b)) (hj : dstv ops a j = .bool b) : Region.wanted o (yielded ops a.tmps) = true := by
  rw [wanted_some h hj]; exact beq_self_eq_true b

/-- A call returns c x for some x of which Φ holds; of what was there nothing has turned. -/
def RetPost (w : World) (H : Hp) {X : Type} (c : X → Value) (Φ : X → Hp → Prop) (e : Ending) (w' : World) : Prop := ∃ x H', e = .returned (c x) ∧ Grow w H w' H' ∧ Φ x H'
theorem ret_mk {w : World} {H : Hp} {X : Type} {c : X → Value} {Φ : X → Hp → Prop} {w' : World} (x : X) (H' : Hp) (hg : Grow w H w' H') (hx : Φ x H') : RetPost w H c Φ (.returned (c x)) w' := ⟨x, H', rfl, hg, hx⟩
def Ret (P : Program) (f : FuncId) (args : Array Value) (w : World) (H : Hp) {X : Type} (c : X → Value) (Φ : X → Hp → Prop) : Prop := Calls P f args w (RetPost w H c Φ)
def RetVPost (w : World) (v : Value) (e : Ending) (w' : World) : Prop := e = .returned v ∧ Below w.heap.size w w'
theorem retv_mk {w : World} {v : Value} {w' : World} (hb : Below w.heap.size w w') : RetVPost w v (.returned v) w' := ⟨rfl, hb⟩
/-- A call returns v; of what was there nothing has turned, and nothing new matters. -/
def RetV (P : Program) (f : FuncId) (args : Array Value) (w : World) (v : Value) : Prop :=
  Calls P f args w (RetVPost w v)

theorem agl_nil (h : ∀ W H, Grow w0 H0 W H → FinL P ops Q n W H (ops.toList.take n) Γ a0) : AGL P ops Q n fl a0 w0 H0 Γ [] := h
variable {w : World} {H : Hp} {os : List Oper} {Rs : List Rel} {a : Act}
end
end Go.Proofs.Ytijblpkdfmkcfaa
namespace Go.Proofs.Ytijblpkdfmkcfaa
set_option linter.unusedSimpArgs false
set_option linter.unusedVariables false
open Go.RowKit

/-- Block b holds the cells cs; it may be written. -/
def Box (w : World) (b : Nat) (cs : Array Value) (t : TypeId) : Prop := w.heap[b]? = some (.cells cs t (0, 0))
/-- w' is w but for block b, which holds cs now. -/
structure Put (w : World) (b : Nat) (cs : Array Value) (t : TypeId) (w' : World) : Prop where
  box : Box w' b cs t
  same : ∀ k, k ≠ b → w'.heap[k]? = w.heap[k]?
  size : w'.heap.size = w.heap.size
  os : w'.os = w.os
  tape : w'.tape = w.tape
  output : w'.output = w.output

theorem Box.lt {w : World} {b : Nat} {cs : Array Value} {t : TypeId} (h : Box w b cs t) : b < w.heap.size := (Array.getElem?_eq_some_iff.1 h).1
theorem Box.cell {w : World} {b : Nat} {cs : Array Value} {t : TypeId} (h : Box w b cs t) : ∀ i, w.cell? ⟨b, i, none⟩ = cs[i]? := fun i => by
  unfold Box at h
  simp [World.cell?, h]
theorem Box.frozen {w : World} {b : Nat} {cs : Array Value} {t : TypeId} (h : Box w b cs t) : ∀ i, w.frozen? ⟨b, i, none⟩ = false := fun i => by
  unfold Box at h
  simp [World.frozen?, h]
theorem Box.grow {w w' : World} {H H' : Hp} {b : Nat} {cs : Array Value} {t : TypeId} (h : Box w b cs t) (g : Grow w H w' H') : Box w' b cs t :=
  (g.below.block b h.lt).trans h
theorem Box.below {w w' : World} {b B : Nat} {cs : Array Value} {t : TypeId} (h : Box w b cs t) (g : Below B w w') (hB : b < B) : Box w' b cs t := (g.block b hB).trans h
theorem Box.put {w w' : World} {b b' : Nat} {cs cs' : Array Value} {t t' : TypeId} (h : Box w b cs t) (p : Put w b' cs' t' w') (hne : b ≠ b') : Box w' b cs t := (p.same b hne).trans h
theorem Box.grownBy {w w' : World} {b : Nat} {row : Option Nat} {cs : Array Value} {t : TypeId} (h : Box w b cs t) (g : w.grownBy w' row) (hne : some b ≠ row) : Box w' b cs t := (g.block b h.lt hne).trans h
theorem Put.grow {w w1 w' : World} {H H1 : Hp} {b : Nat} {cs : Array Value} {t : TypeId} (p : Put w1 b cs t w') (g : Grow w H w1 H1) (hb : w.heap.size ≤ b) (hH : H1 b = none) : Grow w H w' H1 :=
  ⟨⟨p.os.trans g.below.os, p.tape.trans g.below.tape, p.output.trans g.below.output, by rw [p.size]; exact g.below.size, fun k hk => (p.same k (by omega)).trans (g.below.block k hk)⟩,
   ⟨fun k o hk => (p.same k (fun e => by rw [e, hH] at hk; cases hk)).trans (g.sub k o hk), g.sub.glob⟩, g.old⟩
theorem Sub.put {w w' : World} {H : Hp} {b : Nat} {cs : Array Value} {t : TypeId} (h : Sub H w) (p : Put w b cs t w') (hH : H b = Option.none) : Sub H w' :=
  ⟨fun k o hk => (p.same k (fun e => by rw [e, hH] at hk; cases hk)).trans (h k o hk), h.glob⟩
theorem put_setRow {w : World} {b : Nat} {cs cs' : Array Value} {t : TypeId} (h : Box w b cs t) : Put w b cs' t (w.setRow b cs') := by
  refine ⟨setRow_heap w b cs cs' t _ h, fun k hk => ?_, ?_, rfl, rfl, rfl⟩
  · simp only [World.setRow, Array.getElem?_modify]
    rw [if_neg (by omega)]
  · simp [World.setRow]

section
variable {P : Program} {ops : Array Oper} {rest : List Oper} {o : Oper} {a : Act} {w : World} {Q : Exit → Act → World → Prop}

theorem run_storeAt_box (t : TypeId) (b : Nat) (cs : Array Value) (t0 : TypeId) (hb : Box w b cs t0) (val : Value) (off : Nat) (hi : (P.info? t).map (·.size) = some val.cells.size) (hn : off + val.cells.size ≤ cs.size) (h1 : ∀ v ∈ val.cells.toList, v.oneCell' = true) :
    (Instr.storeAt t (.pointer (some ⟨b, off, none⟩)) val).run P w = .ok () (w.setRow b (cs.toList.take off ++ val.cells.toList ++ cs.toList.drop (off + val.cells.size)).toArray) := by
  have hsz : ∃ i, P.info? t = some i ∧ i.size = val.cells.size := by
    cases h : P.info? t with
    | none => rw [h] at hi; cases hi
    | some i => rw [h] at hi; exact ⟨i, rfl, by simpa using hi⟩
  obtain ⟨i, hq, hs⟩ := hsz
  have := run_storeCells_at (P := P) b off t0 val.cells.toList 0 cs w hb (by simpa using hn) h1
  simp only [Nat.add_zero, Array.length_toList] at this
  simp [Instr.storeAt, Instr.sureAddr, storeVar, sizeOf, typeInfo, hq, hs, this, Result.andThen]

variable {c : Code}
end
end Go.Proofs.Ytijblpkdfmkcfaa
namespace Go.Proofs.Ytijblpkdfmkcfaa
set_option linter.unusedSimpArgs false
set_option linter.unusedVariables false
open Go.RowKit

/-- How the cells of one element read. -/
abbrev Elt (α : Type) := Hp → List Value → α → Prop
def Mono {α : Type} (R : Elt α) : Prop := ∀ H H' cs x, Le H H' → R H cs x → R H' cs x

/-- The cells xs, k to an element, read as l. -/
def FlatR {α : Type} (k : Nat) (R : Elt α) (H : Hp) (xs : List Value) (l : List α) : Prop :=
  xs.length = l.length * k ∧ ∀ i x, l[i]? = some x → R H ((xs.drop (i * k)).take k) x

/-- The slice (a, n, c) reads as l; its cells lie in H. -/
def SlR {α : Type} (k : Nat) (R : Elt α) (H : Hp) (a : Option Addr) (n c : Nat) (l : List α) : Prop :=
  ∃ xs : List Value, l.length = n ∧ n ≤ c ∧ (a = none → c = 0) ∧ FlatR k R H xs l ∧ (∀ u ∈ xs, u.oneCell' = true) ∧
    ∀ j u, xs[j]? = some u → ∃ b o cells t fr, a = some ⟨b, o, none⟩ ∧ H b = some (.cells cells t fr) ∧ cells[o + j]? = some u

variable {α : Type} {k : Nat} {R : Elt α} {H H' : Hp} {a : Option Addr} {n c : Nat} {l : List α} {xs : List Value}

theorem FlatR.le (h : FlatR k R H xs l) (hm : Mono R) (g : Le H H') : FlatR k R H' xs l := ⟨h.1, fun i x hx => hm _ _ _ _ g (h.2 i x hx)⟩
theorem SlR.le (h : SlR k R H a n c l) (hm : Mono R) (g : Le H H') : SlR k R H' a n c l := by
  obtain ⟨xs, h1, h2, h3, h4, h5, h6⟩ := h
  refine ⟨xs, h1, h2, h3, h4.le hm g, h5, fun j u hu => ?_⟩
  obtain ⟨b, o, cells, t, fr, e1, e2, e3⟩ := h6 j u hu
  exact ⟨b, o, cells, t, fr, e1, g _ _ e2, e3⟩
theorem FlatR.nil : FlatR k R H [] ([] : List α) := ⟨by simp, fun i x h => by simp at h⟩
theorem FlatR.append {ys : List Value} {m : List α} (h : FlatR k R H xs l) (h' : FlatR k R H ys m) : FlatR k R H (xs ++ ys) (l ++ m) := by
  refine ⟨by simp [h.1, h'.1, Nat.add_mul], fun i x hx => ?_⟩
  rcases Nat.lt_or_ge i l.length with hi | hi
  · rw [List.getElem?_append_left hi] at hx
    have h1 := h.2 i x hx
    have h2 : i * k + k ≤ xs.length := by rw [h.1]; have := Nat.mul_le_mul_right k (show i + 1 ≤ l.length from hi); rw [Nat.add_mul] at this; omega
    rw [List.drop_append_of_le_length (by omega), List.take_append_of_le_length (by simp; omega)]
    exact h1
  · rw [List.getElem?_append_right hi] at hx
    have h1 := h'.2 _ x hx
    have h2 : i * k - xs.length = (i - l.length) * k := by rw [h.1, Nat.sub_mul]
    have h3 : xs.length ≤ i * k := by rw [h.1]; exact Nat.mul_le_mul_right k hi
    rw [List.drop_append, List.drop_of_length_le h3, List.nil_append, h2]
    exact h1
theorem FlatR.one {es : List Value} {x : α} (hl : es.length = k) (h : R H es x) : FlatR k R H es [x] :=
  ⟨by simp [hl], fun i y hy => by
    cases i with
    | zero => simp at hy; subst hy; simpa [← hl] using h
    | succ i => simp at hy⟩
theorem FlatR.take (h : FlatR k R H xs l) (m : Nat) : FlatR k R H (xs.take (m * k)) (l.take m) := by
  refine ⟨?_, fun i x hx => ?_⟩
  · rw [List.length_take, List.length_take, h.1]
    rcases Nat.le_total m l.length with hm | hm
    · rw [Nat.min_eq_left hm, Nat.min_eq_left (Nat.mul_le_mul_right k hm)]
    · rw [Nat.min_eq_right hm, Nat.min_eq_right (Nat.mul_le_mul_right k hm)]
  · rw [List.getElem?_take] at hx
    split at hx
    · rename_i hi
      have h1 := h.2 i x hx
      have h2 : i * k + k ≤ m * k := by have := Nat.mul_le_mul_right k (show i + 1 ≤ m from hi); rw [Nat.add_mul] at this; omega
      rw [List.drop_take, List.take_take, Nat.min_eq_left (by omega)]
      exact h1
    · cases hx
theorem FlatR.drop (h : FlatR k R H xs l) (m : Nat) : FlatR k R H (xs.drop (m * k)) (l.drop m) := by
  refine ⟨?_, fun i x hx => ?_⟩
  · rw [List.length_drop, List.length_drop, h.1, Nat.sub_mul]
  · rw [List.getElem?_drop] at hx
    have h1 := h.2 _ x hx
    rw [List.drop_drop]
    rw [Nat.add_mul] at h1
    exact h1

theorem SlR.len (h : SlR k R H a n c l) : l.length = n := h.choose_spec.1
theorem SlR.cap (h : SlR k R H a n c l) : n ≤ c := h.choose_spec.2.1
theorem SlR.nil (R : Elt α) (H : Hp) : SlR k R H none 0 0 ([] : List α) := ⟨[], rfl, Nat.le_refl _, fun _ => rfl, FlatR.nil, by simp, fun j u h => by simp at h⟩

/-- What lies at place i. -/
theorem SlR.at (h : SlR k R H a n c l) {i : Nat} {x : α} (hx : l[i]? = some x) (hk : 0 < k) :
    ∃ b o es, a = some ⟨b, o, none⟩ ∧ es.length = k ∧ R H es x ∧ (∃ ob, H b = some ob) ∧ ∀ w, Sub H w → ∀ j u, es[j]? = some u → w.cell? ⟨b, o + i * k + j, none⟩ = some u := by
  obtain ⟨xs, h1, h2, h3, h4, h5, h6⟩ := h
  have hi : i < l.length := (List.getElem?_eq_some_iff.1 hx).1
  have hlen : i * k + k ≤ xs.length := by rw [h4.1]; have := Nat.mul_le_mul_right k (show i + 1 ≤ l.length from hi); rw [Nat.add_mul] at this; omega
  obtain ⟨u0, hu0⟩ : ∃ u, xs[i * k]? = some u := ⟨xs[i * k]'(by omega), by simp⟩
  obtain ⟨b, o, cells, t, fr, e1, e2, e3⟩ := h6 _ u0 hu0
  refine ⟨b, o, (xs.drop (i * k)).take k, e1, by simp; omega, h4.2 i x hx, ⟨_, e2⟩, fun w hw j u hu => ?_⟩
  have hj : j < k := by have := (List.getElem?_eq_some_iff.1 hu).1; simp at this; omega
  rw [List.getElem?_take, if_pos hj, List.getElem?_drop] at hu
  obtain ⟨b', o', cells', t', fr', f1, f2, f3⟩ := h6 _ u hu
  rw [e1] at f1
  simp only [Option.some.injEq, Addr.mk.injEq] at f1
  obtain ⟨rfl, rfl, _⟩ := f1
  rw [e2] at f2
  simp only [Option.some.injEq, Obj.cells.injEq] at f2
  obtain ⟨rfl, _, _⟩ := f2
  have := hw _ _ e2
  rw [← Nat.add_assoc] at f3
  simp [World.cell?, this, f3]

/-- The cells of the whole. -/
theorem SlR.cells (h : SlR k R H a n c l) : ∃ xs : List Value, xs.length = n * k ∧ FlatR k R H xs l ∧ (∀ u ∈ xs, u.oneCell' = true) ∧ ∀ w, Sub H w → ∀ ad, a = some ad → ∀ j u, xs[j]? = some u → w.cell? (ad.add j) = some u := by
  obtain ⟨xs, h1, h2, h3, h4, h5, h6⟩ := h
  refine ⟨xs, by rw [h4.1, h1], h4, h5, fun w hw ad had j u hu => ?_⟩
  obtain ⟨b, o, cells, t, fr, e1, e2, e3⟩ := h6 j u hu
  rw [had] at e1
  cases e1
  rw [Addr.add_lit]
  have := hw _ _ e2
  simp [World.cell?, this, e3]

/-- A slice written out. -/
theorem SlR.lit {b : Nat} {cs : Array Value} {t : TypeId} {fr : Nat × Nat} (hH : H b = some (.cells cs t fr)) (hf : FlatR k R H cs.toList l) (h1 : ∀ u ∈ cs.toList, u.oneCell' = true) (hn : l.length = n) : SlR k R H (some ⟨b, 0, none⟩) n n l :=
  ⟨cs.toList, hn, Nat.le_refl _, fun e => (by cases e), hf, h1, fun j u hu => ⟨b, 0, cs, t, fr, rfl, hH, by simpa using hu⟩⟩

structure SlV where
  a : Option Addr
  n : Nat
  c : Nat

end Go.Proofs.Ytijblpkdfmkcfaa
namespace Go.Proofs.Ytijblpkdfmkcfaa
set_option linter.unusedSimpArgs false
set_option linter.unusedVariables false
open Go.RowKit Go.Maps

/-- The canonical reading of the map that f describes. -/
def DF (D : DataW Value) (f : Int → Option Value) : Prop := ∃ es, D = .map es ∧ es.Pairwise (fun p q => p.1.before q.1 = true) ∧ ∀ p, p ∈ es ↔ ∃ k v, p = (.int .i64 k, .held v) ∧ f k = some v
theorem DF.one {D D' : DataW Value} {f : Int → Option Value} (h : DF D f) (h' : DF D' f) : D = D' := by
  obtain ⟨es, rfl, r, m⟩ := h
  obtain ⟨es', rfl, r', m'⟩ := h'
  rw [eq_of_mem_rising r r' (fun p => (m p).trans (m' p).symm)]
theorem DF.nil {f : Int → Option Value} (h : ∀ k, f k = none) : DF (.map []) f := ⟨[], rfl, List.Pairwise.nil, fun p => ⟨fun h => by simp at h, fun ⟨k, v, _, h2⟩ => by rw [h] at h2; cases h2⟩⟩

theorem MapOf.df {kt : TypeId} {o : Obj} {n b : Nat} {f : Int → Option Value} {w : World} (h : MapOf kt o n f) (hb : w.heap[b]? = some o) (hk : Try.prog.underlying kt = some (.int .i64)) :
    ∃ D : DataW Value, w.ownsMap Try.prog kt anyElem b n D ∧ DF D f := by
  obtain ⟨D, hown, hf⟩ := h.owns hb
  have K := int_keyed (P := Try.prog) hk
  have hown0 := hown
  obtain ⟨es, rfl, hris, hkl⟩ := hown.canon K
  have hap := apart_of_rising hris
  have hkeys : ∀ p ∈ es, ∃ k v, p = (.int .i64 k, .held v) := by
    obtain ⟨es0, clock, _, F, _, hD⟩ := hown0
    simp only [DataW.map.injEq] at hD
    intro p hp
    rw [hD] at hp
    obtain ⟨x, hx, rfl⟩ := List.mem_map.1 (mem_sorted.1 hp)
    obtain ⟨y, hy⟩ := F.reads x hx
    obtain ⟨z, hz, hzd⟩ := Go.WideElems.rd_val hy
    have hrg := Go.WideElems.rg_of hy
    obtain ⟨v, hv⟩ := Maps.fit_keys F _ (List.mem_map.2 ⟨x, hx, rfl⟩)
    obtain ⟨k, _, hk2, _⟩ := Maps.keyOf_int_inv hk hv
    simp only [anyElem, Option.some.injEq] at hz
    refine ⟨k, x.val, Prod.ext hk2 ?_⟩
    rw [hrg, hzd, ← hz]
  refine ⟨_, hown, es, rfl, hris, fun p => ⟨fun hp => ?_, fun ⟨k, v, hp, hv⟩ => ?_⟩⟩
  · obtain ⟨k, v, rfl⟩ := hkeys p hp
    refine ⟨k, v, rfl, ?_⟩
    have hat := WideAt.atKey_mem (entries := es) (k := .int .i64 k) (d := .held v) .nil (hkl _ hp) hap hp
    rw [hf k] at hat
    cases e : f k with
    | some v' => rw [e] at hat; simp only [DataW.held.injEq] at hat; rw [hat]
    | none => rw [e] at hat; cases hat
  · subst hp
    have hat := hf k
    rw [hv] at hat
    cases hh : Maps.has (.map es) (.int .i64 k) with
    | false => rw [Maps.atKey_of_not_has hh .nil] at hat; cases hat
    | true =>
      obtain ⟨p, hp, hs⟩ := List.any_eq_true.1 (show es.any (fun p => p.1.sameKey (.int .i64 k)) = true from hh)
      have e1 : p.1 = .int .i64 k := WideAt.sameKey_eq hs
      have e2 : (DataW.map es).atKey (.int .i64 k) .nil = p.2 := by rw [← e1]; exact WideAt.atKey_mem .nil (hkl p hp) hap hp
      have : p = (.int .i64 k, .held v) := Prod.ext e1 (by rw [← e2, hat])
      rw [← this]; exact hp

end Go.Proofs.Ytijblpkdfmkcfaa
namespace Go.Proofs.Ytijblpkdfmkcfaa
set_option linter.unusedSimpArgs false
set_option linter.unusedVariables false
open Go.RowKit

/-- What a value means. 'sl': a slice that nobody writes any more, k cells an element, g: what is known of its capacity (1: it is the length; 0: an empty one has none; 2: nothing); 'mp': such a map; 'fp': a pointer into such memory; 'own', 'ptr': a part of the caller's own memory. -/
inductive Sh where
  | v (x : Value)
  | agg (cs : List Sh)
  | tup (cs : List Sh)
  | sl (k : Nat) (g : Nat) (es : List (List Sh))
  | mp (kt : TypeId) (f : Int → Option Sh)
  | fn (f : Fn) (first cap : List Sh)
  | ifc (t : TypeId) (x : Sh)
  | fp (e : List Sh) (off : Nat)
  | own (i : Nat)
  | ptr (i idx off : Nat)
  | any

def Sh.one : Sh → Bool
  | .agg _ | .tup _ => false
  | .v _ | .sl .. | .mp .. | .fn .. | .ifc .. | .fp .. | .own _ | .ptr .. | .any => true
/-- No part of one's own memory. -/
def Sh.pure : Sh → Bool
  | .agg _ | .tup _ | .own _ | .ptr .. => false
  | .v _ | .sl .. | .mp .. | .fn .. | .ifc .. | .fp .. | .any => true

/-- Where one's own parts lie: the value that names the whole, the cells of an element, the block. -/
abbrev Env := Nat → Option (Value × Nat × Option Nat)
def E0 : Env := fun _ => none
def ELe (E E' : Env) : Prop := ∀ i p, E i = some p → E' i = some p

/-- What is known of a slice's capacity. -/
def CapOk (g n c : Nat) : Prop := (g = 1 → c = n) ∧ (g = 0 → n = 0 → c = 0)

mutual
inductive Rep (H : Hp) : Env → Sh → Value → Prop
  | v {E x} : x.oneCell' = true → Rep H E (.v x) x
  | agg {E cs vs} : RepL H E cs vs → (cs.all Sh.one) = true → Rep H E (.agg cs) (.agg vs.toArray)
  | tup {E cs vs} : RepL H E cs vs → Rep H E (.tup cs) (.tuple vs.toArray)
  | sl {E k full es a n c xs} : RepEs H k es xs → es.length = n → n ≤ c → c ≤ maxLen → CapOk full n c → (a = none → c = 0) →
      (∀ j u, xs[j]? = some u → ∃ b o cells t fr, a = some ⟨b, o, none⟩ ∧ H b = some (.cells cells t fr) ∧ cells[o + j]? = some u) → Rep H E (.sl k full es) (.slice a n c)
  | mpn {E kt f} : (∀ i, f i = none) → Rep H E (.mp kt f) (.map none)
  | mp {E kt f b o N F} : H b = some o → MapOf kt o N F → N ≤ 1000000 → (∀ i, f i = none ↔ F i = none) → (∀ i s u, f i = some s → F i = some u → Rep H E0 s u) → Rep H E (.mp kt f) (.map (some b))
  | fn {E f first cap vs us} : RepL H E0 first vs → RepL H E0 cap us → Rep H E (.fn f first cap) (.func f vs.toArray us.toArray)
  | ifc {E t x u} : Rep H E0 x u → Rep H E (.ifc t x) (.iface t u)
  | fp {E e off b o xs} : RepL H E0 e xs → (e.all Sh.one) = true →
      (∀ j u, xs[j]? = some u → ∃ cells t fr, H b = some (.cells cells t fr) ∧ cells[o + j]? = some u) → Rep H E (.fp e off) (.pointer (some ⟨b, o + off, none⟩))
  | own {E i u k b} : E i = some (u, k, b) → u.oneCell' = true → Rep H E (.own i) u
  | ptr {E i idx off u k b} : E i = some (u, k, some b) → Rep H E (.ptr i idx off) (.pointer (some ⟨b, idx * k + off, none⟩))
  | any {E u} : u.oneCell' = true → Rep H E .any u
inductive RepL (H : Hp) : Env → List Sh → List Value → Prop
  | nil {E} : RepL H E [] []
  | cons {E x u cs vs} : Rep H E x u → RepL H E cs vs → RepL H E (x :: cs) (u :: vs)
inductive RepEs (H : Hp) : Nat → List (List Sh) → List Value → Prop
  | nil {k} : RepEs H k [] []
  | cons {k e vs es xs} : RepL H E0 e vs → vs.length = k → (e.all Sh.one) = true → RepEs H k es xs → RepEs H k (e :: es) (vs ++ xs)
end

section
variable {H H' : Hp} {E E' : Env}

theorem E0_le (E : Env) : ELe E0 E := fun _ _ h => by cases h
theorem ELe.refl (E : Env) : ELe E E := fun _ _ h => h

theorem Rep.mono0 (hH : Le H H') {E x v} (h : Rep H E x v) : ∀ E', ELe E E' → Rep H' E' x v := by
  refine Rep.rec (motive_1 := fun E x v _ => ∀ E', ELe E E' → Rep H' E' x v) (motive_2 := fun E x v _ => ∀ E', ELe E E' → RepL H' E' x v) (motive_3 := fun k x v _ => RepEs H' k x v)
    ?_ ?_ ?_ ?_ ?_ ?_ ?_ ?_ ?_ ?_ ?_ ?_ ?_ ?_ ?_ ?_ h
  · intro E x h E' _; exact .v h
  · intro E cs vs _ h1 ih E' g; exact .agg (ih E' g) h1
  · intro E cs vs _ ih E' g; exact .tup (ih E' g)
  · intro E k full es a n c xs _ h1 h2 h3 h4 h5 h6 ih E' _
    exact .sl ih h1 h2 h3 h4 h5 (fun j u hu => by obtain ⟨b, o, cells, t, fr, e1, e2, e3⟩ := h6 j u hu; exact ⟨b, o, cells, t, fr, e1, hH _ _ e2, e3⟩)
  · intro E kt f h E' _; exact .mpn h
  · intro E kt f b o N F h1 h2 h3 h4 _ ih E' _; exact .mp (hH _ _ h1) h2 h3 h4 (fun i s u a b => ih i s u a b E0 (ELe.refl _))
  · intro E f first cap vs us _ _ ih1 ih2 E' _; exact .fn (ih1 E0 (ELe.refl _)) (ih2 E0 (ELe.refl _))
  · intro E t x u _ ih E' _; exact .ifc (ih E0 (ELe.refl _))
  · intro E e off b o xs _ h1 h2 ih E' _
    exact .fp (ih E0 (ELe.refl _)) h1 (fun j u hu => by obtain ⟨cells, t, fr, e2, e3⟩ := h2 j u hu; exact ⟨cells, t, fr, hH _ _ e2, e3⟩)
  · intro E i u k b h h1 E' g; exact .own (g _ _ h) h1
  · intro E i idx off u k b h E' g; exact .ptr (g _ _ h)
  · intro E u h E' _; exact .any h
  · intro E E' _; exact .nil
  · intro E x u cs vs _ _ ih1 ih2 E' g; exact .cons (ih1 E' g) (ih2 E' g)
  · intro k; exact .nil
  · intro k e vs es xs _ h1 h2 _ ih1 ih2; exact .cons (ih1 E0 (ELe.refl _)) h1 h2 ih2
theorem Rep.mono {x v} (h : Rep H E x v) (hH : Le H H') (g : ELe E E') : Rep H' E' x v := h.mono0 hH E' g
theorem RepL.mono {E E' : Env} (hH : Le H H') (g : ELe E E') : ∀ {cs vs}, RepL H E cs vs → RepL H' E' cs vs
  | _, _, .nil => .nil
  | _, _, .cons h t => .cons (h.mono hH g) (RepL.mono hH g t)
theorem RepEs.mono (hH : Le H H') {k} : ∀ {es xs}, RepEs H k es xs → RepEs H' k es xs
  | _, _, .nil => .nil
  | _, _, .cons h h1 h2 t => .cons (h.mono hH (ELe.refl _)) h1 h2 (RepEs.mono hH t)

/-- A pure shadow needs no environment. -/
theorem Rep.pure {x v} (h : Rep H E x v) (hp : x.pure = true) (E' : Env) : Rep H E' x v := by
  cases h with
  | v h => exact .v h
  | agg => cases hp
  | tup => cases hp
  | sl a b c d e f g => exact .sl a b c d e f g
  | mpn h => exact .mpn h
  | mp a b c d e => exact .mp a b c d e
  | fn a b => exact .fn a b
  | ifc a => exact .ifc a
  | fp a b c => exact .fp a b c
  | any h => exact .any h
  | own => cases hp
  | ptr => cases hp
theorem RepL.pure {E : Env} (E' : Env) : ∀ {cs vs}, RepL H E cs vs → cs.all Sh.pure = true → RepL H E' cs vs
  | _, _, .nil, _ => .nil
  | _, _, .cons h t, hp => by simp only [List.all_cons, Bool.and_eq_true] at hp; exact .cons (h.pure hp.1 E') (RepL.pure E' t hp.2)

theorem Rep.oneCell {x v} (h : Rep H E x v) (h1 : x.one = true) : v.oneCell' = true := by
  cases h with
  | v h => exact h
  | agg => cases h1
  | tup => cases h1
  | own _ h => exact h
  | any h => exact h
  | _ => rfl
theorem RepL.length {E} : ∀ {cs : List Sh} {vs : List Value}, RepL H E cs vs → cs.length = vs.length
  | _, _, .nil => rfl
  | _, _, .cons _ t => by simp [RepL.length t]
theorem RepL.one {E} : ∀ {cs : List Sh} {vs : List Value}, RepL H E cs vs → cs.all Sh.one = true → ∀ u ∈ vs, u.oneCell' = true
  | _, _, .nil, _ => by simp
  | _, _, .cons h t, ha => by
    simp only [List.all_cons, Bool.and_eq_true] at ha
    intro u hu
    rcases List.mem_cons.1 hu with rfl | hu
    · exact h.oneCell ha.1
    · exact RepL.one t ha.2 u hu
theorem RepL.get {E} : ∀ {cs : List Sh} {vs : List Value} {i : Nat} {x : Sh}, RepL H E cs vs → cs[i]? = some x → ∃ u, vs[i]? = some u ∧ Rep H E x u
  | _, _, _, _, .nil, h => by simp at h
  | _, _, 0, _, .cons h t, hx => by simp at hx; subst hx; exact ⟨_, rfl, h⟩
  | _, _, i + 1, _, .cons h t, hx => by simp at hx ⊢; exact RepL.get t hx
theorem RepL.append {E} : ∀ {cs cs' : List Sh} {vs vs' : List Value}, RepL H E cs vs → RepL H E cs' vs' → RepL H E (cs ++ cs') (vs ++ vs')
  | _, _, _, _, .nil, h => h
  | _, _, _, _, .cons h t, h' => .cons h (RepL.append t h')
theorem RepL.take {E} : ∀ {cs : List Sh} {vs : List Value} (n : Nat), RepL H E cs vs → RepL H E (cs.take n) (vs.take n)
  | _, _, 0, _ => by simp; exact .nil
  | _, _, n + 1, .nil => by simp; exact .nil
  | _, _, n + 1, .cons h t => by simp; exact .cons h (RepL.take n t)
theorem RepL.drop {E} : ∀ {cs : List Sh} {vs : List Value} (n : Nat), RepL H E cs vs → RepL H E (cs.drop n) (vs.drop n)
  | _, _, 0, h => by simpa using h
  | _, _, n + 1, .nil => by simp; exact .nil
  | _, _, n + 1, .cons h t => by simp; exact RepL.drop n t
theorem RepL.set {E} {x : Sh} {u : Value} (hx : Rep H E x u) : ∀ {cs : List Sh} {vs : List Value} (n : Nat), RepL H E cs vs → RepL H E (cs.set n x) (vs.set n u)
  | _, _, _, .nil => by simp; exact .nil
  | _, _, 0, .cons h t => by simp; exact .cons hx t
  | _, _, n + 1, .cons h t => by simp; exact .cons h (RepL.set hx n t)

theorem RepEs.length {k} : ∀ {es : List (List Sh)} {xs : List Value}, RepEs H k es xs → xs.length = es.length * k
  | _, _, .nil => by simp
  | _, _, .cons h h1 _ t => by simp [RepEs.length t, h1, Nat.add_mul, Nat.add_comm]
theorem RepEs.one {k} : ∀ {es : List (List Sh)} {xs : List Value}, RepEs H k es xs → ∀ u ∈ xs, u.oneCell' = true
  | _, _, .nil => by simp
  | _, _, .cons h h1 h2 t => by
    intro u hu
    rcases List.mem_append.1 hu with hu | hu
    · exact h.one h2 u hu
    · exact RepEs.one t u hu
theorem RepEs.get {k} : ∀ {es : List (List Sh)} {xs : List Value} {i : Nat} {e : List Sh}, RepEs H k es xs → es[i]? = some e →
    ∃ vs, vs.length = k ∧ RepL H E0 e vs ∧ e.all Sh.one = true ∧ ∀ j u, vs[j]? = some u → xs[i * k + j]? = some u
  | _, _, _, _, .nil, h => by simp at h
  | _, _, 0, _, .cons h h1 h2 t, hx => by
    simp at hx; subst hx
    refine ⟨_, h1, h, h2, fun j u hu => ?_⟩
    have := (List.getElem?_eq_some_iff.1 hu).1
    rw [List.getElem?_append_left (by omega)]; simpa using hu
  | _, _, i + 1, _, .cons (vs := vs0) h h1 h2 t, hx => by
    simp at hx
    obtain ⟨vs, a, b, c, d⟩ := RepEs.get t hx
    refine ⟨vs, a, b, c, fun j u hu => ?_⟩
    rw [List.getElem?_append_right (by rw [Nat.add_mul]; omega)]
    have := d j u hu
    rw [← this]; congr 1; rw [Nat.add_mul]; omega
theorem RepEs.append {k} : ∀ {es es' : List (List Sh)} {xs xs' : List Value}, RepEs H k es xs → RepEs H k es' xs' → RepEs H k (es ++ es') (xs ++ xs')
  | _, _, _, _, .nil, h => h
  | _, _, _, _, .cons h h1 h2 t, h' => by rw [List.append_assoc]; exact .cons h h1 h2 (RepEs.append t h')
theorem RepEs.take {k} : ∀ {es : List (List Sh)} {xs : List Value} (n : Nat), RepEs H k es xs → RepEs H k (es.take n) (xs.take (n * k))
  | _, _, 0, _ => by simp; exact .nil
  | _, _, n + 1, .nil => by simp; exact .nil
  | _, _, n + 1, .cons (vs := vs) (xs := xs) h h1 h2 t => by
    have e : (vs ++ xs).take ((n + 1) * k) = vs ++ xs.take (n * k) := by
      rw [List.take_append, h1, List.take_of_length_le (by rw [Nat.add_mul]; omega)]; congr 2; rw [Nat.add_mul]; omega
    rw [e, List.take_succ_cons]
    exact .cons h h1 h2 (RepEs.take n t)
theorem RepEs.drop {k} : ∀ {es : List (List Sh)} {xs : List Value} (n : Nat), RepEs H k es xs → RepEs H k (es.drop n) (xs.drop (n * k))
  | _, _, 0, h => by simpa using h
  | _, _, n + 1, .nil => by simp; exact .nil
  | _, _, n + 1, .cons (vs := vs) (xs := xs) h h1 h2 t => by
    have e : (vs ++ xs).drop ((n + 1) * k) = xs.drop (n * k) := by
      rw [List.drop_append, h1, List.drop_of_length_le (by rw [Nat.add_mul]; omega), List.nil_append]; congr 1; rw [Nat.add_mul]; omega
    rw [e, List.drop_succ_cons]
    exact RepEs.drop n t
theorem RepEs.one1 {k} {e : List Sh} {vs : List Value} (h : RepL H E0 e vs) (hl : vs.length = k) (h1 : e.all Sh.one = true) : RepEs H k [e] vs := by
  have := RepEs.cons h hl h1 (RepEs.nil (H := H) (k := k)); simpa using this
theorem RepEs.set {k} {e : List Sh} {vs : List Value} (h : RepL H E0 e vs) (hl : vs.length = k) (h1 : e.all Sh.one = true) :
    ∀ {es : List (List Sh)} {xs : List Value} (i : Nat), i < es.length → RepEs H k es xs → RepEs H k (es.set i e) (xs.take (i * k) ++ vs ++ xs.drop ((i + 1) * k))
  | es, xs, i, hi, hE => by
    have a := hE.take i
    have b := hE.drop (i + 1)
    rw [List.set_eq_take_append_cons_drop, if_pos hi]
    have := (a.append (RepEs.one1 h hl h1)).append b
    simpa using this
end
end Go.Proofs.Ytijblpkdfmkcfaa
namespace Go.Proofs.Ytijblpkdfmkcfaa
set_option linter.unusedSimpArgs false
set_option linter.unusedVariables false
open Go.RowKit

/-- A map that is gone through: its block, who was there when it began, its clock. -/
structure Rg where
  b : Nat
  L : List (Value × Nat)
  c : Nat
/-- A part of one's own memory. 'mpr': a map under a range that may write what is there; 'itm': its iterator. -/
inductive Ob where
  | box (t : TypeId) (cs : List Sh)
  | row (e : TypeId) (k : Nat) (es : List (List Sh))
  | map (kt : TypeId) (N : Nat) (f : Int → Option Sh)
  | iter (f : Int → Option Sh) (left : Int → Bool) (cnt : Nat) (cur : Option (Int × Sh))
  | frz (x : Sh)
  | obx (e : TypeId) (cs : List Sh)
  | gh (J : Hp → Env → Prop)
  | mpr (q : Rg) (kt : TypeId) (N : Nat) (f : Int → Option Sh)
  | itm (q : Rg) (kt : TypeId) (left : Int → Bool) (cnt : Nat) (cur : Option Int)
def Ob.live : Ob → Bool
  | .frz _ => false
  | .gh _ => false
  | _ => true

/-- A state: what the slots mean, one's own memory, the next free number. -/
structure St where
  T : List (Nat × Sh)
  O : List (Nat × Ob)
  n : Nat

section
variable {α : Type}
def getA : List (Nat × α) → Nat → Option α
  | [], _ => none
  | (k, x) :: l, i => if k = i then some x else getA l i
def delA : List (Nat × α) → Nat → List (Nat × α)
  | [], _ => []
  | (k, x) :: l, i => if k = i then delA l i else (k, x) :: delA l i
theorem getA_delA_self (l : List (Nat × α)) (i : Nat) : getA (delA l i) i = none := by
  induction l with
  | nil => rfl
  | cons p l ih => obtain ⟨k, x⟩ := p; unfold delA; split; exact ih; (rename_i h; simp only [getA, if_neg h]; exact ih)
theorem getA_delA_other (l : List (Nat × α)) {i j : Nat} (h : i ≠ j) : getA (delA l i) j = getA l j := by
  induction l with
  | nil => rfl
  | cons p l ih =>
    obtain ⟨k, x⟩ := p
    unfold delA
    split
    · rename_i hk; subst hk; rw [ih]; simp only [getA, if_neg h]
    · simp only [getA, ih]
theorem getA_put (l : List (Nat × α)) (i j : Nat) (x : α) : getA ((i, x) :: delA l i) j = if i = j then some x else getA l j := by
  simp only [getA]
  split
  · rfl
  · rename_i h; exact getA_delA_other l h
def oB (o : Option α) (k : α → Prop) : Prop := match o with | some x => k x | none => False
theorem oB_some (x : α) (k : α → Prop) : oB (some x) k = k x := rfl
theorem oB_elim {o : Option α} {k : α → Prop} (h : oB o k) : ∃ x, o = some x ∧ k x := by
  cases o with
  | none => exact h.elim
  | some x => exact ⟨x, rfl, h⟩
end

def St.put (S : St) (d : Nat) (x : Sh) : St := ⟨(d, x) :: delA S.T d, S.O, S.n⟩
def St.put? (S : St) (d : Option Nat) (x : Sh) : St := match d with | some d => S.put d x | none => S
def St.setO (S : St) (i : Nat) (o : Ob) : St := ⟨S.T, (i, o) :: delA S.O i, S.n⟩
def St.newO (S : St) (o : Ob) : St := ⟨S.T, (S.n, o) :: S.O, S.n + 1⟩

def St.res (S : St) : Sh → Sh
  | .v x => .v x
  | .agg cs => .agg cs
  | .tup cs => .tup cs
  | .sl k g es => .sl k g es
  | .mp kt f => .mp kt f
  | .fn f a b => .fn f a b
  | .ifc t x => .ifc t x
  | .fp e o => .fp e o
  | .any => .any
  | .own i => match getA S.O i with | some (.frz x) => x | _ => .own i
  | .ptr i idx off => match getA S.O i with | some (.frz (.fp e 0)) => .fp e off | _ => .ptr i idx off
def St.opd (S : St) : Operand → Option Sh
  | .tmp t => (getA S.T t).map S.res
  | .const v => if v.oneCell' then some (.v v) else none
  | .func f => some (.fn (.func f) [] [])
  | .global g => (gTab.lookup g).map fun vs => .fp (vs.map Sh.v) 0
/-- A pure shadow of the same value: what may be handed on. -/
def St.arg1 (S : St) (x : Sh) : Option Sh := let y := S.res x; if y.pure then some y else none
def St.argL (S : St) : List Sh → Option (List Sh)
  | [] => some []
  | x :: l => (S.arg1 x).bind fun y => (S.argL l).map (y :: ·)
def St.arg (S : St) : Sh → Option Sh
  | .agg cs => (S.argL cs).map .agg
  | .v x => some (.v x)
  | .tup _ => none
  | .sl k g es => some (.sl k g es)
  | .mp kt f => some (.mp kt f)
  | .fn f a b => some (.fn f a b)
  | .ifc t x => some (.ifc t x)
  | .fp e o => some (.fp e o)
  | .any => some .any
  | .own i => S.arg1 (.own i)
  | .ptr i idx off => S.arg1 (.ptr i idx off)
def St.args (S : St) : List Operand → Option (List Sh)
  | [] => some []
  | x :: l => ((S.opd x).bind S.arg).bind fun y => (S.args l).map (y :: ·)
def Sh.cells : Sh → List Sh
  | .agg cs => cs
  | .v x => [.v x]
  | .tup l => [.tup l]
  | .sl k g es => [.sl k g es]
  | .mp kt f => [.mp kt f]
  | .fn f a b => [.fn f a b]
  | .ifc t x => [.ifc t x]
  | .fp e o => [.fp e o]
  | .any => [.any]
  | .own i => [.own i]
  | .ptr i idx off => [.ptr i idx off]
/-- What a pointer points at: the cells of the whole, and the place. -/
def St.at (S : St) : Sh → Option (List Sh × Nat)
  | .ptr i idx off => match getA S.O i with
    | some (.box _ cs) => some (cs, off)
    | some (.row _ _ es) => (es[idx]?).map fun e => (e, off)
    | some (.obx _ cs) => some (cs, idx + off)
    | _ => none
  | .fp e off => some (e, off)
  | _ => none
/-- One part of a row of cells. -/
def cut (cs : List Sh) (off : Nat) (ag : Option Nat) (k : Sh → Prop) : Prop :=
  match ag with
  | some n => off + n ≤ cs.length ∧ k (.agg ((cs.drop off).take n))
  | none => oB cs[off]? k

inductive ZSh where
  | int (k : IntKind) | bool | sl (k : Nat) | mp (kt : TypeId) | nilFunc | nilIface | nilPtr | nmp
def ZSh.sh : ZSh → Sh
  | .int k => .v (.int k 0)
  | .bool => .v (.bool false)
  | .sl k => .sl k 0 []
  | .mp kt => .mp kt fun _ => none
  | .nilFunc => .v .nilFunc
  | .nilIface => .v .nilIface
  | .nilPtr => .v (.pointer none)
  | .nmp => .v (.map none)
def ZSh.val : ZSh → Value
  | .int k => .int k 0
  | .bool => .bool false
  | .sl _ => .slice none 0 0
  | .mp _ => .map none
  | .nilFunc => .nilFunc
  | .nilIface => .nilIface
  | .nilPtr => .pointer none
  | .nmp => .map none

/-- The zero value of a map's elements. -/
inductive ZAg where
  | one (z : ZSh) | ag (zs : List ZSh)
def ZAg.sh : ZAg → Sh
  | .one z => z.sh
  | .ag zs => .agg (zs.map ZSh.sh)
def ZAg.val : ZAg → Value
  | .one z => z.val
  | .ag zs => .agg (zs.map ZSh.val).toArray

inductive SOp where
  | mv (x : Operand)
  | ld (x : Operand) (ag : Option Nat)
  | fa (x : Operand) (off : Nat)
  | fld (x : Operand) (off : Nat) (ag : Option Nat)
  | ixa (x i : Operand) (k : Nat)
  | ixp (x i : Operand) (k n : Nat)
  | bld (zs : List ZSh) (ps : List (Nat × Nat × Operand))
  | bsl (k : Nat) (xs : List Operand)
  | slc (k : Nat) (x : Operand) (lo hi mx : Option Operand)
  | len (x : Operand)
  | lenm (kt : TypeId) (x : Operand)
  | lkp (kt : TypeId) (m key : Operand) (z : ZAg) (ok : Bool)
  | ext (x : Operand) (i : Nat)
  | bin (op : BinOp) (x y : Operand)
  | eqv (neg : Bool) (t : TypeId) (x y : Operand)
  | not (x : Operand)
  | cnv (k : IntKind) (x : Operand)
  | call (f : FuncId) (xs : List Operand)
  | callv (x : Operand) (xs : List Operand)
  | mkf (f : Fn) (first cap : List Operand)
  | mki (t : TypeId) (x : Operand)
  | pick (c a b : Operand)
  | mm (max : Bool) (x y : Operand)
  | nck (x : Operand)
  | mks (n : Operand) (e : TypeId) (k bytes : Nat) (zs : List ZSh)
  | mkm (t kt : TypeId)
  | app (x y : Operand) (e : TypeId) (k bytes : Nat)
  | alc (t : TypeId) (zs : List ZSh)
  | box (t : TypeId) (x : Operand)
  | st (k : Nat) (x y : Operand)
  | cpy (x y : Operand) (k : Nat)
  | mup (kt : TypeId) (m key x : Operand)
  | del (kt : TypeId) (m key : Operand)
  | rng (kt : TypeId) (x : Operand)
  | nxt (x : Operand)
  | ent (x : Operand)
  | gen (op : Op) (xs : List Operand)
  | bso (k : Nat) (xs : List Operand) (e : TypeId)

/-- A call of f at these shadows returns what r shadows. -/
def Ok (f : FuncId) (args : List Sh) (r : Sh) : Prop :=
  ∀ (w : World) (H : Hp) (vs : List Value), Sub H w → RepL H E0 args vs → Ret Try.prog f vs.toArray w H (fun v : Value => v) (fun v H' => Rep H' E0 r v)
def RowPost (w : World) (H : Hp) (e : TypeId) (k : Nat) (es : List (List Sh)) (en : Ending) (w' : World) : Prop :=
  ∃ v xs, en = .returned v ∧ Grow w H w' H ∧ 0 < k ∧ w'.ownsRow w.heap.size e k v es.length xs ∧ RepEs H k es xs ∧ (es = [] → ∃ a, v = .slice a 0 0)
/-- .. what it returns is a new row that nobody else knows. -/
def OkRow (f : FuncId) (args : List Sh) (e : TypeId) (k : Nat) (es : List (List Sh)) : Prop :=
  ∀ (w : World) (H : Hp) (vs : List Value), Sub H w → RepL H E0 args vs → Calls Try.prog f vs.toArray w (RowPost w H e k es)
def MapPost (w : World) (H : Hp) (kt : TypeId) (M : Nat) (f : Int → Option Sh) (en : Ending) (w' : World) : Prop :=
  ∃ v, en = .returned v ∧ Grow w H w' H ∧ ((v = .map none ∧ ∀ i, f i = none) ∨ ∃ b o F, v = .map (some b) ∧ w.heap.size ≤ b ∧ w'.heap[b]? = some o ∧ MapOf kt o M F ∧ M ≤ 1000000 ∧ (∀ j, f j = none ↔ F j = none) ∧ (∀ j s u, f j = some s → F j = some u → Rep H E0 s u))
/-- .. what it returns is a new map that nobody else knows, or none where the map is empty. -/
def OkMap (f : FuncId) (args : List Sh) (kt : TypeId) (M : Nat) (g : Int → Option Sh) : Prop :=
  ∀ (w : World) (H : Hp) (vs : List Value), Sub H w → RepL H E0 args vs → Calls Try.prog f vs.toArray w (MapPost w H kt M g)
/-- A call of f is a call of Go code. -/
def Enters (f : FuncId) : Prop := ∀ args w, (callFunc f args).run Try.prog w = .ok (.enter f args) w
/-- An operation that reads xs alone, where these mean l, comes to what r shadows. -/
def GenRel (op : Op) (xs : List Operand) (l : List Sh) (r : Sh) : Prop :=
  ∀ (o : Oper) (a : Act) (w : World) (H : Hp), o.op = op → Sub H w → RepL H E0 l (xs.map a.eval) → o.wp Try.prog a w (fun a' w' => ∃ v H', a' = a.put o.dst v ∧ Grow w H w' H' ∧ Rep H' E0 r v) NoQ
/-- Type t's method of this name is f, whatever the value. -/
def MethodIs (t : TypeId) (name : String) (f : FuncId) : Prop := ∀ (v : Value) (w : World), (method (Try.prog.types.size + Made.depth) t v name).run Try.prog w = .ok (f, v) w
/-- Two values of type t, as shadows, compare to b. -/
def EqSh (t : TypeId) (x y : Sh) (b : Bool) : Prop :=
  ∀ (H : Hp) (E : Env) (w : World) (u1 u2 : Value) (o1 o2 : Operand), Sub H w → Rep H E x u1 → Rep H E y u2 →
    ((do eqGuard .eql t o1 o2 u1 u2; binOp .eql t u1 u2 : Sem Value)).run Try.prog w = .ok (.bool b) w ∧ ((do eqGuard .neq t o1 o2 u1 u2; binOp .neq t u1 u2 : Sem Value)).run Try.prog w = .ok (.bool !b) w

def intBin (op : BinOp) (k : IntKind) (a b : Int) : Option Value :=
  match op with
  | .add => some (.int k (k.wrap (a + b)))
  | .sub => some (.int k (k.wrap (a - b)))
  | .mul => some (.int k (k.wrap (a * b)))
  | .quo => if b = 0 then none else some (.int k (k.wrap (a.tdiv b)))
  | .rem => if b = 0 then none else some (.int k (a.tmod b))
  | .eql => some (.bool (a == b))
  | .neq => some (.bool (a != b))
  | .lss => some (.bool (a < b))
  | .leq => some (.bool (a ≤ b))
  | .gtr => some (.bool (b < a))
  | .geq => some (.bool (b ≤ a))
  | _ => none

def pickO (bb : Bool) (x y : Option Sh) : Option Sh :=
  match x, y with
  | some (.v (.bool p)), some (.v (.bool q)) => some (.v (.bool (if bb = true then p else q)))
  | _, _ => if bb = true then x else y
theorem pickO_spec {bb : Bool} {x y : Option Sh} {r : Sh} (h : pickO bb x y = some r) : (bb = true → x = some r) ∧ (bb = false → y = some r) := by
  unfold pickO at h
  split at h
  · cases h
    exact ⟨fun e => by rw [if_pos e], fun e => by subst e; rfl⟩
  · split at h
    · rename_i e; exact ⟨fun _ => h, fun e' => by rw [e] at e'; cases e'⟩
    · rename_i e; exact ⟨fun e' => absurd e' e, fun _ => h⟩
def fillS (S : St) : List Sh → List (Nat × Nat × Operand) → Option (List Sh)
  | cs, [] => some cs
  | cs, (off, sz, x) :: r => (S.opd x).bind fun s => if s.cells.length = sz ∧ off + sz ≤ cs.length ∧ s.cells.all Sh.one = true then fillS S (cs.take off ++ s.cells ++ cs.drop (off + sz)) r else none
def St.elems (S : St) (k : Nat) : List Operand → Option (List (List Sh))
  | [] => some []
  | x :: l => ((S.opd x).bind S.arg).bind fun y => if y.cells.length = k ∧ y.cells.all Sh.one = true ∧ y.cells.all Sh.pure = true then (S.elems k l).map (y.cells :: ·) else none

/-- What is known of the capacity behind a slicing. -/
def slG (g : Nat) (lo hi : Option Operand) : Nat :=
  match hi with
  | none => if g = 1 then 1 else (match lo with | none => g | _ => 2)
  | some _ => 2
def St.optInt (S : St) (d : Int) : Option Operand → Option Int
  | none => some d
  | some o => (S.opd o).bind fun j => match j with | .v (.int _ n) => some n | _ => none

/-- The operations that write nothing of one's own. -/
def evA (op : SOp) (S : St) (k : Sh → Prop) : Prop :=
  match op with
  | .mv x => oB (S.opd x) k
  | .ld x ag => oB (S.opd x) fun s => oB (S.at s) fun p => cut p.1 p.2 ag k
  | .fa x off => oB (S.opd x) fun s => match s with
    | .ptr i idx o => k (.ptr i idx (o + off))
    | .fp e o => k (.fp e (o + off))
    | _ => False
  | .fld x off ag => oB (S.opd x) fun s => match s with | .agg cs => cut cs off ag k | _ => False
  | .ixa x i kk => oB (S.opd x) fun s => oB (S.opd i) fun j => match s, j with
    | .sl k' _ es, .v (.int _ n) => k' = kk ∧ 0 ≤ n ∧ oB es[n.toNat]? fun e => k (.fp e 0)
    | .own i', .v (.int _ n) => (match getA S.O i' with | some (.row _ k' es) => k' = kk ∧ 0 ≤ n ∧ n.toNat < es.length ∧ k (.ptr i' n.toNat 0) | some (.obx _ cs) => kk = 1 ∧ 0 ≤ n ∧ n.toNat < cs.length ∧ k (.ptr i' n.toNat 0) | _ => False)
    | _, _ => False
  | .ixp x i kk N => oB (S.opd x) fun s => oB (S.opd i) fun j => match s, j with
    | .ptr i' idx o, .v (.int _ n) => 0 ≤ n ∧ n < N ∧ k (.ptr i' idx (o + n.toNat * kk))
    | .fp e o, .v (.int _ n) => 0 ≤ n ∧ n < N ∧ k (.fp e (o + n.toNat * kk))
    | _, _ => False
  | .bld zs ps => oB (fillS S (zs.map ZSh.sh) ps) fun cs => k (.agg cs)
  | .bsl kk xs => oB (S.elems kk xs) fun es => es.length ≤ 1000000 ∧ k (.sl kk 0 es)
  | .slc k' x lo hi mx => oB (S.opd x) fun s => match s with
    | .sl kk full es => kk = k' ∧
      oB (S.optInt 0 lo) fun l =>
      oB (S.optInt es.length hi) fun h =>
      0 ≤ l ∧ l ≤ h ∧ h ≤ es.length ∧ (match mx with
        | none => k (.sl kk (slG full lo hi) ((es.take h.toNat).drop l.toNat))
        | some o => oB (S.opd o) fun j => match j with | .v (.int _ m) => m = h ∧ hi.isSome = true ∧ k (.sl kk 1 ((es.take h.toNat).drop l.toNat)) | _ => False)
    | _ => False
  | .len x => oB (S.opd x) fun s => match s with
    | .sl _ _ es => k (.v (.int .i64 es.length))
    | .own i => (match getA S.O i with | some (.row _ _ es) => k (.v (.int .i64 es.length)) | some (.obx _ cs) => k (.v (.int .i64 cs.length)) | _ => False)
    | _ => False
  | .lkp kt m key z ok => oB (S.opd m) fun s => oB (S.opd key) fun j => match s, j with
    | .mp kt' f, .v (.int .i64 n) => kt' = kt ∧ -9223372036854775808 ≤ n ∧ n ≤ 9223372036854775807 ∧ k (if ok then .tup [(f n).getD z.sh, .v (.bool (f n).isSome)] else (f n).getD z.sh)
    | .own i, .v (.int .i64 n) => (match getA S.O i with | some (.map kt' _ f) => kt' = kt ∧ -9223372036854775808 ≤ n ∧ n ≤ 9223372036854775807 ∧ k (if ok then .tup [(f n).getD z.sh, .v (.bool (f n).isSome)] else (f n).getD z.sh) | some (.mpr _ kt' _ f) => kt' = kt ∧ -9223372036854775808 ≤ n ∧ n ≤ 9223372036854775807 ∧ k (if ok then .tup [(f n).getD z.sh, .v (.bool (f n).isSome)] else (f n).getD z.sh) | _ => False)
    | _, _ => False
  | .ext x i => oB (S.opd x) fun s => match s with | .tup cs => oB cs[i]? k | _ => False
  | .bin op x y => oB (S.opd x) fun s => oB (S.opd y) fun j => match s, j with
    | .v (.int k1 a), .v (.int k2 b) => k1 = k2 ∧ oB (intBin op k1 a b) fun r => k (.v r)
    | _, _ => False
  | .eqv neg t x y => oB (S.opd x) fun s => oB (S.opd y) fun j => ∃ b, EqSh t s j b ∧ k (.v (.bool (if neg then !b else b)))
  | .not x => oB (S.opd x) fun s => match s with | .v (.bool b) => k (.v (.bool !b)) | _ => False
  | .cnv kk x => oB (S.opd x) fun s => match s with | .v (.int _ n) => k (.v (.int kk (kk.wrap n))) | _ => False
  | .call f xs => oB (S.args xs) fun l => ∃ r, Ok f l r ∧ k r
  | .callv x xs => oB (S.opd x) fun s => oB (S.args xs) fun l => match s with | .fn (.func f) first cap => Enters f ∧ ∃ r, Ok f (first ++ l ++ cap) r ∧ k r | .fn (.method name) (.ifc t s :: first) _ => ∃ f, MethodIs t name f ∧ Enters f ∧ ∃ r, Ok f (s :: (first ++ l)) r ∧ k r | _ => False
  | .gen op xs => oB (S.args xs) fun l => ∃ r, GenRel op xs l r ∧ k r
  | .mkf f first cap => oB (S.args first) fun a => oB (S.args cap) fun b => k (.fn f a b)
  | .mki t x => oB ((S.opd x).bind S.arg) fun s => k (.ifc t s)
  | .pick c a b => oB (S.opd c) fun s => match s with | .v (.bool bb) => oB (pickO bb (S.opd a) (S.opd b)) k | _ => False
  | .mm mx x y => oB (S.opd x) fun s => oB (S.opd y) fun j => match s, j with
    | .v (.int k1 a), .v (.int k2 b) => k1 = k2 ∧ k (.v (.int k1 (if mx then max a b else min a b)))
    | _, _ => False
  | .nck x => oB (S.opd x) fun s => match s with
    | .ptr i idx o => k (.ptr i idx o)
    | .fp e o => k (.fp e o)
    | .ifc t y => k (.ifc t y)
    | .fn (.func f) a b => k (.fn (.func f) a b)
    | _ => False
  | .mks n _ kk bytes zs => oB (S.opd n) fun s => match s with
    | .v (.int _ m) => 0 ≤ m ∧ m ≤ 1000000 ∧ m.toNat * bytes ≤ 140737488355328 ∧ k (.sl kk 0 (List.replicate m.toNat (zs.map ZSh.sh)))
    | _ => False
  | .mkm _ kt => k (.mp kt fun _ => none)
  | .app x y _ kk bytes => oB (S.opd x) fun s => oB (S.opd y) fun j => match s, j with
    | .sl k1 full xs, .sl k2 _ ys => k1 = kk ∧ k2 = kk ∧ (full = 1 ∨ (full = 0 ∧ xs = [])) ∧ (xs = [] ∨ 0 < ys.length) ∧ xs.length + ys.length ≤ 140737488355328 ∧ (xs.length + ys.length) * bytes ≤ 140737488355328 ∧ k (.sl kk 0 (xs ++ ys))
    | _, _ => False
  | _ => False

/-! ### One's own memory -/
/-- A row, a map is handed over: nobody writes it any more. -/
def St.frzRow (S : St) (i : Nat) : St :=
  match getA S.O i with
  | some (.row _ k es) => S.setO i (.frz (.sl k 0 es))
  | some (.map kt _ f) => S.setO i (.frz (.mp kt f))
  | _ => S
def St.frzCells (S : St) : List Sh → St
  | [] => S
  | .own i :: l => (S.frzRow i).frzCells l
  | .v _ :: l => S.frzCells l
  | .agg _ :: l => S.frzCells l
  | .tup _ :: l => S.frzCells l
  | .sl .. :: l => S.frzCells l
  | .mp .. :: l => S.frzCells l
  | .fn .. :: l => S.frzCells l
  | .ifc .. :: l => S.frzCells l
  | .fp .. :: l => S.frzCells l
  | .any :: l => S.frzCells l
  | .ptr .. :: l => S.frzCells l
def St.frzBox (S : St) (i : Nat) : St :=
  match getA S.O i with
  | some (.box _ cs) => match (S.frzCells cs).argL cs with
    | some ys => (S.frzCells cs).setO i (.frz (.fp ys 0))
    | none => S.frzCells cs
  | _ => S
def St.frzSh (S : St) : Sh → St
  | .own i => S.frzRow i
  | .ptr i _ _ => S.frzBox i
  | .agg cs => S.frzCells cs
  | .v _ | .tup _ | .sl .. | .mp .. | .fn .. | .ifc .. | .fp .. | .any => S
def St.frzOpds (S : St) : List Operand → St
  | [] => S
  | x :: l => match S.opd x with
    | some s => (S.frzSh s).frzOpds l
    | none => S.frzOpds l
def SOp.pures : SOp → List Operand
  | .call _ xs | .callv _ xs | .bsl _ xs | .gen _ xs | .bso _ xs _ => xs
  | .mki _ x | .slc _ x _ _ _ | .mup _ _ _ x | .rng _ x => [x]
  | .app _ y _ _ _ => [y]
  | .mkf _ a b => a ++ b
  | .mv _ => []
  | .ld .. => []
  | .fa .. => []
  | .fld .. => []
  | .ixa .. => []
  | .ixp .. => []
  | .bld .. => []
  | .len _ => []
  | .lenm .. => []
  | .lkp .. => []
  | .ext .. => []
  | .bin .. => []
  | .eqv .. => []
  | .not _ => []
  | .cnv .. => []
  | .pick .. => []
  | .mm .. => []
  | .nck _ => []
  | .mks .. => []
  | .mkm .. => []
  | .del .. => []
  | .nxt _ => []
  | .ent _ => []
  | .st .. => []
  | .cpy .. => []
  | .alc .. => []
  | .box .. => []

/-- A nil slice is taken for an empty slice of k cells an element or, where an element type is named, for an empty row of one's own. -/
inductive Cst where
  | slot (t : Nat) (e : Option TypeId) (k : Nat)
  | cell (i c : Nat) (e : Option TypeId) (k : Nat)
  | any (t : Nat)
  | anyc (t c : Nat)
  | obx (i : Nat)
  | unr (i : Nat)
def nilS : Sh → Bool
  | .v (.slice none 0 0) => true
  | .sl _ 0 [] => true
  | _ => false
def St.cast (S : St) : Cst → St
  | .slot t e k => match getA S.T t with
    | some x => if (nilS x && decide (0 < k)) = true then (match e with | none => S.put t (.sl k 0 []) | some e => (S.newO (.row e k [])).put t (.own S.n)) else S
    | none => S
  | .cell i c e k => match getA S.O i with
    | some (.box bt cs) => match cs[c]? with
      | some x => if (nilS x && decide (0 < k)) = true then (match e with | none => S.setO i (.box bt (cs.set c (.sl k 0 []))) | some e => (S.newO (.row e k [])).setO i (.box bt (cs.set c (.own S.n)))) else S
      | none => S
    | _ => S
  | .any t => match getA S.T t with
    | some x => if x.one = true then S.put t .any else S
    | none => S
  | .anyc t c => match getA S.T t with
    | some (.agg cs) => S.put t (.agg (cs.set c .any))
    | _ => S
  | .obx i => match getA S.O i with
    | some (.row e 1 (c :: es)) => S.setO i (.obx e ((c :: es).flatten))
    | _ => S
  | .unr i => match getA S.O i with
    | some (.mpr _ kt N f) => S.setO i (.map kt N f)
    | _ => S
def St.casts (S : St) : List Cst → St
  | [] => S
  | c :: l => (S.cast c).casts l

/-- Block r, ob, is an iterator of a map that nobody writes any more. -/
def IterO (H : Hp) (r : Nat) (ob : Obj) (f : Int → Option Sh) (left : Int → Bool) (cnt : Nat) : Prop :=
  (∃ a s c, ob = .mapIter none a s c ∧ ∀ j, left j = false) ∨ ∃ b om kt M D lft F, H b = some om ∧ Try.prog.underlying kt = some (.int .i64) ∧
    (∀ w : World, w.heap[b]? = some om → w.heap[r]? = some ob → w.ranges Try.prog kt anyElem b r M D lft cnt) ∧ DF D F ∧ (∀ j, f j = none ↔ F j = none) ∧ (∀ j s u, f j = some s → F j = some u → Rep H E0 s u) ∧ ∀ j, lft (.int .i64 j) = left j
/-- The entry it stands at. -/
def CurO (H : Hp) (r : Nat) (ob : Obj) (j : Int) (s : Sh) : Prop :=
  ∃ v, (∀ w : World, (∀ k o, H k = some o → w.heap[k]? = some o) → w.heap[r]? = some ob → (Instr.entry (.pointer (some ⟨r, 0, none⟩))).run Try.prog w = .ok (.tuple #[.int .i64 j, v]) w) ∧ Rep H E0 s v
def bornOf (es : Array MapEntry) : List (Value × Nat) := es.toList.map fun x => (x.key, x.born)
/-- Block r, ob, is an iterator of the map q. -/
def ItmO (q : Rg) (kt : TypeId) (r : Nat) (ob : Obj) (left : Int → Bool) (cnt : Nat) (cur : Option Int) : Prop :=
  Try.prog.underlying kt = some (.int .i64) ∧ ∃ lft, (∀ (w : World) es M D, w.heap[q.b]? = some (.map es q.c) → bornOf es = q.L → w.ownsMap Try.prog kt anyElem q.b M D → w.heap[r]? = some ob → w.ranges Try.prog kt anyElem q.b r M D lft cnt) ∧
    (∀ j, lft (.int .i64 j) = left j) ∧ ∀ j, cur = some j → ∀ (w : World) es v, w.heap[q.b]? = some (.map es q.c) → bornOf es = q.L → Go.WideElems.Fit Try.prog kt anyElem es q.c → w.heap[r]? = some ob → (∃ x ∈ es.toList, x.key = .int .i64 j ∧ x.val = v) → (Instr.entry (.pointer (some ⟨r, 0, none⟩))).run Try.prog w = .ok (.tuple #[.int .i64 j, v]) w
def ObRep (B : Nat) (H : Hp) (E : Env) (w : World) (i : Nat) : Ob → Prop
  | .box t cs => ∃ b vs, E i = some (.pointer (some ⟨b, 0, none⟩), 0, some b) ∧ B ≤ b ∧ H b = none ∧ w.heap[b]? = some (.cells vs.toArray t (0, 0)) ∧ RepL H E cs vs ∧ cs.all Sh.one = true
  | .row e k es => ∃ u ob xs, E i = some (u, k, ob) ∧ 0 < k ∧ RepEs H k es xs ∧ ((es = [] ∧ ob = none ∧ ∃ a, u = .slice a 0 0) ∨
      ∃ g cap cur, ob = some g ∧ u = .slice (some ⟨g, 0, none⟩) es.length cap ∧ B ≤ g ∧ H g = none ∧ w.heap[g]? = some (.cells cur e (0, 0)) ∧ es.length ≤ cap ∧ cap ≤ maxLen ∧ (es = [] → cap = 0) ∧ cur.size = cap * k ∧ cur.toList.take (es.length * k) = xs)
  | .map kt N f => ∃ b o F, E i = some (.map (some b), 0, some b) ∧ B ≤ b ∧ H b = none ∧ w.heap[b]? = some o ∧ MapOf kt o N F ∧ N ≤ 1000000 ∧ (∀ j, f j = none ↔ F j = none) ∧ (∀ j s u, f j = some s → F j = some u → Rep H E0 s u)
  | .iter f left cnt cur => ∃ r ob, E i = some (.pointer (some ⟨r, 0, none⟩), 0, some r) ∧ B ≤ r ∧ H r = none ∧ w.heap[r]? = some ob ∧ IterO H r ob f left cnt ∧ ∀ j s, cur = some (j, s) → CurO H r ob j s
  | .frz x => ∃ u k b, E i = some (u, k, b) ∧ Rep H E0 x u ∧ x.pure = true ∧ (∀ e, x = .fp e 0 → k = 0 ∧ ∃ b0, b = some b0 ∧ u = .pointer (some ⟨b0, 0, none⟩))
  | .obx e cs => ∃ g cap cur, E i = some (.slice (some ⟨g, 0, none⟩) cs.length cap, 1, some g) ∧ B ≤ g ∧ H g = none ∧ w.heap[g]? = some (.cells cur e (0, 0)) ∧ cs.length ≤ cur.size ∧ RepL H E cs (cur.toList.take cs.length) ∧ cs.all Sh.one = true
  | .mpr q kt N f => ∃ es F, E i = some (.map (some q.b), 0, some q.b) ∧ B ≤ q.b ∧ H q.b = none ∧ w.heap[q.b]? = some (.map es q.c) ∧ bornOf es = q.L ∧ MapOf kt (.map es q.c) N F ∧ N ≤ 1000000 ∧ (∀ j, f j = none ↔ F j = none) ∧ (∀ j s u, f j = some s → F j = some u → Rep H E0 s u)
  | .itm q kt left cnt cur => ∃ r ob, E i = some (.pointer (some ⟨r, 0, none⟩), 0, some r) ∧ B ≤ r ∧ H r = none ∧ w.heap[r]? = some ob ∧ ItmO q kt r ob left cnt cur
  | .gh J => (∃ p, E i = some p) ∧ J H E ∧ ∀ H1 H2 E1 E2, Le H1 H2 → ELe E1 E2 → J H1 E1 → J H2 E2
def Objs (B : Nat) (S : St) (E : Env) (w : World) (H : Hp) : Prop := ∀ i o, getA S.O i = some o → ObRep B H E w i o

def lives (S : St) (i : Nat) : Prop := ∃ o, getA S.O i = some o ∧ o.live = true

structure Sim (N : Nat) (w0 : World) (H0 : Hp) (S : St) (E : Env) (a : Act) (w : World) (H : Hp) : Prop where
  grow : Grow w0 H0 w H
  tm : ∀ t x, getA S.T t = some x → Rep H E x (a.eval (.tmp t))
  ob : Objs w0.heap.size S E w H
  ap : ∀ i j, i ≠ j → lives S i → lives S j → ∀ b u k u' k', E i = some (u, k, some b) → E j = some (u', k', some b) → False
  fr : ∀ i, S.n ≤ i → E i = none
  sz : a.tmps.size = N
  df : a.defers = []

/-- A call of f by a part of a run that has parts O of its own, some of which the arguments name: P says what comes of them. -/
def OkO (f : FuncId) (l : List Sh) (O : List (Nat × Ob)) (n : Nat) (P : (Hp → Env → Prop) → Sh → List (Nat × Ob) → Nat → Prop) : Prop :=
  ∀ (J : Hp → Env → Prop) (N : Nat) (w0 : World) (H0 : Hp) (E : Env) (a : Act) (w : World) (H : Hp) (vs : List Value), Sim N w0 H0 ⟨[], (n, .gh J) :: O, n + 1⟩ E a w H → RepL H E l vs →
    Calls Try.prog f vs.toArray w fun e w' => ∃ v r O' n' E' H', e = .returned v ∧ P J r O' n' ∧ getA O' n = some (.gh J) ∧ Sim N w0 H0 ⟨[], O', n'⟩ E' a w' H' ∧ Rep H' E' r v
def St.opdL (S : St) : List Operand → Option (List Sh)
  | [] => some []
  | x :: l => (S.opd x).bind fun y => (S.opdL l).map (y :: ·)
def evCallO (f : FuncId) (xs : List Operand) (S : St) (d : Option Nat) (K : St → Prop) : Prop :=
  ∃ l P, S.opdL xs = some l ∧ OkO f l S.O S.n P ∧ ∀ J r O' n', P J r O' n' → K (St.put? ⟨S.T, delA O' S.n, n'⟩ d r)
/-- A call: what it returns means r, or is a new row, or a new map. -/
def evCall (f : FuncId) (xs : List Operand) (S : St) (d : Option Nat) (K : St → Prop) : Prop :=
  (evA (.call f xs) S fun s => K (S.put? d s)) ∨ oB (S.args xs) fun l => (∃ e k es, OkRow f l e k es ∧ K ((S.newO (.row e k es)).put? d (.own S.n))) ∨ ∃ kt M g, OkMap f l kt M g ∧ K ((S.newO (.map kt M g)).put? d (.own S.n)) ∧ ((∀ i, g i = none) → K (S.put? d (.v (.map none))))
/-- .. of which less is told. -/
def evCallC (f : FuncId) (xs : List Operand) (S0 : St) (d : Option Nat) (K : St → Prop) : Prop := (∃ cs, evCall f xs ((S0.casts cs).frzOpds xs) d K) ∨ evCallO f xs S0 d K

/-- What a called value comes to. -/
def callee (s : Sh) (l0 : List Sh) (f : FuncId) (l : List Sh) : Prop :=
  (∃ first cap, s = .fn (.func f) first cap ∧ Enters f ∧ l = first ++ l0 ++ cap) ∨ ∃ name t s0 first cap, s = .fn (.method name) (.ifc t s0 :: first) cap ∧ MethodIs t name f ∧ Enters f ∧ l = s0 :: (first ++ l0)
def evCallvO (x : Operand) (xs : List Operand) (S : St) (d : Option Nat) (K : St → Prop) : Prop :=
  ∃ s l0 f l P, S.opd x = some s ∧ S.opdL xs = some l0 ∧ callee s l0 f l ∧ OkO f l S.O S.n P ∧ ∀ J r O' n', P J r O' n' → K (St.put? ⟨S.T, delA O' S.n, n'⟩ d r)
/-- A call through an interface that is handed parts of one's own memory. -/
def evInvO (op : Op) (xs : List Operand) (S : St) (d : Option Nat) (K : St → Prop) : Prop :=
  ∃ x name args tys t s0 l0 f P, op = .call ⟨.invoke x name, args, tys⟩ ∧ xs = x :: args.toList ∧ S.opd x = some (.ifc t s0) ∧ S.opdL args.toList = some l0 ∧ MethodIs t name f ∧ Enters f ∧ OkO f (s0 :: l0) S.O S.n P ∧ ∀ J r O' n', P J r O' n' → K (St.put? ⟨S.T, delA O' S.n, n'⟩ d r)
/-- A range over a map of one's own. -/
def evRngO (kt : TypeId) (x : Operand) (S : St) (d : Option Nat) (K : St → Prop) : Prop :=
  ∃ i N f, S.opd x = some (.own i) ∧ getA S.O i = some (.map kt N f) ∧ ∀ q cnt, K (((S.setO i (.mpr q kt N f)).newO (.itm q kt (fun j => (f j).isSome) cnt none)).put? d (.own S.n))
/-- The map that an iterator goes through. -/
def evItm (S : St) (q : Rg) (kt : TypeId) (k : (Int → Option Sh) → Prop) : Prop := ∃ im N f, getA S.O im = some (.mpr q kt N f) ∧ k f
/-- One operation in a list that is gone through in its order. -/
def evOp (d : Option Nat) (op : SOp) (S0 : St) (K : St → Prop) : Prop :=
  let S := S0.frzOpds op.pures
  match op with
  | .alc t zs => K ((S.newO (.box t (zs.map ZSh.sh))).put? d (.ptr S.n 0 0))
  | .box t x => oB (S.opd x) fun s => s.cells.all Sh.one = true ∧ K ((S.newO (.box t s.cells)).put? d (.ptr S.n 0 0))
  | .st k x y => d = none ∧ oB (S.opd x) fun s => oB (S.opd y) fun v => match s with
    | .ptr i idx off => (match getA S.O i with
      | some (.box t cs) => v.cells.length = k ∧ v.cells.all Sh.one = true ∧ off + k ≤ cs.length ∧ K (S.setO i (.box t (cs.take off ++ v.cells ++ cs.drop (off + k))))
      | some (.row _ _ _) => oB ((S.frzSh v).arg v) fun v' => v'.cells.length = k ∧ v'.cells.all Sh.one = true ∧ v'.cells.all Sh.pure = true ∧
          (match getA (S.frzSh v).O i with
            | some (.row e kk es) => oB es[idx]? fun c => off + k ≤ c.length ∧ K ((S.frzSh v).setO i (.row e kk (es.set idx (c.take off ++ v'.cells ++ c.drop (off + k)))))
            | _ => False)
      | some (.obx e cs) => k = 1 ∧ v.one = true ∧ idx + off < cs.length ∧ K (S.setO i (.obx e (cs.set (idx + off) v)))
      | _ => False)
    | _ => False
  | .mks n e kk bytes zs => oB (S.opd n) fun s => match s with
    | .v (.int _ m) => 0 ≤ m ∧ m ≤ 1000000 ∧ m.toNat * bytes ≤ 140737488355328 ∧ K ((S.newO (.row e kk (List.replicate m.toNat (zs.map ZSh.sh)))).put? d (.own S.n))
    | _ => False
  | .mkm _ kt => K ((S.newO (.map kt 0 fun _ => none)).put? d (.own S.n))
  | .app x y e kk bytes => oB (S.opd x) fun s => oB (S.opd y) fun v => match s, v with
    | .own i, .sl k2 _ ys => (match getA S.O i with
      | some (.row e' k1 es) => e' = e ∧ k1 = kk ∧ k2 = kk ∧ es.length + ys.length ≤ 140737488355328 ∧ (es.length + ys.length) * bytes ≤ 140737488355328 ∧
          K ((St.newO ⟨S.T, delA S.O i, S.n⟩ (.row e kk (es ++ ys))).put? d (.own S.n))
      | _ => False)
    | .sl k1 full es, .sl k2 _ ys => k1 = kk ∧ k2 = kk ∧ (full = 1 ∨ (full = 0 ∧ es = [])) ∧ (es = [] ∨ 0 < ys.length) ∧ es.length + ys.length ≤ 140737488355328 ∧ (es.length + ys.length) * bytes ≤ 140737488355328 ∧ K ((S.newO (.row e kk (es ++ ys))).put? d (.own S.n))
    | _, _ => False
  | .cpy x y kk => oB (S.opd x) fun s => oB (S.opd y) fun v => match s, v with
    | .own i, .sl k2 _ ys => (match getA S.O i with
      | some (.row e k1 es) => k1 = kk ∧ k2 = kk ∧ K ((S.setO i (.row e kk (ys.take es.length ++ es.drop ys.length))).put? d (.v (.int .i64 (min ys.length es.length : Nat))))
      | _ => False)
    | _, _ => False
  | .mup kt m key x => d = none ∧ oB (S.opd m) fun s => oB (S.opd key) fun j => oB ((S.opd x).bind S.arg) fun v => match s, j with
    | .own i, .v (.int .i64 n) => (match getA S.O i with
      | some (.map kt' N f) => kt' = kt ∧ N < 1000000 ∧ -9223372036854775808 ≤ n ∧ n ≤ 9223372036854775807 ∧ (K (S.setO i (.map kt (N + 1) fun j => if j = n then some v else f j)) ∨ ∃ M : Nat, (M ≤ 1000000 ∧ ∀ j, (if j = n then some v else f j) ≠ none → 0 ≤ j ∧ j < (M : Int)) ∧ K (S.setO i (.map kt M fun j => if j = n then some v else f j)))
      | some (.mpr q kt' N f) => kt' = kt ∧ (f n).isSome = true ∧ -9223372036854775808 ≤ n ∧ n ≤ 9223372036854775807 ∧ K (S.setO i (.mpr q kt N fun j => if j = n then some v else f j))
      | _ => False)
    | _, _ => False
  | .call f xs => evCall f xs S d K ∨ evCallC f xs S0 d K
  | .del kt m key => oB (S.opd m) fun s => oB (S.opd key) fun j => match s, j with
    | .own i, .v (.int .i64 n) => (match getA S.O i with
      | some (.map kt' M f) => kt' = kt ∧ -9223372036854775808 ≤ n ∧ n ≤ 9223372036854775807 ∧ K ((S.setO i (.map kt M fun j => if j = n then none else f j)).put? d (.tup []))
      | _ => False)
    | .v (.map none), .v (.int .i64 n) => -9223372036854775808 ≤ n ∧ n ≤ 9223372036854775807 ∧ K (S.put? d (.tup []))
    | _, _ => False
  | .rng kt x => (oB (S.opd x) fun s => match s with
    | .mp kt' f => kt' = kt ∧ ∀ cnt, K ((S.newO (.iter f (fun i => (f i).isSome) cnt none)).put? d (.own S.n))
    | _ => False) ∨ evRngO kt x S0 d K
  | .nxt x => oB (S.opd x) fun s => match s with
    | .own i => (match getA S.O i with
      | some (.iter f left cnt _) => ((∀ j, left j = false) → K (S.put? d (.tup [.v (.bool false)]))) ∧
          (∀ j s c', left j = true → f j = some s → -9223372036854775808 ≤ j → j ≤ 9223372036854775807 → c' < cnt → K ((S.setO i (.iter f (fun z => left z && z != j) c' (some (j, s)))).put? d (.tup [.v (.bool true), .v (.int .i64 j), s])))
      | some (.itm q kt left cnt _) => evItm S q kt fun f => ((∀ j, left j = false) → K (S.put? d (.tup [.v (.bool false)]))) ∧
          (∀ j s c', left j = true → f j = some s → -9223372036854775808 ≤ j → j ≤ 9223372036854775807 → c' < cnt → K ((S.setO i (.itm q kt (fun z => left z && z != j) c' (some j))).put? d (.tup [.v (.bool true), .v (.int .i64 j), s])))
      | _ => False)
    | _ => False
  | .ent x => oB (S.opd x) fun s => match s with
    | .own i => (match getA S.O i with
      | some (.iter _ _ _ (some (j, s))) => K (S.put? d (.tup [.v (.int .i64 j), s]))
      | some (.itm q kt _ _ (some j)) => evItm S q kt fun f => ∃ s, f j = some s ∧ K (S.put? d (.tup [.v (.int .i64 j), s]))
      | _ => False)
    | _ => False
  | .mv x => evA (.mv x) S fun s => K (S.put? d s)
  | .ld x ag => evA (.ld x ag) S fun s => K (S.put? d s)
  | .fa x o => evA (.fa x o) S fun s => K (S.put? d s)
  | .fld x o ag => evA (.fld x o ag) S fun s => K (S.put? d s)
  | .ixa x i k => evA (.ixa x i k) S fun s => K (S.put? d s)
  | .ixp x i k n => evA (.ixp x i k n) S fun s => K (S.put? d s)
  | .bld zs ps => evA (.bld zs ps) S fun s => K (S.put? d s)
  | .bsl k xs => evA (.bsl k xs) S fun s => K (S.put? d s)
  | .bso k xs e => oB (S.elems k xs) fun es => es.length ≤ 1000000 ∧ K ((S.newO (.row e k es)).put? d (.own S.n))
  | .slc k x lo hi mx => evA (.slc k x lo hi mx) S fun s => K (S.put? d s)
  | .len x => evA (.len x) S fun s => K (S.put? d s)
  | .lenm kt x => oB (S.opd x) fun s => match s with
    | .mp kt' f => kt' = kt ∧ ((∀ i, f i = none) → K (S.put? d (.v (.int .i64 0)))) ∧ ∀ n : Nat, 0 < n → (∃ i, f i ≠ none) → K (S.put? d (.v (.int .i64 n)))
    | .own i => (match getA S.O i with | some (.map kt' _ f) => kt' = kt ∧ ∀ n : Nat, (∃ l : List Int, l.Nodup ∧ l.length = n ∧ ∀ j, f j ≠ none ↔ j ∈ l) → K (S.put? d (.v (.int .i64 n))) | _ => False)
    | _ => False
  | .lkp kt m key z ok => evA (.lkp kt m key z ok) S fun s => K (S.put? d s)
  | .ext x i => evA (.ext x i) S fun s => K (S.put? d s)
  | .bin op x y => evA (.bin op x y) S fun s => K (S.put? d s)
  | .eqv b t x y => (evA (.eqv b t x y) S fun s => K (S.put? d s)) ∨ oB (S.opd x) fun s => oB (S.opd y) fun j => match s, j with
    | .own i, .v (.map none) => (match getA S.O i with | some (.map _ _ _) => (∃ kt e, Try.prog.underlying t = some (.map kt e)) ∧ K (S.put? d (.v (.bool b))) | _ => False)
    | _, _ => False
  | .not x => evA (.not x) S fun s => K (S.put? d s)
  | .cnv k x => evA (.cnv k x) S fun s => K (S.put? d s)
  | .callv x xs => (evA (.callv x xs) S fun s => K (S.put? d s)) ∨ evCallvO x xs S0 d K
  | .gen op xs => (evA (.gen op xs) S fun s => K (S.put? d s)) ∨ evInvO op xs S0 d K
  | .mkf f a b => evA (.mkf f a b) S fun s => K (S.put? d s)
  | .mki t x => evA (.mki t x) S fun s => K (S.put? d s)
  | .pick c x y => evA (.pick c x y) S fun s => K (S.put? d s)
  | .mm b x y => evA (.mm b x y) S fun s => K (S.put? d s)
  | .nck x => evA (.nck x) S fun s => K (S.put? d s)

/-- An operation with its slot and its guard. -/
structure GOp where
  d : Option Nat
  g : Option (Nat × Bool)
  op : SOp
def St.del? (S : St) (d : Option Nat) : St := match d with | some d => ⟨delA S.T d, S.O, S.n⟩ | none => S
def evG (o : GOp) (S : St) (K : St → Prop) : Prop :=
  match o.g with
  | none => evOp o.d o.op S K
  | some (t, b) => oB (S.opd (.tmp t)) fun s => match s with
    | .v (.bool bb) => (bb = b → evOp o.d o.op S K) ∧ (bb = !b → K (S.put? o.d (.tup [])))
    | .tup [] => K (S.put? o.d (.tup []))
    | _ => False
def evL : List GOp → St → (St → Prop) → Prop
  | [], S, K => K S
  | o :: l, S, K => evG o S fun S' => evL l S' K

/-- A new variable and what it holds. -/
def newV (S : St) : SOp → Option (Option (TypeId × List Sh))
  | .alc t zs => some (some (t, zs.map ZSh.sh))
  | .box t x => some ((S.opd x).bind fun s => if s.cells.all Sh.one = true then some (t, s.cells) else none)
  | .mv _ => none
  | .ld .. => none
  | .fa .. => none
  | .fld .. => none
  | .ixa .. => none
  | .ixp .. => none
  | .bld .. => none
  | .bsl .. => none
  | .bso .. => none
  | .slc .. => none
  | .len _ => none
  | .lenm .. => none
  | .lkp .. => none
  | .ext .. => none
  | .bin .. => none
  | .eqv .. => none
  | .not _ => none
  | .cnv .. => none
  | .call .. => none
  | .callv .. => none
  | .gen .. => none
  | .mkf .. => none
  | .mki .. => none
  | .pick .. => none
  | .mm .. => none
  | .nck _ => none
  | .mks .. => none
  | .mkm .. => none
  | .app .. => none
  | .st .. => none
  | .cpy .. => none
  | .mup .. => none
  | .del .. => none
  | .rng .. => none
  | .nxt _ => none
  | .ent _ => none
/-- A new row. -/
def newR : SOp → Option (Operand × Operand × TypeId × Nat × Nat)
  | .alc .. => none
  | .box .. => none
  | .mv _ => none
  | .ld .. => none
  | .fa .. => none
  | .fld .. => none
  | .ixa .. => none
  | .ixp .. => none
  | .bld .. => none
  | .bsl .. => none
  | .bso .. => none
  | .slc .. => none
  | .len _ => none
  | .lenm .. => none
  | .lkp .. => none
  | .ext .. => none
  | .bin .. => none
  | .eqv .. => none
  | .not _ => none
  | .cnv .. => none
  | .call .. => none
  | .callv .. => none
  | .gen .. => none
  | .mkf .. => none
  | .mki .. => none
  | .pick .. => none
  | .mm .. => none
  | .nck _ => none
  | .mks .. => none
  | .mkm .. => none
  | .app x y e kk bytes => some (x, y, e, kk, bytes)
  | .st .. => none
  | .cpy .. => none
  | .mup .. => none
  | .del .. => none
  | .rng .. => none
  | .nxt _ => none
  | .ent _ => none
/-- A new row: something appended to nothing. -/
def rowF (S : St) (q : Operand × Operand × TypeId × Nat × Nat) (k : List (List Sh) → Prop) : Prop :=
  oB (S.opd q.1) fun s => oB (S.opd q.2.1) fun v => match s, v with
    | .sl k1 0 [], .sl k2 _ ys => k1 = q.2.2.2.1 ∧ k2 = q.2.2.2.1 ∧ ys.length ≤ 140737488355328 ∧ ys.length * q.2.2.2.2 ≤ 140737488355328 ∧ k ys
    | _, _ => False
/-- What comes in front in a region that draws its order: S is what may be read, F the state behind it, ts the types of the new variables. -/
def evF : List GOp → St → St → List TypeId → (St → Prop) → Prop
  | [], _, F, _, K => K F
  | o :: l, S, F, ts, K =>
    match o.g with
    | none => (match newV S o.op with
      | some p => oB p fun p => ts.contains p.1 = false ∧ evF l (S.del? o.d) ((F.newO (.box p.1 p.2)).put? o.d (.ptr F.n 0 0)) (p.1 :: ts) K
      | none => (match newR o.op with
        | some q => (evA o.op S fun s => evF l (S.put? o.d s) (F.put? o.d s) ts K) ∨ rowF S q fun es => ts.contains q.2.2.1 = false ∧ evF l (S.del? o.d) ((F.newO (.row q.2.2.1 q.2.2.2.1 es)).put? o.d (.own F.n)) (q.2.2.1 :: ts) K
        | none => evA o.op S fun s => evF l (S.put? o.d s) (F.put? o.d s) ts K))
    | some (t, b) => oB (S.opd (.tmp t)) fun s => match s with
      | .v (.bool bb) => (bb = b → evA o.op S fun s => evF l (S.put? o.d s) (F.put? o.d s) ts K) ∧ (bb = !b → evF l (S.del? o.d) (F.del? o.d) ts K)
      | _ => False

def St.frzAll (S : St) : List Sh → St
  | [] => S
  | x :: l => (S.frzSh x).frzAll l

/-- The orders in which a region may be gone through: 'flo': one that may well come first; 'step': the only one; 'alt': one or the other. -/
inductive OTr where
  | leaf
  | flo (i : Nat) (t : OTr)
  | step (i : Nat) (t : OTr)
  | alt (a b : OTr)
def evTr : OTr → List GOp → St → (St → Prop) → Prop
  | .leaf, _, S, K => K S
  | .flo i t, l, S, K => oB l[i]? fun o => evG o S fun S' => evTr t l S' K
  | .step i t, l, S, K => oB l[i]? fun o => evG o S fun S' => evTr t l S' K
  | .alt a b, l, S, K => evTr a l S K ∧ evTr b l S K
def insO (i : Nat) (o : Ob) : List (Nat × Ob) → List (Nat × Ob)
  | [] => [(i, o)]
  | (j, p) :: l => if i ≤ j then (i, o) :: (j, p) :: l else (j, p) :: insO i o l
def srtO : List (Nat × Ob) → List (Nat × Ob)
  | [] => []
  | (i, o) :: l => insO i o (srtO l)
def St.sorted (S : St) : St := ⟨S.T, srtO S.O, S.n⟩

/-- Code. 'ops': a list in its order; 'drw n': a region that draws its order, its first n operations in front. -/
inductive SC where
  | skip
  | ops (l : List GOp)
  | drw (n : Nat) (l : List GOp)
  | ord (t : OTr) (l : List GOp)
  | cfl (wt : List (List Nat)) (l : List GOp)
  | seq (a b : SC)
  | cond (c : Operand) (a b : SC)
  | block (id : Nat) (a : SC)
  | loop (a : SC)
  | exit (id : Nat)
  | ret
inductive Ex where
  | next
  | exit (id : Nat)
  | ret

/-- What is no longer needed is forgotten. -/
def keepT {α : Type} (l : List (Nat × α)) : List Nat → List (Nat × α)
  | [] => []
  | k :: ks => match getA l k with
    | some x => (k, x) :: keepT l ks
    | none => keepT l ks
/-- It names no part of one's own memory but these. -/
def refsC (ids : List Nat) : Sh → Bool
  | .own i => ids.contains i
  | .ptr i _ _ => ids.contains i
  | .agg _ | .tup _ => false
  | .v _ | .sl .. | .mp .. | .fn .. | .ifc .. | .fp .. | .any => true
def refsL (ids : List Nat) : List Sh → Bool
  | [] => true
  | x :: l => refsC ids x && refsL ids l
def refsOk (ids : List Nat) : Sh → Bool
  | .agg cs => refsL ids cs
  | .own i => ids.contains i
  | .ptr i _ _ => ids.contains i
  | .tup _ => false
  | .v _ | .sl .. | .mp .. | .fn .. | .ifc .. | .fp .. | .any => true
def refsT (ids : List Nat) : List (Nat × Sh) → Bool
  | [] => true
  | p :: l => refsOk ids p.2 && refsT ids l
def refsO (ids : List Nat) : List (Nat × Ob) → Bool
  | [] => true
  | (_, .box _ cs) :: l => refsL ids cs && refsO ids l
  | (_, .row ..) :: l => refsO ids l
  | (_, .map ..) :: l => refsO ids l
  | (_, .iter ..) :: l => refsO ids l
  | (_, .frz _) :: l => refsO ids l
  | (_, .obx _ cs) :: l => refsL ids cs && refsO ids l
  | (_, .mpr ..) :: l => refsO ids l
  | (_, .itm ..) :: l => refsO ids l
  | (_, .gh _) :: _ => false
/-- Names anew: the part that stands at place j of the list is called j. -/
def idxN : List Nat → Nat → Nat
  | [], _ => 0
  | k :: l, i => if k = i then 0 else idxN l i + 1
def renC (ids : List Nat) : Sh → Sh
  | .own i => .own (idxN ids i)
  | .ptr i a b => .ptr (idxN ids i) a b
  | .v x => .v x
  | .agg cs => .agg cs
  | .tup cs => .tup cs
  | .sl k g es => .sl k g es
  | .mp kt f => .mp kt f
  | .fn f a b => .fn f a b
  | .ifc t x => .ifc t x
  | .fp e o => .fp e o
  | .any => .any
def renSh (ids : List Nat) : Sh → Sh
  | .agg cs => .agg (cs.map (renC ids))
  | .own i => .own (idxN ids i)
  | .ptr i a b => .ptr (idxN ids i) a b
  | .v x => .v x
  | .tup cs => .tup cs
  | .sl k g es => .sl k g es
  | .mp kt f => .mp kt f
  | .fn f a b => .fn f a b
  | .ifc t x => .ifc t x
  | .fp e o => .fp e o
  | .any => .any
def renT (ids : List Nat) : List (Nat × Sh) → List (Nat × Sh)
  | [] => []
  | (t, x) :: l => (t, renSh ids x) :: renT ids l
def renOb (ids : List Nat) : Ob → Ob
  | .box t cs => .box t (cs.map (renC ids))
  | .row e k es => .row e k es
  | .map kt n f => .map kt n f
  | .iter f left cnt cur => .iter f left cnt cur
  | .frz x => .frz x
  | .obx e cs => .obx e (cs.map (renC ids))
  | .gh J => .gh J
  | .mpr q kt n f => .mpr q kt n f
  | .itm q kt left cnt cur => .itm q kt left cnt cur
def renO (ids : List Nat) : List (Nat × Ob) → List (Nat × Ob)
  | [] => []
  | (i, o) :: l => (idxN ids i, renOb ids o) :: renO ids l
def St.keep (S : St) : Option (List Nat × Option (List Nat × Nat)) → St
  | none => S
  | some (ks, none) => ⟨keepT S.T ks, S.O, S.n⟩
  | some (ks, some (ids, n)) => if (refsT ids (keepT S.T ks) && (refsO ids (keepT S.O ids) && decide (ids.length ≤ n))) = true then ⟨renT ids (keepT S.T ks), renO ids (keepT S.O ids), n⟩ else ⟨keepT S.T ks, S.O, S.n⟩

/-- In a region of many orders: done, ready. -/
def rdyW (wt : List (List Nat)) (done : List Nat) (i : Nat) : Bool := !done.contains i && (match wt[i]? with | some l => l.all done.contains | none => false)
/-- Part i is block b. -/
def isBlk (i b : Nat) : Hp → Env → Prop := fun _ E => E i = some (.pointer (some ⟨b, 0, none⟩), 0, some b)
inductive Rv where
  | reveal (i : Nat)
  | raw (t g : Nat)
  | unraw (t g : Nat)
def evR : List Rv → St → (St → Prop) → Prop
  | [], S, K => K S
  | .reveal i :: rs, S, K => (∃ t cs, getA S.O i = some (.box t cs)) ∧ ∀ b, evR rs (S.newO (.gh (isBlk i b))) K
  | .raw t g :: rs, S, K => ∃ i b off, getA S.O g = some (.gh (isBlk i b)) ∧ getA S.T t = some (.v (.pointer (some ⟨b, off, none⟩))) ∧ evR rs (S.put t (.ptr i 0 off)) K
  | .unraw t g :: rs, S, K => ∃ i b off, getA S.O g = some (.gh (isBlk i b)) ∧ getA S.T t = some (.ptr i 0 off) ∧ evR rs (S.put t (.v (.pointer (some ⟨b, off, none⟩)))) K
/-- A list of operations; between some of them addresses are told apart. -/
def evX : List (Nat × List Rv) → List GOp → St → (St → Prop) → Prop
  | [], l, S, K => evL l S K
  | (n, rs) :: sp, l, S, K => evL (l.take n) S fun S1 => evR rs S1 fun S2 => evX sp (l.drop n) S2 K
def ev : SC → St → (Ex → St → Prop) → Prop
  | .skip, S, K => K .next S
  | .ops l, S, K => ∃ sp cs, evX sp l (S.casts cs) (K .next)
  | .drw n l, S, K => ∃ gs cs, evF (l.take n) ((S.casts cs).frzAll gs) ((S.casts cs).frzAll gs) [] fun S' => evL (l.drop n) S' (K .next)
  | .ord t l, S, K => ∃ cs S1, evTr t l (S.casts cs) (fun S' => ∃ kp, (S'.keep kp).sorted = S1) ∧ K .next S1
  | .cfl wt l, S, K => ∃ (cs : List Cst) (I : List Nat → St → Prop), I [] (S.casts cs) ∧ (∀ done S' i, I done S' → rdyW wt done i = true → oB l[i]? fun g => evG g S' fun S2 => I (i :: done) S2) ∧ ∀ done S', I done S' → (∀ i, i < wt.length → done.contains i = true) → ∃ kp, K .next ((S'.keep kp).sorted)
  | .seq a b, S, K => ev a S fun e S' => match e with | .next => ∃ ks, ev b (S'.keep ks) K | .ret => K .ret S' | .exit i => K (.exit i) S'
  | .cond c a b, S, K => oB (S.opd c) fun s => match s with | .v (.bool t) => (t = true → ev a S K) ∧ (t = false → ev b S K) | _ => False
  | .block id a, S, K => ev a S fun e S' => match e with | .exit j => if j = id then K .next S' else K (.exit j) S' | .next => K .next S' | .ret => K .ret S'
  | .loop a, S, K => ∃ (I : Nat → St → Prop) (m : Nat) (kp : Option (List Nat × Option (List Nat × Nat))) (cs : List Cst), I m ((S.casts cs).keep kp) ∧ ∀ k S1, I k S1 → ev a S1 fun e S' => match e with | .next => ∃ k' kp, k' < k ∧ I k' (S'.keep kp) | .ret => K .ret S' | .exit i => K (.exit i) S'
  | .exit id, S, K => K (.exit id) S
  | .ret, S, K => K .ret S

/-- What a function hands back. -/
inductive RV where
  | tmp (t : Nat)
  | cel (t : Nat) (ag : Option Nat)
def St.retv (S : St) : RV → Option Sh
  | .tmp t => S.opd (.tmp t)
  | .cel t ag => (S.opd (.tmp t)).bind fun p => (S.at p).bind fun q => match ag with
    | some n => if q.2 + n ≤ q.1.length then some (.agg ((q.1.drop q.2).take n)) else none
    | none => q.1[q.2]?
def St.frzRets (S : St) : List RV → St
  | [] => S
  | r :: l => match S.retv r with
    | some x => (S.frzSh x).frzRets l
    | none => S.frzRets l
def St.retL (S : St) : List RV → Option (List Sh)
  | [] => some []
  | r :: l => ((S.retv r).bind S.arg).bind fun y => (S.retL l).map (y :: ·)
def ret1 : List Sh → Sh
  | [x] => x
  | l => .tup l
def argT : Nat → List Sh → List (Nat × Sh)
  | _, [] => []
  | i, x :: l => (i, x) :: argT (i + 1) l
/-- The end of a function's body. -/
def fin (rvs : List RV) (r : Sh) (e : Ex) (S : St) : Prop :=
  match e with
  | .exit _ => False
  | _ => oB ((S.frzRets rvs).retL rvs) fun l => ret1 l = r
/-- What r' shadows, r shadows. -/
def RepLe (r' r : Sh) : Prop := ∀ (H : Hp) (v : Value), Rep H E0 r' v → Rep H E0 r v
def fin2 (rvs : List RV) (r : Sh) (e : Ex) (S : St) : Prop :=
  match e with
  | .exit _ => False
  | _ => oB ((S.frzRets rvs).retL rvs) fun l => RepLe (ret1 l) r
def evFn (sc : SC) (rvs : List RV) (args : List Sh) (r : Sh) : Prop := ev sc ⟨argT 0 args, [], 0⟩ (fin rvs r)
end Go.Proofs.Ytijblpkdfmkcfaa
namespace Go.Proofs.Ytijblpkdfmkcfaa
set_option linter.unusedSimpArgs false
set_option linter.unusedVariables false
open Go.RowKit Go.Maps

theorem IterO.le {H H' : Hp} (g : Le H H') {r : Nat} {ob : Obj} {f left cnt} (h : IterO H r ob f left cnt) : IterO H' r ob f left cnt := by
  rcases h with h | ⟨b, om, kt, M, D, lft, F, h1, h2, h3, h4, h5, h6, h7⟩
  · exact .inl h
  · exact .inr ⟨b, om, kt, M, D, lft, F, g _ _ h1, h2, h3, h4, h5, fun j s u a b => (h6 j s u a b).mono g (ELe.refl _), h7⟩
theorem CurO.le {H H' : Hp} (g : Le H H') {r : Nat} {ob : Obj} {j s} (h : CurO H r ob j s) : CurO H' r ob j s := by
  obtain ⟨v, h1, h2⟩ := h
  exact ⟨v, fun w hs hr => h1 w (fun i o ho => hs i o (g _ _ ho)) hr, h2.mono g (ELe.refl _)⟩
theorem ObRep.grow {B H E w i o w' H'} (h : ObRep B H E w i o) (g : Grow w H w' H') (hs : Sub H w) : ObRep B H' E w' i o := by
  have hle := g.le hs
  cases o with
  | box t cs =>
    obtain ⟨b, vs, h1, h2, h3, h4, h5, h6⟩ := h
    have hlt := (Array.getElem?_eq_some_iff.1 h4).1
    exact ⟨b, vs, h1, h2, (g.old b hlt).trans h3, (g.below.block b hlt).trans h4, h5.mono hle (ELe.refl _), h6⟩
  | row e k es =>
    obtain ⟨u, ob, xs, h1, hk, h2, h3⟩ := h
    refine ⟨u, ob, xs, h1, hk, h2.mono hle, h3.imp id ?_⟩
    rintro ⟨g', cap, cur, a1, a2, a3, a4, a5, a6⟩
    have hlt := (Array.getElem?_eq_some_iff.1 a5).1
    exact ⟨g', cap, cur, a1, a2, a3, (g.old _ hlt).trans a4, (g.below.block _ hlt).trans a5, a6⟩
  | map kt N f =>
    obtain ⟨b, o, F, h1, h2, h3, h4, h5, h6, h7, h8⟩ := h
    have hlt := (Array.getElem?_eq_some_iff.1 h4).1
    exact ⟨b, o, F, h1, h2, (g.old b hlt).trans h3, (g.below.block b hlt).trans h4, h5, h6, h7, fun j s u a b => (h8 j s u a b).mono hle (ELe.refl _)⟩
  | iter f left cnt cur =>
    obtain ⟨r, ob, h1, h2, h3, h4, h5, h6⟩ := h
    have hlt := (Array.getElem?_eq_some_iff.1 h4).1
    exact ⟨r, ob, h1, h2, (g.old r hlt).trans h3, (g.below.block r hlt).trans h4, h5.le hle, fun j s e => (h6 j s e).le hle⟩
  | frz x =>
    obtain ⟨u, k, b, h1, h2, h3, h4⟩ := h
    exact ⟨u, k, b, h1, h2.mono hle (ELe.refl _), h3, h4⟩
  | obx e cs =>
    obtain ⟨b, cap, cur, h1, h2, h3, h4, h5, h6, h7⟩ := h
    have hlt := (Array.getElem?_eq_some_iff.1 h4).1
    exact ⟨b, cap, cur, h1, h2, (g.old b hlt).trans h3, (g.below.block b hlt).trans h4, h5, h6.mono hle (ELe.refl _), h7⟩
  | gh J => exact ⟨h.1, h.2.2 _ _ _ _ hle (ELe.refl _) h.2.1, h.2.2⟩
  | mpr q kt N f =>
    obtain ⟨es, F, h1, h2, h3, h4, h4', h5, h6, h7, h8⟩ := h
    have hlt := (Array.getElem?_eq_some_iff.1 h4).1
    exact ⟨es, F, h1, h2, (g.old _ hlt).trans h3, (g.below.block _ hlt).trans h4, h4', h5, h6, h7, fun j s u a b => (h8 j s u a b).mono hle (ELe.refl _)⟩
  | itm q kt left cnt cur =>
    obtain ⟨r, ob, h1, h2, h3, h4, h5⟩ := h
    have hlt := (Array.getElem?_eq_some_iff.1 h4).1
    exact ⟨r, ob, h1, h2, (g.old r hlt).trans h3, (g.below.block r hlt).trans h4, h5⟩
theorem Objs.grow {B S E w H w' H'} (h : Objs B S E w H) (g : Grow w H w' H') (hs : Sub H w) : Objs B S E w' H' := fun i o ho => (h i o ho).grow g hs

section
variable {B : Nat} {S : St} {E : Env} {w : World} {H : Hp}

theorem res_rep (hO : Objs B S E w H) {x u} (h : Rep H E x u) : Rep H E (S.res x) u := by
  cases h with
  | own h h1 =>
    rename_i i k b
    show Rep H E (match getA S.O i with | some (.frz x) => x | _ => .own i) u
    split
    · rename_i y hg
      obtain ⟨u', k', b', e1, e2, _⟩ := hO _ _ hg
      rw [h] at e1; cases e1
      exact e2.mono (fun _ _ h => h) (E0_le _)
    · exact .own h h1
  | ptr h =>
    rename_i i idx off u' k b
    show Rep H E (match getA S.O i with | some (.frz (.fp e 0)) => .fp e off | _ => .ptr i idx off) _
    split
    · rename_i e hg
      obtain ⟨u2, k', b', e1, e2, _, e4⟩ := hO _ _ hg
      rw [h] at e1; cases e1
      obtain ⟨rfl, b0, hb, rfl⟩ := e4 e rfl
      cases hb
      generalize hq : (Value.pointer (some ⟨b, 0, none⟩)) = q at e2
      cases e2 with
      | fp a1 a2 a3 =>
        rename_i bb o xs
        simp only [Nat.add_zero, Value.pointer.injEq, Option.some.injEq, Addr.mk.injEq, and_true] at hq
        obtain ⟨rfl, rfl⟩ := hq
        have := Rep.fp (E := E) (off := off) a1 a2 a3
        simpa using this
    · exact .ptr h
  | v h => exact .v h
  | agg a b => exact .agg a b
  | tup a => exact .tup a
  | sl a b c d e f g => exact .sl a b c d e f g
  | mpn h => exact .mpn h
  | mp a b c d e => exact .mp a b c d e
  | fn a b => exact .fn a b
  | ifc a => exact .ifc a
  | fp a b c => exact .fp a b c
  | any a => exact .any a

/-- What is laid of the slots that an operation reads. -/
def OpdOk (S : St) (E : Env) (H : Hp) (a : Act) (xs : List Operand) : Prop := ∀ x ∈ xs, ∀ y, S.opd x = some y → Rep H E y (a.eval x)
theorem OpdOk.get {a : Act} {xs : List Operand} (h : OpdOk S E H a xs) {x : Operand} {y : Sh} (hx : x ∈ xs) (hy : S.opd x = some y) : Rep H E y (a.eval x) := h x hx y hy
theorem lookup_mem {α : Type} {g : Nat} {x : α} : ∀ {l : List (Nat × α)}, l.lookup g = some x → (g, x) ∈ l
  | [], h => by cases h
  | (k, y) :: l, h => by
    rw [List.lookup_cons] at h
    split at h
    · rename_i e
      have e : g = k := by simpa using e
      cases h; subst e; exact List.mem_cons_self ..
    · exact List.mem_cons_of_mem _ (lookup_mem h)
theorem gTab_one : ∀ p ∈ gTab, ∀ u ∈ p.2, u.oneCell' = true := by decide
theorem repL_v {H : Hp} {E : Env} : ∀ (vs : List Value), (∀ u ∈ vs, u.oneCell' = true) → RepL H E (vs.map Sh.v) vs
  | [], _ => .nil
  | u :: l, h => .cons (.v (h u (List.mem_cons_self ..))) (repL_v l fun x hx => h x (List.mem_cons_of_mem _ hx))
theorem opd_of {a : Act} (hG : GOk H) (hO : Objs B S E w H) {x : Operand} (hT : ∀ t y, x = .tmp t → getA S.T t = some y → Rep H E y (a.eval (.tmp t))) {y : Sh} (h : S.opd x = some y) : Rep H E y (a.eval x) := by
  cases x with
  | tmp t =>
    simp only [St.opd, Option.map_eq_some_iff] at h
    obtain ⟨z, hz, rfl⟩ := h
    exact res_rep hO (hT t z rfl hz)
  | const v =>
    simp only [St.opd] at h
    split at h
    · rename_i h1; cases h; exact .v h1
    · cases h
  | func f => simp only [St.opd, Option.some.injEq] at h; subst h; exact .fn .nil .nil
  | global g =>
    simp only [St.opd, Option.map_eq_some_iff] at h
    obtain ⟨vs, hl, rfl⟩ := h
    have hm := lookup_mem hl
    obtain ⟨c, t, fr, e, hc⟩ := hG _ hm
    have h1 := gTab_one _ hm
    have := Rep.fp (H := H) (E := E) (off := 0) (b := g) (o := 0) (xs := vs) (repL_v vs h1) (by simp [Sh.one]) (fun j u hu => ⟨c, t, fr, e, by rw [Nat.zero_add]; exact hc j u hu⟩)
    simpa [Act.eval] using this

theorem arg1_rep (hO : Objs B S E w H) {x y u} (h : Rep H E x u) (ha : S.arg1 x = some y) : Rep H E0 y u ∧ y.pure = true ∧ (x.one = true → y.one = true) := by
  unfold St.arg1 at ha
  simp only at ha
  split at ha
  · rename_i hp
    cases ha
    refine ⟨(res_rep hO h).pure hp _, hp, fun _ => ?_⟩
    cases hq : S.res x <;> simp_all [Sh.pure, Sh.one]
  · cases ha
theorem argL_rep (hO : Objs B S E w H) : ∀ {xs ys us}, RepL H E xs us → S.argL xs = some ys → RepL H E0 ys us ∧ ys.all Sh.pure = true ∧ (xs.all Sh.one = true → ys.all Sh.one = true)
  | _, _, _, .nil, h => by simp only [St.argL, Option.some.injEq] at h; subst h; exact ⟨.nil, rfl, fun _ => rfl⟩
  | _, _, _, .cons h t, ha => by
    simp only [St.argL, Option.bind_eq_some_iff, Option.map_eq_some_iff] at ha
    obtain ⟨y, hy, l, hl, rfl⟩ := ha
    obtain ⟨a1, a2, a3⟩ := arg1_rep hO h hy
    obtain ⟨b1, b2, b3⟩ := argL_rep hO t hl
    refine ⟨.cons a1 b1, by simp [a2]; simpa using b2, fun h1 => ?_⟩
    simp only [List.all_cons, Bool.and_eq_true] at h1 ⊢
    exact ⟨a3 h1.1, b3 h1.2⟩
theorem arg_rep (hO : Objs B S E w H) {x y u} (h : Rep H E x u) (ha : S.arg x = some y) : Rep H E0 y u := by
  cases h with
  | agg h h1 =>
    simp only [St.arg, Option.map_eq_some_iff] at ha
    obtain ⟨l, hl, rfl⟩ := ha
    obtain ⟨a1, _, a3⟩ := argL_rep hO h hl
    exact .agg a1 (a3 h1)
  | tup h => cases ha
  | v h => cases ha; exact .v h
  | sl a b c d e f g => cases ha; exact .sl a b c d e f g
  | mpn h => cases ha; exact .mpn h
  | mp a b c d e => cases ha; exact .mp a b c d e
  | fn a b => cases ha; exact .fn a b
  | ifc a => cases ha; exact .ifc a
  | fp a b c => cases ha; exact .fp a b c
  | any a => cases ha; exact .any a
  | own h h1 => exact (arg1_rep hO (.own h h1) ha).1
  | ptr h => exact (arg1_rep hO (.ptr h) ha).1
theorem args_rep (hO : Objs B S E w H) {a : Act} : ∀ {xs : List Operand} {ys}, OpdOk S E H a xs → S.args xs = some ys → RepL H E0 ys (xs.map a.eval)
  | [], _, _, h => by simp only [St.args, Option.some.injEq] at h; subst h; exact .nil
  | x :: l, _, ho, ha => by
    simp only [St.args, Option.bind_eq_some_iff, Option.map_eq_some_iff] at ha
    obtain ⟨y, ⟨z, hz, hy⟩, l', hl, rfl⟩ := ha
    exact .cons (arg_rep hO (ho.get (by simp) hz) hy) (args_rep hO (fun x hx => ho x (by simp [hx])) hl)

theorem cells_rep {x u} (h : Rep H E x u) (h1 : x.cells.all Sh.one = true) : RepL H E x.cells u.cells.toList := by
  cases h with
  | agg h _ => simpa [Sh.cells, Value.cells] using h
  | tup h => simp [Sh.cells, Sh.one] at h1
  | v h => 
    have e : u.cells = #[u] := by cases u <;> simp_all [Value.cells, Value.oneCell']
    simp only [Sh.cells, e]; exact .cons (.v h) .nil
  | sl a b c d e f g => exact .cons (.sl a b c d e f g) .nil
  | mpn h => exact .cons (.mpn h) .nil
  | mp a b c d e => exact .cons (.mp a b c d e) .nil
  | fn a b => exact .cons (.fn a b) .nil
  | ifc a => exact .cons (.ifc a) .nil
  | fp a b c => exact .cons (.fp a b c) .nil
  | any h1 =>
    have e : u.cells = #[u] := by cases u <;> simp_all [Value.cells, Value.oneCell']
    simp only [Sh.cells, e]; exact .cons (.any h1) .nil
  | own h h1 =>
    have e : u.cells = #[u] := by cases u <;> simp_all [Value.cells, Value.oneCell']
    simp only [Sh.cells, e]; exact .cons (.own h h1) .nil
  | ptr h => exact .cons (.ptr h) .nil

theorem at_rep (hO : Objs B S E w H) (hs : Sub H w) {x u cs off} (h : Rep H E x u) (ha : S.at x = some (cs, off)) :
    ∃ b o vs, u = .pointer (some ⟨b, o + off, none⟩) ∧ RepL H E cs vs ∧ cs.all Sh.one = true ∧ ∀ j v, vs[j]? = some v → w.cell? ⟨b, o + j, none⟩ = some v := by
  cases h with
  | ptr h =>
    rename_i i idx off' u' k b
    simp only [St.at] at ha
    split at ha
    · rename_i t cs' hg
      cases ha
      obtain ⟨b', vs, h1, h2, h3, h4, h5, h6⟩ := hO _ _ hg
      rw [h] at h1; cases h1
      refine ⟨b, 0, vs, by simp, h5, h6, fun j v hv => ?_⟩
      simp [World.cell?, h4, hv]
    · rename_i e k' es hg
      simp only [Option.map_eq_some_iff, Prod.mk.injEq] at ha
      obtain ⟨el, hel, rfl, rfl⟩ := ha
      obtain ⟨u2, ob, xs, h1, hk, h2, h3⟩ := hO _ _ hg
      rw [h] at h1; cases h1
      rcases h3 with ⟨_, h3, _⟩ | ⟨g, cap, cur, a1, a2, a3, a4, a5, a6, a7, a7', a8, a9⟩
      · cases h3
      · cases a1
        obtain ⟨vs, c1, c2, c3, c4⟩ := h2.get hel
        refine ⟨_, idx * k, vs, rfl, c2.mono (fun _ _ h => h) (E0_le _), c3, fun j v hv => ?_⟩
        have := c4 j v hv
        rw [← a9, List.getElem?_take] at this
        split at this
        · simp [World.cell?, a5]; simpa using this
        · cases this
    · rename_i e cs' hg
      cases ha
      obtain ⟨g, cap, cur, h1, h2, h3, h4, h5, h6, h7⟩ := hO _ _ hg
      rw [h] at h1; cases h1
      refine ⟨b, 0, _, by simp, h6, h7, fun j v hv => ?_⟩
      rw [List.getElem?_take] at hv
      split at hv
      · simp [World.cell?, h4]; simpa using hv
      · cases hv
    · cases ha
  | fp a1 a2 a3 =>
    simp only [St.at, Option.some.injEq, Prod.mk.injEq] at ha
    obtain ⟨rfl, rfl⟩ := ha
    refine ⟨_, _, _, rfl, a1.mono (fun _ _ h => h) (E0_le _), a2, fun j v hv => ?_⟩
    obtain ⟨cells, t, fr, e2, e3⟩ := a3 j v hv
    have := hs _ _ e2
    simp [World.cell?, this, e3]
  | _ => cases ha

end
end Go.Proofs.Ytijblpkdfmkcfaa
namespace Go.Proofs.Ytijblpkdfmkcfaa
set_option linter.unusedSimpArgs false
set_option linter.unusedVariables false
open Go.RowKit Go.Maps

def aggB : TypeDesc → Bool
  | .struct _ | .array _ _ => true
  | _ => false
theorem run_isAgg {P : Program} {t d} (h : P.underlying t = some d) (w : World) : (isAgg t).run P w = .ok (aggB d) w := by
  cases d <;> simp [isAgg, run_underlying h, aggB]
theorem run_sizeOf {P : Program} {t i} (h : P.info? t = some i) (w : World) : (sizeOf t).run P w = .ok i.size w := by simp [sizeOf, typeInfo, h]
theorem run_zero {P : Program} {t i z} (h : P.info? t = some i) (hz : i.zero = some z) (w : World) : (zeroValue t).run P w = .ok z w := by simp [zeroValue, typeInfo, h, hz]

def idxs {α : Type} : Nat → List α → List (Nat × α)
  | _, [] => []
  | j, x :: l => (j, x) :: idxs (j + 1) l

inductive OpM : Op → SOp → Prop
  | mv {x} : OpM (.move x) (.mv x)
  | asg {x} : OpM (.assign x) (.mv x)
  | ldA {t x d i} : Try.prog.underlying t = some d → aggB d = true → Try.prog.info? t = some i → OpM (.load t x) (.ld x (some i.size))
  | ld1 {t x d} : Try.prog.underlying t = some d → aggB d = false → OpM (.load t x) (.ld x none)
  | fa {s x j fs f i} : Try.prog.underlying s = some (.struct fs) → fs[j]? = some f → Try.prog.info? f.type = some i → i.size ≠ 0 → OpM (.fieldAddr s x j) (.fa x f.offset)
  | fldA {s x j fs f i d} : Try.prog.underlying s = some (.struct fs) → fs[j]? = some f → Try.prog.info? f.type = some i → Try.prog.underlying f.type = some d → aggB d = true → OpM (.field s x j) (.fld x f.offset (some i.size))
  | fld1 {s x j fs f d} : Try.prog.underlying s = some (.struct fs) → fs[j]? = some f → Try.prog.underlying f.type = some d → aggB d = false → OpM (.field s x j) (.fld x f.offset none)
  | ixa {t x j e i} : Try.prog.underlying t = some (.slice e) → Try.prog.info? e = some i → 0 < i.size → OpM (.indexAddr t x j) (.ixa x j i.size)
  | ixp {t x j e i n} : Try.prog.underlying t = some (.array n e) → Try.prog.info? e = some i → OpM (.indexAddr t x j) (.ixp x j i.size n)
  | bld {t parts zs ps it z} {pl : Nat → Option (Nat × Nat)} : Try.prog.info? t = some it → it.zero = some z → z.cells.toList = zs.map ZSh.val → (∀ vals, Try.prog.built t vals = Instr.fill pl z.cells vals) →
      parts.toList.mapM (fun p => (pl p.1).map fun q => (q.1, q.2, p.2)) = some ps → OpM (.build t parts) (.bld zs ps)
  | bsl {t e i z parts xs} : Try.prog.underlying t = some (.slice e) → Try.prog.info? e = some i → i.zero = some z → z.cells.size = i.size → 0 < i.size → parts.toList = idxs 0 xs → xs.length * i.size ≤ 16777216 → OpM (.buildSlice t xs.length parts) (.bsl i.size xs)
  | bso {t e i z parts xs} : Try.prog.underlying t = some (.slice e) → Try.prog.info? e = some i → i.zero = some z → z.cells.size = i.size → 0 < i.size → parts.toList = idxs 0 xs → xs.length * i.size ≤ 16777216 → OpM (.buildSlice t xs.length parts) (.bso i.size xs e)
  | slc {t e i x lo hi mx} : Try.prog.underlying t = some (.slice e) → Try.prog.info? e = some i → OpM (.slice t x lo hi mx) (.slc i.size x lo hi mx)
  | len {t e x} : Try.prog.underlying t = some (.slice e) → OpM (.call ⟨.builtin .len, #[x], #[t]⟩) (.len x)
  | lenm {t kt e x} : Try.prog.underlying t = some (.map kt e) → Try.prog.underlying kt = some (.int .i64) → OpM (.call ⟨.builtin .len, #[x], #[t]⟩) (.lenm kt x)
  | lkp {t kt e i m key ok} {z : ZAg} : Try.prog.underlying t = some (.map kt e) → Try.prog.underlying kt = some (.int .i64) → Try.prog.info? e = some i → i.zero = some z.val → OpM (.lookup t m key ok) (.lkp kt m key z ok)
  | ext {x i} : OpM (.extract x i) (.ext x i)
  | bin {op t x y t2} : OpM (.binOp op t x y t2) (.bin op x y)
  | eqv {t x y t2} : OpM (.binOp .eql t x y t2) (.eqv false t x y)
  | neqv {t x y t2} : OpM (.binOp .neq t x y t2) (.eqv true t x y)
  | not {t x} : OpM (.unOp .not t x) (.not x)
  | cnv {src dst x d k} : Try.prog.underlying src = some d → Try.prog.underlying dst = some (.int k) → OpM (.convert src dst x) (.cnv k x)
  | call {f fn args tys} : Try.prog.funcs[f]? = some fn → fn.body.isSome = true → (fn.name == "runtime.NumGoroutine") = false → OpM (.call ⟨.value (.func f), args, tys⟩) (.call f args.toList)
  | callv {t args tys} : OpM (.call ⟨.value (.tmp t), args, tys⟩) (.callv (.tmp t) args.toList)
  | mkf {f first cap} : OpM (.makeFunc f first cap) (.mkf f first.toList cap.toList)
  | mki {t x d} : Try.prog.underlying t = some d → (∀ ms, d ≠ .interface ms) → OpM (.makeInterface t x) (.mki t x)
  | pick {c a b} : OpM (.pick c a b) (.pick c a b)
  | max {x y tys} : OpM (.call ⟨.builtin .max, #[x, y], tys⟩) (.mm true x y)
  | min {x y tys} : OpM (.call ⟨.builtin .min, #[x, y], tys⟩) (.mm false x y)
  | nck {x} : OpM (.nilCheck x) (.nck x)
  | mks {t e i z n zs} : Try.prog.underlying t = some (.slice e) → Try.prog.info? e = some i → i.zero = some z → z.cells.toList = zs.map ZSh.val → z.cells.size = i.size → 0 < i.size → OpM (.makeSlice t n n) (.mks n e i.size i.bytes zs)
  | mkm {t kt e} : Try.prog.underlying t = some (.map kt e) → Try.prog.underlying kt = some (.int .i64) → OpM (.makeMap t none) (.mkm t kt)
  | app {t e i z x y} : Try.prog.underlying t = some (.slice e) → Try.prog.info? e = some i → i.zero = some z → z.cells.size = i.size → 0 < i.size → OpM (.call ⟨.builtin .append, #[x, y], #[t, t]⟩) (.app x y e i.size i.bytes)
  | alc {t i z zs} : Try.prog.info? t = some i → i.zero = some z → z.cells.toList = zs.map ZSh.val → OpM (.alloc t) (.alc t zs)
  | box {t x} : OpM (.box t x) (.box t x)
  | st {t i x y} : Try.prog.info? t = some i → OpM (.store t x y) (.st i.size x y)
  | cpy {t e i x y t2} : Try.prog.underlying t = some (.slice e) → Try.prog.info? e = some i → OpM (.call ⟨.builtin .copy, #[x, y], #[t, t2]⟩) (.cpy x y i.size)
  | mup {t kt e m key x} : Try.prog.underlying t = some (.map kt e) → Try.prog.underlying kt = some (.int .i64) → OpM (.mapUpdate t m key x) (.mup kt m key x)
  | ins {t kt e m key x} : Try.prog.underlying t = some (.map kt e) → Try.prog.underlying kt = some (.int .i64) → OpM (.insert t m key x) (.mup kt m key x)
  | del {t kt e m key} : Try.prog.underlying t = some (.map kt e) → Try.prog.underlying kt = some (.int .i64) → OpM (.call ⟨.builtin .delete, #[m, key], #[t, kt]⟩) (.del kt m key)
  | rng {t kt e x} : Try.prog.underlying t = some (.map kt e) → Try.prog.underlying kt = some (.int .i64) → OpM (.range t x) (.rng kt x)
  | nxt {x} : OpM (.next x false) (.nxt x)
  | ent {x} : OpM (.entry x) (.ent x)
  | gen {op xs} : OpM op (.gen op xs)

def SOp.opds : SOp → List Operand
  | .mv x | .ld x _ | .fa x _ | .fld x _ _ | .len x | .lenm _ x | .ext x _ | .not x | .cnv _ x | .mki _ x | .nck x | .mks x _ _ _ _ | .box _ x => [x]
  | .ixa x i _ | .ixp x i _ _ | .lkp _ x i _ _ | .bin _ x i | .eqv _ _ x i | .mm _ x i | .app x i _ _ _ | .st _ x i | .cpy x i _ => [x, i]
  | .bld _ ps => ps.map (·.2.2)
  | .bsl _ xs | .bso _ xs _ | .call _ xs | .gen _ xs => xs
  | .slc _ x lo hi mx => x :: (lo.toList ++ hi.toList ++ mx.toList)
  | .callv x xs => x :: xs
  | .mkf _ a b => a ++ b
  | .pick c a b => [c, a, b]
  | .mup _ m k x => [m, k, x]
  | .del _ m k => [m, k]
  | .rng _ x | .nxt x | .ent x => [x]
  | .mkm _ _ | .alc _ _ => []

/-- The operation, wherever the context fits, comes to a value that s shadows. -/
def Good (o : Oper) (S : St) (E : Env) (xs : List Operand) (s : Sh) : Prop :=
  ∀ (B : Nat) (a : Act) (w : World) (H : Hp), Sub H w → Objs B S E w H → OpdOk S E H a xs → o.wp Try.prog a w (fun a' w' => ∃ v H', a' = a.put o.dst v ∧ Grow w H w' H' ∧ Rep H' E s v) NoQ

theorem good_val {o S E xs s} (h : ∀ B a w H, Sub H w → Objs B S E w H → OpdOk S E H a xs → ∃ v w' H', (execOp a.eval o).run Try.prog w = .ok (.value v) w' ∧ Grow w H w' H' ∧ Rep H' E s v) : Good o S E xs s := by
  intro B a w H h1 h2 h3
  obtain ⟨v, w', H', e, g, r⟩ := h B a w H h1 h2 h3
  unfold Oper.wp
  rw [e]
  exact ⟨v, H', rfl, g, r⟩
/-- .. and turns nothing. -/
theorem good_same {o S E xs s} (h : ∀ B a w H, Sub H w → Objs B S E w H → OpdOk S E H a xs → ∃ v, (execOp a.eval o).run Try.prog w = .ok (.value v) w ∧ Rep H E s v) : Good o S E xs s :=
  good_val fun B a w H h1 h2 h3 => by obtain ⟨v, e, r⟩ := h B a w H h1 h2 h3; exact ⟨v, w, H, e, Grow.refl h1, r⟩

section
variable {o : Oper} {S : St} {E : Env}

theorem run_load_at {P : Program} {w : World} {t : TypeId} {d : TypeDesc} {b o' off : Nat} {vs : List Value} (hu : P.underlying t = some d) (hat : ∀ j v, vs[j]? = some v → w.cell? ⟨b, o' + j, none⟩ = some v) :
    (∀ i, aggB d = true → P.info? t = some i → off + i.size ≤ vs.length → (Instr.loadAt t (.pointer (some ⟨b, o' + off, none⟩))).run P w = .ok (.agg ((vs.drop off).take i.size).toArray) w) ∧
    (∀ u, aggB d = false → vs[off]? = some u → (Instr.loadAt t (.pointer (some ⟨b, o' + off, none⟩))).run P w = .ok u w) := by
  constructor
  · intro i ha hi hl
    have hlen : ((vs.drop off).take i.size).length = i.size := by simp; omega
    have := run_loadCells_list (P := P) w ⟨b, o' + off, none⟩ ((vs.drop off).take i.size) (fun j v hv => by
      rw [Addr.add_lit, Nat.add_assoc]
      rw [List.getElem?_take] at hv
      split at hv
      · rw [List.getElem?_drop] at hv; exact hat _ _ hv
      · cases hv)
    rw [hlen] at this
    simp [Instr.loadAt, Instr.sureAddr, loadVar, run_isAgg hu, ha, run_sizeOf hi, this]
  · intro u ha hv
    have := hat _ _ hv
    simp [Instr.loadAt, Instr.sureAddr, loadVar, run_isAgg hu, ha, load, Sem.run, this]

theorem run_part {P : Program} {w : World} {t : TypeId} {d : TypeDesc} {off : Nat} {vs : List Value} (hu : P.underlying t = some d) :
    (∀ i, aggB d = true → P.info? t = some i → off + i.size ≤ vs.length → (part t vs.toArray off).run P w = .ok (.agg ((vs.drop off).take i.size).toArray) w) ∧
    (∀ u, aggB d = false → vs[off]? = some u → (part t vs.toArray off).run P w = .ok u w) := by
  constructor
  · intro i ha hi hl
    simp [part, run_isAgg hu, ha, run_sizeOf hi, List.extract_eq_take_drop]
  · intro u ha hv
    simp [part, run_isAgg hu, ha, hv]

theorem good_mv {x s} (ho : o.op = .move x ∨ o.op = .assign x) (h : S.opd x = some s) : Good o S E [x] s := good_same fun B a w H h1 h2 h3 => by
  refine ⟨a.eval x, ?_, h3.get (by simp) h⟩
  rcases ho with ho | ho <;> simp [execOp, ho]

theorem good_ld {t x d s cs off ag k} (ho : o.op = .load t x) (hu : Try.prog.underlying t = some d) (hag : (aggB d = true ∧ ∃ i, Try.prog.info? t = some i ∧ ag = some i.size) ∨ (aggB d = false ∧ ag = none))
    (h : S.opd x = some s) (ha : S.at s = some (cs, off)) (hk : cut cs off ag k) : ∃ r, k r ∧ Good o S E [x] r := by
  have : ∃ r, k r ∧ match ag with | some n => off + n ≤ cs.length ∧ r = .agg ((cs.drop off).take n) | none => cs[off]? = some r := by
    unfold cut at hk
    cases ag with
    | some n => exact ⟨_, hk.2, hk.1, rfl⟩
    | none => obtain ⟨x, hx, hk⟩ := oB_elim hk; exact ⟨x, hk, hx⟩
  obtain ⟨r, hr, hm⟩ := this
  refine ⟨r, hr, good_same fun B a w H h1 h2 h3 => ?_⟩
  obtain ⟨b, o', vs, hv, hR, h1c, hat⟩ := at_rep h2 h1 (h3.get (by simp) h) ha
  obtain ⟨l1, l2⟩ := run_load_at (P := Try.prog) (off := off) hu hat
  rcases hag with ⟨hd, i, hi, rfl⟩ | ⟨hd, rfl⟩
  · obtain ⟨hl, rfl⟩ := hm
    refine ⟨_, by simp [execOp, ho, hv, l1 i hd hi (by rw [← hR.length]; exact hl)], .agg ((hR.drop off).take _) ?_⟩
    rw [List.all_eq_true] at h1c ⊢
    intro x hx
    exact h1c x (List.mem_of_mem_drop (List.mem_of_mem_take hx))
  · obtain ⟨u, hu', hru⟩ := hR.get hm
    exact ⟨u, by simp [execOp, ho, hv, l2 u hd hu'], hru⟩

theorem good_fa {t x j fs f i s s'} (ho : o.op = .fieldAddr t x j) (hu : Try.prog.underlying t = some (.struct fs)) (hf : fs[j]? = some f) (hi : Try.prog.info? f.type = some i) (hz : i.size ≠ 0)
    (h : S.opd x = some s) (hs : (∃ i idx o, s = .ptr i idx o ∧ s' = .ptr i idx (o + f.offset)) ∨ (∃ e o, s = .fp e o ∧ s' = .fp e (o + f.offset))) : Good o S E [x] s' := good_same fun B a w H h1 h2 h3 => by
  have hr := h3.get (by simp) h
  have hrun : ∀ b o', a.eval x = .pointer (some ⟨b, o', none⟩) → (execOp a.eval o).run Try.prog w = .ok (.value (.pointer (some ⟨b, o' + f.offset, none⟩))) w := fun b o' e => by
    simp [execOp, ho, e, Instr.fieldAt, run_underlying hu, hf, Instr.sureAddr, fieldPlace, run_sizeOf hi, hz, Addr.add_lit]
  rcases hs with ⟨i', idx, o', rfl, rfl⟩ | ⟨e, o', rfl, rfl⟩
  · generalize hq : a.eval x = q at hr
    cases hr with
    | ptr h => exact ⟨_, hrun _ _ hq, by rw [Nat.add_assoc]; exact .ptr h⟩
  · generalize hq : a.eval x = q at hr
    cases hr with
    | fp b1 b2 b3 => exact ⟨_, hrun _ _ hq, by rw [Nat.add_assoc]; exact .fp b1 b2 b3⟩

theorem good_fld {t x j fs f d cs ag k} (ho : o.op = .field t x j) (hu : Try.prog.underlying t = some (.struct fs)) (hf : fs[j]? = some f) (hd : Try.prog.underlying f.type = some d)
    (hag : (aggB d = true ∧ ∃ i, Try.prog.info? f.type = some i ∧ ag = some i.size) ∨ (aggB d = false ∧ ag = none)) (h : S.opd x = some (.agg cs)) (hk : cut cs f.offset ag k) : ∃ r, k r ∧ Good o S E [x] r := by
  have : ∃ r, k r ∧ match ag with | some n => f.offset + n ≤ cs.length ∧ r = .agg ((cs.drop f.offset).take n) | none => cs[f.offset]? = some r := by
    unfold cut at hk
    cases ag with
    | some n => exact ⟨_, hk.2, hk.1, rfl⟩
    | none => obtain ⟨x, hx, hk⟩ := oB_elim hk; exact ⟨x, hk, hx⟩
  obtain ⟨r, hr, hm⟩ := this
  refine ⟨r, hr, good_same fun B a w H h1 h2 h3 => ?_⟩
  have hR := h3.get (by simp) h
  generalize hq : a.eval x = q at hR
  cases hR with
  | agg hR h1c =>
    rename_i vs
    obtain ⟨l1, l2⟩ := run_part (P := Try.prog) (w := w) (off := f.offset) (vs := vs) hd
    rcases hag with ⟨hd', i, hi, rfl⟩ | ⟨hd', rfl⟩
    · obtain ⟨hl, rfl⟩ := hm
      refine ⟨_, by simp [execOp, ho, hq, Instr.field, run_underlying hu, hf, asAgg, l1 i hd' hi (by rw [← hR.length]; exact hl)], .agg ((hR.drop f.offset).take _) ?_⟩
      rw [List.all_eq_true] at h1c ⊢
      intro x hx
      exact h1c x (List.mem_of_mem_drop (List.mem_of_mem_take hx))
    · obtain ⟨u, hu', hru⟩ := hR.get hm
      exact ⟨u, by simp [execOp, ho, hq, Instr.field, run_underlying hu, hf, asAgg, l2 u hd' hu'], hru⟩

theorem good_ixa1 {t x j e i kf n es el} (ho : o.op = .indexAddr t x j) (hu : Try.prog.underlying t = some (.slice e)) (hi : Try.prog.info? e = some i) (hpos : 0 < i.size) {full : Nat}
    (h : S.opd x = some (.sl i.size full es)) (hj : S.opd j = some (.v (.int kf n))) (h0 : 0 ≤ n) (he : es[n.toNat]? = some el) : Good o S E [x, j] (.fp el 0) := good_same fun B a w H h1 h2 h3 => by
  have hR := h3.get (by simp) h
  have hJ := h3.get (by simp) hj
  generalize hq : a.eval x = q at hR
  generalize hqj : a.eval j = qj at hJ
  cases hJ
  cases hR with
  | sl hE hn hc hm hf ha hat =>
    rename_i ao len cap xs
    have hlt := (List.getElem?_eq_some_iff.1 he).1
    obtain ⟨vs, c1, c2, c3, c4⟩ := hE.get he
    cases ao with
    | none => have := ha rfl; omega
    | some ad =>
      obtain ⟨u0, hu0⟩ : ∃ u, vs[0]? = some u := ⟨vs[0]'(by omega), by simp⟩
      obtain ⟨b, o', cells, t', fr, e1, e2, e3⟩ := hat _ _ (c4 0 u0 hu0)
      cases e1
      refine ⟨.pointer (some ⟨b, o' + n.toNat * i.size + 0, none⟩), ?_, .fp c2 c3 (fun j' u hu' => ?_)⟩
      · simp [execOp, ho, hq, hqj, Instr.indexAt, run_underlying hu, asIntOf, run_sizeOf hi, h0, show n < (len : Int) from by omega, Addr.add_lit]
      · obtain ⟨b', o'', cells', t'', fr', f1, f2, f3⟩ := hat _ _ (c4 j' u hu')
        cases f1
        exact ⟨cells', t'', fr', f2, by rw [Nat.add_assoc]; exact f3⟩
end
end Go.Proofs.Ytijblpkdfmkcfaa
namespace Go.Proofs.Ytijblpkdfmkcfaa
set_option linter.unusedSimpArgs false
set_option linter.unusedVariables false
open Go.RowKit Go.Maps

def ViewR (H : Hp) (r : Option Nat) (f : Int → Int) : Prop :=
  (∀ k, f k ≠ 0 → 0 ≤ k ∧ k < 4096) ∧ (∀ k, 0 ≤ f k ∧ f k ≤ 9223372036854775807) ∧
  match r with
  | none => ∀ k, f k = 0
  | some b => ∃ o, H b = some o ∧ MapOf 44 o 4096 (fun k => if f k = 0 then Option.none else some (.int .i64 (f k)))
theorem ViewR.le {H H' : Hp} {r : Option Nat} {f : Int → Int} (h : ViewR H r f) (g : Le H H') : ViewR H' r f := by
  obtain ⟨h1, h2, h3⟩ := h
  refine ⟨h1, h2, ?_⟩
  cases r with
  | none => exact h3
  | some b => obtain ⟨o, ho, hm⟩ := h3; exact ⟨o, g _ _ ho, hm⟩

end Go.Proofs.Ytijblpkdfmkcfaa
namespace Go.Proofs.Ytijblpkdfmkcfaa
set_option linter.unusedSimpArgs false
set_option linter.unusedVariables false
open Go.RowKit Go.Maps

section
variable {o : Oper} {S : St} {E : Env}

theorem good_ixa2 {t x j e i kf n es ri et} (ho : o.op = .indexAddr t x j) (hu : Try.prog.underlying t = some (.slice e)) (hi : Try.prog.info? e = some i)
    (h : S.opd x = some (.own ri)) (hg : getA S.O ri = some (.row et i.size es)) (hj : S.opd j = some (.v (.int kf n))) (h0 : 0 ≤ n) (he : n.toNat < es.length) : Good o S E [x, j] (.ptr ri n.toNat 0) := good_same fun B a w H h1 h2 h3 => by
  have hR := h3.get (by simp) h
  have hJ := h3.get (by simp) hj
  generalize hq : a.eval x = q at hR
  generalize hqj : a.eval j = qj at hJ
  cases hJ
  cases hR with
  | own hE _ =>
    obtain ⟨u, ob, xs, g1, _, g2, g3⟩ := h2 _ _ hg
    rw [hE] at g1; cases g1
    rcases g3 with ⟨rfl, _⟩ | ⟨g, cap, cur, rfl, rfl, g4⟩
    · simp at he
    · refine ⟨.pointer (some ⟨g, n.toNat * i.size + 0, none⟩), ?_, .ptr hE⟩
      simp [execOp, ho, hq, hqj, Instr.indexAt, run_underlying hu, asIntOf, run_sizeOf hi, h0, show n < (es.length : Int) from by omega, Addr.add_lit]

theorem good_ixa3 {t x j e i kf n cs ri et} (ho : o.op = .indexAddr t x j) (hu : Try.prog.underlying t = some (.slice e)) (hi : Try.prog.info? e = some i) (hsz : i.size = 1)
    (h : S.opd x = some (.own ri)) (hg : getA S.O ri = some (.obx et cs)) (hj : S.opd j = some (.v (.int kf n))) (h0 : 0 ≤ n) (he : n.toNat < cs.length) : Good o S E [x, j] (.ptr ri n.toNat 0) := good_same fun B a w H h1 h2 h3 => by
  have hR := h3.get (by simp) h
  have hJ := h3.get (by simp) hj
  generalize hq : a.eval x = q at hR
  generalize hqj : a.eval j = qj at hJ
  cases hJ
  cases hR with
  | own hE _ =>
    obtain ⟨g, cap, cur, g1, g2, g3, g4, g5, g6, g7⟩ := h2 _ _ hg
    rw [hE] at g1; cases g1
    refine ⟨.pointer (some ⟨g, n.toNat * 1 + 0, none⟩), ?_, .ptr hE⟩
    simp [execOp, ho, hq, hqj, Instr.indexAt, run_underlying hu, asIntOf, run_sizeOf hi, h0, hsz, show n < (cs.length : Int) from by omega, Addr.add_lit]

theorem good_ixp {t x j e i kf n N s s'} (ho : o.op = .indexAddr t x j) (hu : Try.prog.underlying t = some (.array N e)) (hi : Try.prog.info? e = some i)
    (h : S.opd x = some s) (hj : S.opd j = some (.v (.int kf n))) (h0 : 0 ≤ n) (hn : n < N)
    (hs : (∃ i' idx o, s = .ptr i' idx o ∧ s' = .ptr i' idx (o + n.toNat * i.size)) ∨ (∃ e o, s = .fp e o ∧ s' = .fp e (o + n.toNat * i.size))) : Good o S E [x, j] s' := good_same fun B a w H h1 h2 h3 => by
  have hR := h3.get (by simp) h
  have hJ := h3.get (by simp) hj
  generalize hqj : a.eval j = qj at hJ
  cases hJ
  have hrun : ∀ b o', a.eval x = .pointer (some ⟨b, o', none⟩) → (execOp a.eval o).run Try.prog w = .ok (.value (.pointer (some ⟨b, o' + n.toNat * i.size, none⟩))) w := fun b o' e => by
    simp [execOp, ho, e, hqj, Instr.indexAt, run_underlying hu, asIntOf, Instr.sureAddr, run_sizeOf hi, h0, hn, Addr.add_lit]
  rcases hs with ⟨i', idx, o', rfl, rfl⟩ | ⟨e, o', rfl, rfl⟩
  · generalize hq : a.eval x = q at hR
    cases hR with
    | ptr h => exact ⟨_, hrun _ _ hq, by rw [Nat.add_assoc]; exact .ptr h⟩
  · generalize hq : a.eval x = q at hR
    cases hR with
    | fp b1 b2 b3 => exact ⟨_, hrun _ _ hq, by rw [Nat.add_assoc]; exact .fp b1 b2 b3⟩

theorem good_len {t x e s n} (ho : o.op = .call ⟨.builtin .len, #[x], #[t]⟩) (hu : Try.prog.underlying t = some (.slice e)) (h : S.opd x = some s)
    (hs : (∃ k full es, s = .sl k full es ∧ n = es.length) ∨ (∃ i et k es, s = .own i ∧ getA S.O i = some (.row et k es) ∧ n = es.length) ∨ (∃ i et cs, s = .own i ∧ getA S.O i = some (.obx et cs) ∧ n = cs.length)) : Good o S E [x] (.v (.int .i64 n)) := good_same fun B a w H h1 h2 h3 => by
  have hR := h3.get (by simp) h
  generalize hq : a.eval x = q at hR
  have hrun : ∀ ao cap, q = .slice ao n cap → (execOp a.eval o).run Try.prog w = .ok (.value (.int .i64 n)) w := fun ao cap e => by
    simp [execOp, ho, resolve, hq, e, invoke, builtin, Builtin.len_, run_underlying hu, goInt]
  refine ⟨.int .i64 n, ?_, .v rfl⟩
  rcases hs with ⟨k, full, es, rfl, rfl⟩ | ⟨i, et, k, es, rfl, hg, rfl⟩ | ⟨i, et, cs, rfl, hg, rfl⟩
  · cases hR with
    | sl hE hn hc hm hf ha hat => exact hrun _ _ (by rw [hn])
  · cases hR with
    | own hE _ =>
      obtain ⟨u, ob, xs, g1, _, g2, g3⟩ := h2 _ _ hg
      rw [hE] at g1; cases g1
      rcases g3 with ⟨rfl, _, ad, rfl⟩ | ⟨g, cap, cur, rfl, rfl, g4⟩
      · exact hrun _ _ rfl
      · exact hrun _ _ rfl
  · cases hR with
    | own hE _ =>
      obtain ⟨g, cap, cur, g1, _⟩ := h2 _ _ hg
      rw [hE] at g1; cases g1
      exact hrun _ _ rfl

theorem zsh_rep (H : Hp) (E : Env) (z : ZSh) : Rep H E z.sh z.val := by
  cases z with
  | sl k => exact .sl .nil rfl (Nat.le_refl _) (Nat.zero_le _) ⟨fun _ => rfl, fun _ _ => rfl⟩ (fun _ => rfl) (fun j u h => by simp at h)
  | mp kt => exact .mpn (fun _ => rfl)
  | _ => exact .v rfl
theorem zsh_one (z : ZSh) : z.sh.one = true := by cases z <;> rfl
theorem zs_rep (H : Hp) (E : Env) : ∀ (zs : List ZSh), RepL H E (zs.map ZSh.sh) (zs.map ZSh.val)
  | [] => .nil
  | z :: zs => .cons (zsh_rep H E z) (zs_rep H E zs)
theorem zs_one (zs : List ZSh) : (zs.map ZSh.sh).all Sh.one = true := by simp [zsh_one]
theorem zag_rep (H : Hp) (E : Env) (z : ZAg) : Rep H E z.sh z.val := by
  cases z with
  | one z => exact zsh_rep H E z
  | ag zs => exact .agg (zs_rep H E zs) (zs_one zs)

theorem good_lkp {t kt e i m key ok f n} {z : ZAg} (ho : o.op = .lookup t m key ok) (hu : Try.prog.underlying t = some (.map kt e)) (hk : Try.prog.underlying kt = some (.int .i64)) (hi : Try.prog.info? e = some i) (hz : i.zero = some z.val)
    (h : S.opd m = some (.mp kt f)) (hj : S.opd key = some (.v (.int .i64 n))) (n1 : -9223372036854775808 ≤ n) (n2 : n ≤ 9223372036854775807) :
    Good o S E [m, key] (if ok then .tup [(f n).getD z.sh, .v (.bool (f n).isSome)] else (f n).getD z.sh) := good_same fun B a w H h1 h2 h3 => by
  have hR := h3.get (by simp) h
  have hJ := h3.get (by simp) hj
  generalize hq : a.eval m = q at hR
  generalize hqj : a.eval key = qj at hJ
  cases hJ
  have hzr := run_zero hi hz
  have K := int_keyed (P := Try.prog) hk
  have hkey := keyOf_int_mk (P := Try.prog) hk (wf64 n1 n2)
  cases hR with
  | mpn hf =>
    have r1 := Maps.look_nil (P := Try.prog) (w := w) false K hu (hzr w) hkey
    have r2 := Maps.look_nil (P := Try.prog) (w := w) true K hu (hzr w) hkey
    cases ok with
    | false => exact ⟨z.val, by simp [execOp, ho, hq, hqj, r1], by simpa [hf] using zag_rep H E z⟩
    | true => exact ⟨.tuple #[z.val, .bool false], by simp [execOp, ho, hq, hqj, r2], by simpa [hf] using Rep.tup (.cons (zag_rep H E z) (.cons (.v rfl) .nil))⟩
  | mp hb hm hN hnone hsome =>
    rename_i b oo N F
    obtain ⟨r1, r2⟩ := hm.lookup (h1 _ _ hb) hk hu (hzr w) n1 n2
    have hv : Rep H E ((f n).getD z.sh) ((F n).getD z.val) := by
      cases hf : f n with
      | none => rw [(hnone n).1 hf]; exact zag_rep H E z
      | some s =>
        cases hF : F n with
        | none => rw [(hnone n).2 hF] at hf; cases hf
        | some u => exact (hsome n s u hf hF).mono (fun _ _ h => h) (E0_le _)
    have hb' : (F n).isSome = (f n).isSome := by
      have := hnone n
      cases hf : f n <;> cases hF : F n <;> simp_all
    cases ok with
    | false => exact ⟨_, by simp [execOp, ho, hq, hqj, r1], hv⟩
    | true => exact ⟨_, by simp [execOp, ho, hq, hqj, r2]; rfl, by simpa [hb'] using Rep.tup (.cons hv (.cons (.v rfl) .nil))⟩

theorem good_lkp2 {t kt e i m key ok f n ri M} {z : ZAg} (ho : o.op = .lookup t m key ok) (hu : Try.prog.underlying t = some (.map kt e)) (hk : Try.prog.underlying kt = some (.int .i64)) (hi : Try.prog.info? e = some i) (hz : i.zero = some z.val)
    (h : S.opd m = some (.own ri)) (hg : getA S.O ri = some (.map kt M f)) (hj : S.opd key = some (.v (.int .i64 n))) (n1 : -9223372036854775808 ≤ n) (n2 : n ≤ 9223372036854775807) :
    Good o S E [m, key] (if ok then .tup [(f n).getD z.sh, .v (.bool (f n).isSome)] else (f n).getD z.sh) := good_same fun B a w H h1 h2 h3 => by
  have hR := h3.get (by simp) h
  have hJ := h3.get (by simp) hj
  generalize hq : a.eval m = q at hR
  generalize hqj : a.eval key = qj at hJ
  cases hJ
  have hzr := run_zero hi hz
  obtain ⟨b, oo, F, e1, e2, e3, e4, e5, e6, hnone, hsome⟩ := h2 _ _ hg
  cases hR with
  | own hE _ =>
    rw [hE] at e1; cases e1
    obtain ⟨r1, r2⟩ := e5.lookup e4 hk hu (hzr w) n1 n2
    have hv : Rep H E ((f n).getD z.sh) ((F n).getD z.val) := by
      cases hf : f n with
      | none => rw [(hnone n).1 hf]; exact zag_rep H E z
      | some s =>
        cases hF : F n with
        | none => rw [(hnone n).2 hF] at hf; cases hf
        | some u => exact (hsome n s u hf hF).mono (fun _ _ h => h) (E0_le _)
    have hb' : (F n).isSome = (f n).isSome := by
      have := hnone n
      cases hf : f n <;> cases hF : F n <;> simp_all
    cases ok with
    | false => exact ⟨_, by simp [execOp, ho, hq, hqj, r1], hv⟩
    | true => exact ⟨_, by simp [execOp, ho, hq, hqj, r2]; rfl, by simpa [hb'] using Rep.tup (.cons hv (.cons (.v rfl) .nil))⟩

theorem good_lkp3 {t kt e i m key ok f n ri M q} {z : ZAg} (ho : o.op = .lookup t m key ok) (hu : Try.prog.underlying t = some (.map kt e)) (hk : Try.prog.underlying kt = some (.int .i64)) (hi : Try.prog.info? e = some i) (hz : i.zero = some z.val)
    (h : S.opd m = some (.own ri)) (hg : getA S.O ri = some (.mpr q kt M f)) (hj : S.opd key = some (.v (.int .i64 n))) (n1 : -9223372036854775808 ≤ n) (n2 : n ≤ 9223372036854775807) :
    Good o S E [m, key] (if ok then .tup [(f n).getD z.sh, .v (.bool (f n).isSome)] else (f n).getD z.sh) := good_same fun B a w H h1 h2 h3 => by
  have hR := h3.get (by simp) h
  have hJ := h3.get (by simp) hj
  generalize hq : a.eval m = q at hR
  generalize hqj : a.eval key = qj at hJ
  cases hJ
  have hzr := run_zero hi hz
  obtain ⟨es, F, e1, e2, e3, e4, e4', e5, e6, hnone, hsome⟩ := h2 _ _ hg
  cases hR with
  | own hE _ =>
    rw [hE] at e1; cases e1
    obtain ⟨r1, r2⟩ := e5.lookup e4 hk hu (hzr w) n1 n2
    have hv : Rep H E ((f n).getD z.sh) ((F n).getD z.val) := by
      cases hf : f n with
      | none => rw [(hnone n).1 hf]; exact zag_rep H E z
      | some s =>
        cases hF : F n with
        | none => rw [(hnone n).2 hF] at hf; cases hf
        | some u => exact (hsome n s u hf hF).mono (fun _ _ h => h) (E0_le _)
    have hb' : (F n).isSome = (f n).isSome := by
      have := hnone n
      cases hf : f n <;> cases hF : F n <;> simp_all
    cases ok with
    | false => exact ⟨_, by simp [execOp, ho, hq, hqj, r1], hv⟩
    | true => exact ⟨_, by simp [execOp, ho, hq, hqj, r2]; rfl, by simpa [hb'] using Rep.tup (.cons hv (.cons (.v rfl) .nil))⟩

theorem good_ext {x i cs s} (ho : o.op = .extract x i) (h : S.opd x = some (.tup cs)) (hi : cs[i]? = some s) : Good o S E [x] s := good_same fun B a w H h1 h2 h3 => by
  have hR := h3.get (by simp) h
  generalize hq : a.eval x = q at hR
  cases hR with
  | tup hL =>
    obtain ⟨u, hu, hr⟩ := hL.get hi
    exact ⟨u, by simp [execOp, ho, hq, Instr.extract, hu], hr⟩

theorem run_intBin {op : BinOp} {t : TypeId} {k : IntKind} {x y : Int} {r : Value} (x1 y1 : Operand) (h : intBin op k x y = some r) (w : World) :
    ((do eqGuard op t x1 y1 (.int k x) (.int k y); binOp op t (.int k x) (.int k y) : Sem Value)).run Try.prog w = .ok r w := by
  cases op <;> simp [intBin] at h <;> (first | (obtain ⟨h0, rfl⟩ := h) | subst h) <;>
    simp_all [eqGuard, binOp, Op.intArith, Op.intDiv, Op.intCmp]

theorem good_bin {op t x y t2 k p q r} (ho : o.op = .binOp op t x y t2) (hx : S.opd x = some (.v (.int k p))) (hy : S.opd y = some (.v (.int k q))) (hr : intBin op k p q = some r) : Good o S E [x, y] (.v r) := good_same fun B a w H h1 h2 h3 => by
  have hR := h3.get (by simp) hx
  have hJ := h3.get (by simp) hy
  generalize hqx : a.eval x = qx at hR
  generalize hqy : a.eval y = qy at hJ
  cases hR; cases hJ
  refine ⟨r, ?_, .v ?_⟩
  · have := run_intBin (t := t) x y hr w
    simp only [execOp, ho, hqx, hqy, Sem.run_bind] at this ⊢
    rw [this]; rfl
  · cases op <;> simp [intBin] at hr <;> (first | (obtain ⟨h0, rfl⟩ := hr) | subst hr) <;> rfl

theorem good_eqv {t x y t2 sx sy b} {neg : Bool} (ho : o.op = .binOp (if neg then .neq else .eql) t x y t2) (hx : S.opd x = some sx) (hy : S.opd y = some sy) (hb : EqSh t sx sy b) : Good o S E [x, y] (.v (.bool (if neg then !b else b))) := good_same fun B a w H h1 h2 h3 => by
  obtain ⟨r1, r2⟩ := hb H E w _ _ x y h1 (h3.get (by simp) hx) (h3.get (by simp) hy)
  refine ⟨.bool (if neg then !b else b), ?_, .v rfl⟩
  cases neg
  · simp only [execOp, ho, Sem.run_bind] at r1 ⊢
    simp only [Bool.false_eq_true, if_false] at r1 ⊢
    rw [r1]; rfl
  · simp only [execOp, ho, Sem.run_bind] at r2 ⊢
    simp only [if_true] at r2 ⊢
    rw [r2]; rfl

theorem good_not {t x b} (ho : o.op = .unOp .not t x) (hx : S.opd x = some (.v (.bool b))) : Good o S E [x] (.v (.bool !b)) := good_same fun B a w H h1 h2 h3 => by
  have hR := h3.get (by simp) hx
  generalize hqx : a.eval x = qx at hR
  cases hR
  exact ⟨.bool !b, by simp [execOp, ho, hqx, Op.unary], .v rfl⟩

theorem good_cnv {src dst x d k kf n} (ho : o.op = .convert src dst x) (hs : Try.prog.underlying src = some d) (hd : Try.prog.underlying dst = some (.int k)) (hx : S.opd x = some (.v (.int kf n))) : Good o S E [x] (.v (.int k (k.wrap n))) := good_same fun B a w H h1 h2 h3 => by
  have hR := h3.get (by simp) hx
  generalize hqx : a.eval x = qx at hR
  cases hR
  exact ⟨.int k (k.wrap n), by simp [execOp, ho, hqx, convert, run_underlying hs, run_underlying hd, Conv.intToInt], .v rfl⟩

theorem callFunc_enter {f : FuncId} {fn : Func} (hf : Try.prog.funcs[f]? = some fn) (hb : fn.body.isSome = true) (hn : (fn.name == "runtime.NumGoroutine") = false) : Enters f := fun args w => by
  have h1 : fn.body ≠ none := by intro h; rw [h] at hb; cases hb
  have h2 : ¬ fn.name = "runtime.NumGoroutine" := by simpa using hn
  simp [callFunc, program, Sem.run, hf, h2, h1]

theorem map_arr (args : Array Operand) (f : Operand → Value) : (args.toList.map f).toArray = args.map f := by apply Array.ext'; simp

theorem good_call {f args tys l r} (ho : o.op = .call ⟨.value (.func f), args, tys⟩) (hE : Enters f) (hl : S.args args.toList = some l) (hr : Ok f l r) : Good o S E args.toList r := by
  intro B a w H h1 h2 h3
  have hA := args_rep h2 h3 hl
  have hc := hr w H _ h1 hA
  have e : (execOp a.eval o).run Try.prog w = .ok (.enter f (args.toList.map a.eval).toArray) w := by
    have := hE (args.map a.eval) w
    rw [map_arr]
    simp [execOp, ho, resolve, Act.eval, Deferred.ofValue, invoke]
    exact this
  unfold Oper.wp
  rw [e, Oper.upon_enter]
  refine Calls.mono hc fun e' w' he => ?_
  obtain ⟨v, H', rfl, hg, hrr⟩ := he
  exact ⟨v, H', rfl, hg, hrr.mono (fun _ _ h => h) (E0_le _)⟩

theorem good_callv {x args tys l r f first cap} (ho : o.op = .call ⟨.value x, args, tys⟩) (hx : S.opd x = some (.fn (.func f) first cap)) (hE : Enters f) (hl : S.args args.toList = some l) (hr : Ok f (first ++ l ++ cap) r) : Good o S E (x :: args.toList) r := by
  intro B a w H h1 h2 h3
  have hA := args_rep h2 (fun x hx => h3 x (by simp [hx])) hl
  have hF := h3.get (by simp) hx
  generalize hq : a.eval x = q at hF
  cases hF with
  | fn f1 f2 =>
    rename_i vs us
    have hc := hr w H _ h1 ((f1.append hA).append f2)
    have e : (execOp a.eval o).run Try.prog w = .ok (.enter f ((vs ++ args.toList.map a.eval) ++ us).toArray) w := by
      have := hE ((vs ++ args.toList.map a.eval) ++ us).toArray w
      have e2 : ((vs ++ args.toList.map a.eval) ++ us).toArray = vs.toArray ++ args.map a.eval ++ us.toArray := by apply Array.ext'; simp
      rw [e2] at this ⊢
      simp only [execOp, ho, resolve, hq, Deferred.ofValue, invoke, Sem.run_bind, Sem.run_pure, Result.andThen_ok]
      exact this
    unfold Oper.wp
    rw [e, Oper.upon_enter]
    refine Calls.mono hc fun e' w' he => ?_
    obtain ⟨v, H', rfl, hg, hrr⟩ := he
    exact ⟨v, H', rfl, hg, hrr.mono (fun _ _ h => h) (E0_le _)⟩

theorem good_gen {op xs l r} (ho : o.op = op) (hl : S.args xs = some l) (hr : GenRel op xs l r) : Good o S E xs r := by
  intro B a w H h1 h2 h3
  have hA := args_rep h2 h3 hl
  refine Oper.wp_post ?_ (hr o a w H ho h1 hA)
  rintro a' w' ⟨v, H', e, hg, hrr⟩
  exact ⟨v, H', e, hg, hrr.mono (fun _ _ h => h) (E0_le _)⟩
theorem good_callm {x args tys l r f name t s first cap} (ho : o.op = .call ⟨.value x, args, tys⟩) (hx : S.opd x = some (.fn (.method name) (.ifc t s :: first) cap)) (hm : MethodIs t name f) (hE : Enters f) (hl : S.args args.toList = some l) (hr : Ok f (s :: (first ++ l)) r) : Good o S E (x :: args.toList) r := by
  intro B a w H h1 h2 h3
  have hA := args_rep h2 (fun x hx => h3 x (by simp [hx])) hl
  have hF := h3.get (by simp) hx
  generalize hq : a.eval x = q at hF
  cases hF with
  | fn f1 f2 =>
    rename_i vs us
    cases f1 with
    | cons hi f1 =>
      rename_i u vs
      cases hi with
      | ifc hi =>
        rename_i u
        have hc := hr w H _ h1 (.cons hi (f1.append hA))
        have e : (execOp a.eval o).run Try.prog w = .ok (.enter f (u :: (vs ++ args.toList.map a.eval)).toArray) w := by
          have := hE (u :: (vs ++ args.toList.map a.eval)).toArray w
          have hm' := hm u w
          have e2 : (u :: (vs ++ args.toList.map a.eval)).toArray = #[u] ++ (vs.toArray ++ args.map a.eval) := by apply Array.ext'; simp
          have e3 : (((Value.iface t u :: vs).toArray ++ args.map a.eval).extract 1 ((Value.iface t u :: vs).toArray ++ args.map a.eval).size) = vs.toArray ++ args.map a.eval := by
            apply Array.ext'; simp
            rw [List.take_of_length_le (by omega), List.take_of_length_le (by simp)]
          have e4 : ((Value.iface t u :: vs).toArray ++ args.map a.eval)[0]? = some (Value.iface t u) := by rw [Array.getElem?_append_left (by simp)]; rfl
          rw [e2] at this ⊢
          simp only [execOp, ho, resolve, hq, Deferred.ofValue, invoke, Sem.run_bind, Sem.run_pure, Result.andThen_ok, e4, callMethod, e3, run_program, hm']
          exact this
        unfold Oper.wp
        rw [e, Oper.upon_enter]
        refine Calls.mono hc fun e' w' he => ?_
        obtain ⟨v, H', rfl, hg, hrr⟩ := he
        exact ⟨v, H', rfl, hg, hrr.mono (fun _ _ h => h) (E0_le _)⟩
theorem good_mkf {f first cap l1 l2} (ho : o.op = .makeFunc f first cap) (h1' : S.args first.toList = some l1) (h2' : S.args cap.toList = some l2) : Good o S E (first.toList ++ cap.toList) (.fn f l1 l2) := good_same fun B a w H h1 h2 h3 => by
  have A := args_rep h2 (fun x hx => h3 x (by simp [hx])) h1'
  have C := args_rep h2 (fun x hx => h3 x (List.mem_append.2 (.inr hx))) h2'
  have R := Rep.fn (E := E) (f := f) A C
  rw [map_arr, map_arr] at R
  exact ⟨_, by simp [execOp, ho, Instr.makeFunc], R⟩

theorem good_mki {t x d s} (ho : o.op = .makeInterface t x) (hd : Try.prog.underlying t = some d) (hn : ∀ ms, d ≠ .interface ms) (hx : (S.opd x).bind S.arg = some s) : Good o S E [x] (.ifc t s) := good_same fun B a w H h1 h2 h3 => by
  obtain ⟨y, hy, hs⟩ := Option.bind_eq_some_iff.1 hx
  have hR := arg_rep h2 (h3.get (by simp) hy) hs
  refine ⟨.iface t (a.eval x), ?_, .ifc hR⟩
  cases d <;> simp [execOp, ho, Instr.makeInterface, run_underlying hd] <;> exact absurd rfl (hn _)

theorem good_pick {c x y bb s} (ho : o.op = .pick c x y) (hc : S.opd c = some (.v (.bool bb))) (h1' : bb = true → S.opd x = some s) (h2' : bb = false → S.opd y = some s) : Good o S E [c, x, y] s := good_same fun B a w H h1 h2 h3 => by
  have hR := h3.get (by simp) hc
  generalize hq : a.eval c = q at hR
  cases hR
  cases bb
  · exact ⟨a.eval y, by simp [execOp, ho, hq, asBool], h3.get (by simp) (h2' rfl)⟩
  · exact ⟨a.eval x, by simp [execOp, ho, hq, asBool], h3.get (by simp) (h1' rfl)⟩

theorem good_mm {x y tys k p q} {mx : Bool} (ho : o.op = .call ⟨.builtin (if mx then .max else .min), #[x, y], tys⟩) (hx : S.opd x = some (.v (.int k p))) (hy : S.opd y = some (.v (.int k q))) : Good o S E [x, y] (.v (.int k (if mx then max p q else min p q))) := good_same fun B a w H h1 h2 h3 => by
  have hR := h3.get (by simp) hx
  have hJ := h3.get (by simp) hy
  generalize hqx : a.eval x = qx at hR
  generalize hqy : a.eval y = qy at hJ
  cases hR; cases hJ
  refine ⟨.int k (if mx then max p q else min p q), ?_, .v rfl⟩
  cases mx
  · simp [execOp, ho, resolve, hqx, hqy, invoke, builtin, Builtin.min_, Builtin.min2]
    split <;> omega
  · simp [execOp, ho, resolve, hqx, hqy, invoke, builtin, Builtin.max_, Builtin.max2]
    split <;> omega

theorem good_nck {x s} (ho : o.op = .nilCheck x) (hx : S.opd x = some s) (hs : (∃ i idx o, s = .ptr i idx o) ∨ (∃ e o, s = .fp e o) ∨ (∃ f a b, s = .fn (.func f) a b) ∨ ∃ t y, s = .ifc t y) : Good o S E [x] s := good_same fun B a w H h1 h2 h3 => by
  have hR := h3.get (by simp) hx
  refine ⟨a.eval x, ?_, hR⟩
  generalize hq : a.eval x = q at hR
  rcases hs with ⟨i, idx, o', rfl⟩ | ⟨e, o', rfl⟩ | ⟨f, b, c, rfl⟩ | ⟨t, y, rfl⟩ <;> cases hR <;> simp [execOp, ho, hq]
end
end Go.Proofs.Ytijblpkdfmkcfaa
namespace Go.Proofs.Ytijblpkdfmkcfaa
set_option linter.unusedSimpArgs false
set_option linter.unusedVariables false
open Go.RowKit Go.Maps

theorem fold_set : ∀ (l : List Value) (j0 off : Nat) (cs : Array Value), off + j0 + l.length ≤ cs.size →
    ((l.zipIdx j0).foldl (fun (cs : Array Value) (p : Value × Nat) => cs.setIfInBounds (off + p.2) p.1) cs).toList = cs.toList.take (off + j0) ++ l ++ cs.toList.drop (off + j0 + l.length)
  | [], j0, off, cs, h => by simp
  | v :: l, j0, off, cs, h => by
    simp only [List.zipIdx_cons, List.foldl_cons]
    simp only [List.length_cons] at h
    rw [fold_set l (j0 + 1) off _ (by simp; omega)]
    have e1 : ((cs.setIfInBounds (off + j0) v).toList.take (off + (j0 + 1))) = cs.toList.take (off + j0) ++ [v] := by
      simp only [Array.toList_setIfInBounds]
      rw [show off + (j0 + 1) = (off + j0) + 1 by omega, List.take_add_one, List.getElem?_set_self (by simp; omega), List.take_set_of_le (by omega)]; rfl
    have e2 : ((cs.setIfInBounds (off + j0) v).toList.drop (off + (j0 + 1) + l.length)) = cs.toList.drop (off + j0 + (v :: l).length) := by
      simp only [Array.toList_setIfInBounds]
      rw [List.drop_set_of_lt (by omega)]
      congr 1; simp; omega
    rw [e1, e2]; simp

theorem fill_cons {pl : Nat → Option (Nat × Nat)} {zc : Array Value} {i off : Nat} {v : Value} {rest : List (Nat × Value)} (hp : pl i = some (off, v.cells.size)) (hl : off + v.cells.size ≤ zc.size) :
    ∃ zc' : Array Value, Instr.fill pl zc ((i, v) :: rest) = Instr.fill pl zc' rest ∧ zc'.toList = zc.toList.take off ++ v.cells.toList ++ zc.toList.drop (off + v.cells.size) := by
  refine ⟨v.cells.zipIdx.foldl (fun cs (c, j) => cs.setIfInBounds (off + j) c) zc, ?_, ?_⟩
  · have h1 : ¬ (zc.size < off + v.cells.size) := by omega
    simp [Instr.fill, hp, h1]
  · have := fold_set v.cells.toList 0 off zc (by simpa using hl)
    rw [← Array.foldl_toList]
    simpa using this

section
variable {o : Oper} {S : St} {E : Env} {H : Hp} {B : Nat} {w : World}

theorem all_fill {p : Sh → Bool} {cs l : List Sh} {a b : Nat} (h : cs.all p = true) (h' : l.all p = true) : (cs.take a ++ l ++ cs.drop b).all p = true := by
  rw [List.all_eq_true] at *
  intro x hx
  rcases List.mem_append.1 hx with hx | hx
  · rcases List.mem_append.1 hx with hx | hx
    · exact h x (List.mem_of_mem_take hx)
    · exact h' x hx
  · exact h x (List.mem_of_mem_drop hx)

theorem fill_rep {pl : Nat → Option (Nat × Nat)} {a : Act} : ∀ (parts : List (Nat × Operand)) (ps : List (Nat × Nat × Operand)) (cs cs' : List Sh) (zc : Array Value), parts.mapM (fun p => (pl p.1).map fun q => (q.1, q.2, p.2)) = some ps →
    RepL H E cs zc.toList → cs.all Sh.one = true → fillS S cs ps = some cs' → OpdOk S E H a (ps.map (·.2.2)) → ∃ out, Instr.fill pl zc (parts.map fun p => (p.1, a.eval p.2)) = some out ∧ RepL H E cs' out.toList ∧ cs'.all Sh.one = true
  | [], ps, cs, cs', zc, hp, hr, h1, hf, _ => by
    simp at hp; subst hp
    simp only [fillS, Option.some.injEq] at hf; subst hf
    exact ⟨zc, rfl, hr, h1⟩
  | (i, x) :: parts, ps, cs, cs', zc, hp, hr, h1, hf, ho => by
    simp only [List.mapM_cons, Option.bind_eq_bind, Option.pure_def] at hp
    cases hpl : pl i with
    | none => simp [hpl] at hp
    | some q =>
      cases hrest : parts.mapM (fun p => (pl p.1).map fun q => (q.1, q.2, p.2)) with
      | none => rw [hrest] at hp; simp [hpl] at hp
      | some rest =>
        rw [hrest] at hp
        simp [hpl] at hp
        subst hp
        obtain ⟨off, sz⟩ := q
        simp only [fillS, Option.bind_eq_some_iff] at hf
        obtain ⟨s, hs, hf⟩ := hf
        split at hf
        · rename_i hc
          obtain ⟨c1, c2, c3⟩ := hc
          have hR := ho.get (y := s) (x := x) (by simp) hs
          have hC := cells_rep hR c3
          have hlen := hC.length
          have hzl := hr.length
          simp only [Array.length_toList] at hlen hzl
          obtain ⟨zc', f1, f2⟩ := fill_cons (pl := pl) (zc := zc) (i := i) (off := off) (v := a.eval x) (rest := parts.map fun p => (p.1, a.eval p.2)) (by rw [hpl, ← c1, hlen]) (by omega)
          have hR' : RepL H E (cs.take off ++ s.cells ++ cs.drop (off + sz)) zc'.toList := by
            rw [f2, ← hlen, c1]
            exact ((hr.take off).append hC).append (hr.drop _)
          obtain ⟨out, g1, g2, g3⟩ := fill_rep parts rest _ cs' zc' hrest hR' (all_fill h1 c3) hf (fun y hy => ho y (by simp at hy ⊢; exact .inr hy))
          exact ⟨out, by rw [List.map_cons, f1]; exact g1, g2, g3⟩
        · cases hf

theorem good_bld {t parts ps it z cs} {zs : List ZSh} {pl : Nat → Option (Nat × Nat)} (ho : o.op = .build t parts) (hit : Try.prog.info? t = some it) (hz : it.zero = some z) (hzs : z.cells.toList = zs.map ZSh.val)
    (hb : ∀ vals, Try.prog.built t vals = Instr.fill pl z.cells vals) (hp : parts.toList.mapM (fun p => (pl p.1).map fun q => (q.1, q.2, p.2)) = some ps) (hf : fillS S (zs.map ZSh.sh) ps = some cs) : Good o S E (ps.map (·.2.2)) (.agg cs) := good_same fun B a w H h1 h2 h3 => by
  obtain ⟨out, g1, g2, g3⟩ := fill_rep (H := H) (E := E) (a := a) parts.toList ps _ cs z.cells hp (by rw [hzs]; exact zs_rep H E zs) (zs_one zs) hf h3
  refine ⟨.agg out, ?_, by have := Rep.agg g2 g3; simpa using this⟩
  have := run_build (P := Try.prog) w t (parts.map fun (i, x) => (i, a.eval x)) out (by rw [hb]; simpa using g1)
  simp only [execOp, ho, Sem.run_bind, this, Result.andThen_ok]; rfl

theorem elems_rep (hO : Objs B S E w H) {a : Act} {k : Nat} : ∀ {xs : List Operand} {es}, OpdOk S E H a xs → S.elems k xs = some es →
    RepEs H k es ((xs.map a.eval).flatMap fun v => v.cells.toList) ∧ es.length = xs.length ∧ ∀ v ∈ xs.map a.eval, v.cells.size = k
  | [], _, _, h => by simp only [St.elems, Option.some.injEq] at h; subst h; exact ⟨.nil, rfl, by simp⟩
  | x :: l, _, ho, ha => by
    simp only [St.elems, Option.bind_eq_some_iff] at ha
    obtain ⟨y, ⟨z, hz, hy⟩, ha⟩ := ha
    split at ha
    · rename_i hc
      obtain ⟨c1, c2, c3⟩ := hc
      simp only [Option.map_eq_some_iff] at ha
      obtain ⟨l', hl, rfl⟩ := ha
      have hR := arg_rep hO (ho.get (by simp) hz) hy
      have hC := cells_rep hR c2
      have hlen := hC.length
      obtain ⟨i1, i2, i3⟩ := elems_rep hO (fun x hx => ho x (by simp [hx])) hl
      refine ⟨.cons hC (by rw [← hlen]; exact c1) c2 i1, by simp [i2], fun v hv => ?_⟩
      rcases List.mem_cons.1 hv with rfl | hv
      · simp at hlen; omega
      · exact i3 v hv
    · cases ha

theorem fill_seq {k : Nat} : ∀ (vals : List Value) (j : Nat) (zc : Array Value), (∀ v ∈ vals, v.cells.size = k) → zc.size = (j + vals.length) * k →
    ∃ out, Instr.fill (fun i => some (i * k, k)) zc (idxs j vals) = some out ∧ out.toList = zc.toList.take (j * k) ++ vals.flatMap fun v => v.cells.toList
  | [], j, zc, _, hz => ⟨zc, rfl, by simp at hz ⊢; rw [List.take_of_length_le (by simp [hz])]⟩
  | v :: vals, j, zc, hv, hz => by
    have hk := hv v (by simp)
    have hz' : zc.size = j * k + k + vals.length * k := by rw [hz]; simp [Nat.add_mul]; omega
    obtain ⟨zc', f1, f2⟩ := fill_cons (pl := fun i => some (i * k, k)) (zc := zc) (i := j) (off := j * k) (v := v) (rest := idxs (j + 1) vals) (by rw [hk]) (by omega)
    have hs : zc'.size = (j + 1 + vals.length) * k := by
      have := congrArg List.length f2
      simp [hk] at this
      rw [this, Nat.add_mul, Nat.add_mul]; omega
    obtain ⟨out, g1, g2⟩ := fill_seq vals (j + 1) zc' (fun u hu => hv u (by simp [hu])) hs
    refine ⟨out, by simp only [idxs]; rw [f1]; exact g1, ?_⟩
    rw [g2, f2]
    have : (j + 1) * k = j * k + k := by rw [Nat.add_mul]; omega
    rw [this, List.take_append_of_le_length (by simp [hk]; omega), List.take_of_length_le (by simp [hk]; omega)]
    simp

theorem idxs_map {α β : Type} (f : α → β) : ∀ (j : Nat) (l : List α), idxs j (l.map f) = (idxs j l).map fun p => (p.1, f p.2)
  | _, [] => rfl
  | j, x :: l => by simp [idxs, idxs_map f (j + 1) l]

/-- A new row that nobody writes from now on. -/
theorem rep_new {k : Nat} {es : List (List Sh)} {cells : Array Value} {e : TypeId} {n : Nat} {full : Nat} (hs : Sub H w) (h : RepEs H k es cells.toList) (hn : es.length = n) (hm : n ≤ maxLen) :
    Grow w H (w.alloc (.cells cells e)) (H.add w.heap.size (.cells cells e (0, 0))) ∧ Rep (H.add w.heap.size (.cells cells e (0, 0))) E (.sl k full es) (.slice (some ⟨w.heap.size, 0, none⟩) n n) := by
  refine ⟨((Grow.refl hs).alloc _).add (heap_alloc_new w _) (Nat.le_refl _), .sl (h.mono (Hp.add_le (hs.none (Nat.le_refl _)))) hn (Nat.le_refl _) hm ⟨fun _ => rfl, fun _ h => h⟩ (fun e => by cases e) (fun j u hu => ?_)⟩
  exact ⟨_, 0, _, _, _, rfl, Hp.add_at _ _ _, by simpa using hu⟩

theorem good_bsl {t e i z parts xs es} (ho : o.op = .buildSlice t xs.length parts) (hu : Try.prog.underlying t = some (.slice e)) (hi : Try.prog.info? e = some i) (hz : i.zero = some z) (hzs : z.cells.size = i.size) (hpos : 0 < i.size)
    (hp : parts.toList = idxs 0 xs) (hl : xs.length * i.size ≤ 16777216) (he : S.elems i.size xs = some es) : Good o S E xs (.sl i.size 0 es) := good_val fun B a w H h1 h2 h3 => by
  obtain ⟨r1, r2, r3⟩ := elems_rep h2 h3 he
  have h24 : ¬ (16777216 < xs.length * i.size) := by omega
  obtain ⟨zr, hzr⟩ : ∃ zr, zr = if xs.length * i.size = 0 then (#[] : Array Value) else z.cells := ⟨_, rfl⟩
  obtain ⟨out, g1, g2⟩ := fill_seq (k := i.size) (xs.map a.eval) 0 ((Array.range (xs.length * i.size)).map (zr[· % zr.size]!)) r3 (by simp)
  have hfill : Instr.fill (fun j => some (j * i.size, i.size)) ((Array.range (xs.length * i.size)).map (zr[· % zr.size]!)) (parts.map fun (i, x) => (i, a.eval x)).toList = some out := by
    rw [← g1, idxs_map]; simp [hp]
  have hE : RepEs H i.size es out.toList := by rw [g2]; simpa using r1
  have hlen : xs.length ≤ maxLen := by unfold maxLen; have := Nat.le_mul_of_pos_right xs.length hpos; omega
  obtain ⟨q1, q2⟩ := rep_new (E := E) (e := e) (full := 0) h1 hE r2 hlen
  refine ⟨.slice (some ⟨w.heap.size, 0, none⟩) xs.length xs.length, _, _, ?_, q1, q2⟩
  have h24' : ¬ (xs.length * i.size > 2 ^ 24) := by simpa using h24
  have hfill' : Instr.fill (fun j => some (j * i.size, i.size)) ((Array.range (xs.length * i.size)).map (zr[· % zr.size]!)) (parts.toList.map fun p => (p.1, a.eval p.2)) = some out := by simpa using hfill
  clear hfill g1
  by_cases h0 : xs.length * i.size = 0
  · rw [if_pos h0] at hzr
    subst hzr
    simp only [execOp, ho, Instr.buildSlice, Sem.run_bind, run_underlying hu, Result.andThen_ok, run_sizeOf hi, Sem.run_pure, if_neg h24', if_pos h0, Array.toList_map, hfill']
    rfl
  · rw [if_neg h0] at hzr
    subst hzr
    simp only [execOp, ho, Instr.buildSlice, Sem.run_bind, run_underlying hu, Result.andThen_ok, run_sizeOf hi, Sem.run_pure, if_neg h24', if_neg h0, Array.toList_map, hfill', run_zero hi hz]
    rfl
/-- A slice that is written down: its block is new. -/
theorem run_bso {t e i z parts xs es} {B : Nat} {a : Act} {w : World} {H : Hp} (ho : o.op = .buildSlice t xs.length parts) (hu : Try.prog.underlying t = some (.slice e)) (hi : Try.prog.info? e = some i) (hz : i.zero = some z) (hzs : z.cells.size = i.size) (hpos : 0 < i.size)
    (hp : parts.toList = idxs 0 xs) (hl : xs.length * i.size ≤ 16777216) (he : S.elems i.size xs = some es) (h2 : Objs B S E w H) (h3 : OpdOk S E H a xs) :
    ∃ out : Array Value, (execOp a.eval o).run Try.prog w = .ok (.value (.slice (some ⟨w.heap.size, 0, none⟩) xs.length xs.length)) (w.alloc (.cells out e)) ∧ RepEs H i.size es out.toList ∧ es.length = xs.length := by
  obtain ⟨r1, r2, r3⟩ := elems_rep h2 h3 he
  have h24 : ¬ (16777216 < xs.length * i.size) := by omega
  obtain ⟨zr, hzr⟩ : ∃ zr, zr = if xs.length * i.size = 0 then (#[] : Array Value) else z.cells := ⟨_, rfl⟩
  obtain ⟨out, g1, g2⟩ := fill_seq (k := i.size) (xs.map a.eval) 0 ((Array.range (xs.length * i.size)).map (zr[· % zr.size]!)) r3 (by simp)
  have hfill : Instr.fill (fun j => some (j * i.size, i.size)) ((Array.range (xs.length * i.size)).map (zr[· % zr.size]!)) (parts.map fun (i, x) => (i, a.eval x)).toList = some out := by
    rw [← g1, idxs_map]; simp [hp]
  have hE : RepEs H i.size es out.toList := by rw [g2]; simpa using r1
  have hlen : xs.length ≤ maxLen := by unfold maxLen; have := Nat.le_mul_of_pos_right xs.length hpos; omega
  refine ⟨out, ?_, hE, r2⟩
  have h24' : ¬ (xs.length * i.size > 2 ^ 24) := by simpa using h24
  have hfill' : Instr.fill (fun j => some (j * i.size, i.size)) ((Array.range (xs.length * i.size)).map (zr[· % zr.size]!)) (parts.toList.map fun p => (p.1, a.eval p.2)) = some out := by simpa using hfill
  clear hfill g1
  by_cases h0 : xs.length * i.size = 0
  · rw [if_pos h0] at hzr
    subst hzr
    simp only [execOp, ho, Instr.buildSlice, Sem.run_bind, run_underlying hu, Result.andThen_ok, run_sizeOf hi, Sem.run_pure, if_neg h24', if_pos h0, Array.toList_map, hfill']
    rfl
  · rw [if_neg h0] at hzr
    subst hzr
    simp only [execOp, ho, Instr.buildSlice, Sem.run_bind, run_underlying hu, Result.andThen_ok, run_sizeOf hi, Sem.run_pure, if_neg h24', if_neg h0, Array.toList_map, hfill', run_zero hi hz]
    rfl
end
end Go.Proofs.Ytijblpkdfmkcfaa

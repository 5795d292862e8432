/-
  Base: parts of the heap that nobody writes any more; maps as functions from integers to values. Lemmas only.
-/
import Derived.Test.YtfcjkchpldfamaaRows
import Derived.WalkKit
import Derived.WalkSpells
import Derived.WalkLawsBesides
import Derived.Maps.OwnSet
import Derived.Maps.RangeWalk
import Derived.Maps.Ext
import Derived.Shelf.SlMaps.Clone
import Derived.Deep.AppendLies
import Derived.Deep.RegionHeld3
import Derived.Deep.RegionLawGrows
import Derived.Deep.DrawnRows
import Derived.Deep.QuietTactic
import Derived.BigQuiet
import Derived.Lib.Hide
namespace Go.Proofs.Ytfcjkchpldfamaa
set_option linter.unusedSimpArgs false
set_option linter.unusedVariables false
open Go.RowKit Go.Maps

/-- A part of a heap. -/
abbrev Hp := Nat → Option Obj
/-- H is a part of w's heap. -/
def Sub (H : Hp) (w : World) : Prop := ∀ k o, H k = some o → w.heap[k]? = some o
/-- From (w, H) to (w', H'): what was in w is as it was; H' has more than H, of new blocks alone. -/
structure Grow (w : World) (H : Hp) (w' : World) (H' : Hp) : Prop where
  below : Below w.heap.size w w'
  sub : Sub H' w'
  old : ∀ k, k < w.heap.size → H' k = H k

theorem Sub.lt {H : Hp} {w : World} (h : Sub H w) {k : Nat} {o : Obj} (hk : H k = some o) : k < w.heap.size := (Array.getElem?_eq_some_iff.1 (h k o hk)).1
theorem Sub.none {H : Hp} {w : World} (h : Sub H w) {k : Nat} (hk : w.heap.size ≤ k) : H k = none := by
  cases e : H k with
  | none => rfl
  | some o => exact absurd (h.lt e) (by omega)
theorem Sub.drew {H : Hp} {w : World} (h : Sub H w) : Sub H w.drew := h
theorem Sub.below {H : Hp} {w w' : World} {B : Nat} (h : Sub H w) (hb : Below B w w') (hB : ∀ k o, H k = some o → k < B) : Sub H w' :=
  fun k o hk => (hb.block k (hB k o hk)).trans (h k o hk)
theorem Sub.alloc {H : Hp} {w : World} (h : Sub H w) (o : Obj) : Sub H (w.alloc o) := fun k x hk => (Below.heap_alloc w o k (h.lt hk)).trans (h k x hk)
theorem Sub.setCell {H : Hp} {w : World} (h : Sub H w) {p : Addr} (hp : H p.block = Option.none) (u : Value) : Sub H (w.setCell p u) := fun k x hk =>
  (Below.heap_setCell w p u k (fun e => by rw [e, hp] at hk; cases hk)).trans (h k x hk)
/-- More of the heap. -/
def Le (H H' : Hp) : Prop := ∀ k o, H k = some o → H' k = some o
theorem Le.refl (H : Hp) : Le H H := fun _ _ h => h
theorem Le.trans {A B C : Hp} (h : Le A B) (k : Le B C) : Le A C := fun i o e => k i o (h i o e)
theorem Grow.le {w w' : World} {H H' : Hp} (g : Grow w H w' H') (h : Sub H w) : Le H H' := fun k o e => by rw [g.old k (h.lt e)]; exact e
theorem Grow.refl {w : World} {H : Hp} (h : Sub H w) : Grow w H w H := ⟨Below.refl _ _, h, fun _ _ => rfl⟩
theorem Grow.trans {a b c : World} {A B C : Hp} (g : Grow a A b B) (k : Grow b B c C) : Grow a A c C :=
  ⟨g.below.trans (k.below.mono g.below.size), k.sub, fun i hi => (k.old i (Nat.lt_of_lt_of_le hi g.below.size)).trans (g.old i hi)⟩

/-! ### Maps whose keys are integers (of 64 bits), whatever their elements -/
/-- Every element reads as itself. -/
def anyElem (v : Value) : Option (DataW Value × List MemPlace) := some (.held v, [])

/-- Block o is a map: f says what it holds at each key. -/
def MapOf (kt : TypeId) (o : Obj) (n : Nat) (f : Int → Option Value) : Prop :=
  ∃ D : DataW Value, (∃ es clock, o = .map es clock ∧ Go.WideElems.Fit Try.prog kt anyElem es clock ∧ es.size ≤ n ∧ D = .map ((es.toList.map (Go.WideElems.rg Try.prog kt anyElem)).foldr DataW.insert [])) ∧
    ∀ k, D.atKey (.int .i64 k) .nil = (match f k with | some v => .held v | Option.none => .nil)

theorem MapOf.owns {kt : TypeId} {o : Obj} {n b : Nat} {f : Int → Option Value} {w : World} (h : MapOf kt o n f) (hb : w.heap[b]? = some o) :
    ∃ D : DataW Value, w.ownsMap Try.prog kt anyElem b n D ∧ ∀ k, D.atKey (.int .i64 k) .nil = (match f k with | some v => .held v | Option.none => .nil) := by
  obtain ⟨D, ⟨es, clock, rfl, F, hs, hD⟩, hf⟩ := h
  exact ⟨D, ⟨es, clock, hb, F, hs, hD⟩, hf⟩
theorem MapOf.of_owns {kt : TypeId} {n b : Nat} {f : Int → Option Value} {w : World} {D : DataW Value} (h : w.ownsMap Try.prog kt anyElem b n D)
    (hf : ∀ k, D.atKey (.int .i64 k) .nil = (match f k with | some v => .held v | Option.none => .nil)) : ∃ o, w.heap[b]? = some o ∧ MapOf kt o n f := by
  obtain ⟨es, clock, hb, F, hs, hD⟩ := h
  exact ⟨_, hb, D, ⟨es, clock, rfl, F, hs, hD⟩, hf⟩

theorem wf64 {k : Int} (h1 : -9223372036854775808 ≤ k) (h2 : k ≤ 9223372036854775807) : (Lit.int .i64 k).wf = true := WalkArith.wf_i64 ⟨h1, h2⟩

/-- The zero value of an element type does not depend on the world, and is what 'atKey' gives where there is none. -/
theorem MapOf.lookup {kt t e : TypeId} {o : Obj} {n b : Nat} {f : Int → Option Value} {w : World} (h : MapOf kt o n f) (hb : w.heap[b]? = some o) (hk : Try.prog.underlying kt = some (.int .i64))
    (ht : Try.prog.underlying t = some (.map kt e)) {z : Value} (hz : (zeroValue e).run Try.prog w = .ok z w) {k : Int} (h1 : -9223372036854775808 ≤ k) (h2 : k ≤ 9223372036854775807) :
    (Instr.lookup t (.map (some b)) (.int .i64 k) false).run Try.prog w = .ok ((f k).getD z) w ∧ (Instr.lookup t (.map (some b)) (.int .i64 k) true).run Try.prog w = .ok (.tuple #[(f k).getD z, .bool (f k).isSome]) w := by
  obtain ⟨D, ⟨es, clock, rfl, F, hs, hD⟩, hf⟩ := h
  have K := int_keyed (P := Try.prog) hk
  have hkey := keyOf_int_mk (P := Try.prog) hk (wf64 h1 h2)
  constructor
  · rcases Maps.fit_look false K ht hz hb F hkey with ⟨hrun, _, hat⟩ | ⟨e0, y, _, _, hrun, hRv, hat, _⟩
    · have := hf k
      rw [hD, hat .nil] at this
      cases e : f k with
      | none => rw [hrun]; rfl
      | some v => rw [e] at this; cases this
    · have h0 := hf k
      rw [hD, hat .nil] at h0
      simp only [anyElem, Option.some.injEq] at hRv
      cases e : f k with
      | none => rw [e, ← hRv] at h0; cases h0
      | some v => rw [e, ← hRv] at h0; simp only [DataW.held.injEq] at h0; rw [hrun]; subst h0; rfl
  · rcases Maps.fit_look true K ht hz hb F hkey with ⟨hrun, _, hat⟩ | ⟨e0, y, _, _, hrun, hRv, hat, _⟩
    · have := hf k
      rw [hD, hat .nil] at this
      cases e : f k with
      | none => rw [hrun]; rfl
      | some v => rw [e] at this; cases this
    · have h0 := hf k
      rw [hD, hat .nil] at h0
      simp only [anyElem, Option.some.injEq] at hRv
      cases e : f k with
      | none => rw [e, ← hRv] at h0; cases h0
      | some v => rw [e, ← hRv] at h0; simp only [DataW.held.injEq] at h0; rw [hrun]; subst h0; rfl

def upd (f : Int → Option Value) (k : Int) (v : Option Value) : Int → Option Value := fun j => if j = k then v else f j

theorem MapOf.update {kt t e : TypeId} {o : Obj} {n b : Nat} {f : Int → Option Value} {w : World} (h : MapOf kt o n f) (hb : w.heap[b]? = some o) (hk : Try.prog.underlying kt = some (.int .i64))
    (ht : Try.prog.underlying t = some (.map kt e)) (hn : n < maxLen) {k : Int} (h1 : -9223372036854775808 ≤ k) (h2 : k ≤ 9223372036854775807) (v : Value) :
    ∃ w' o', (Instr.mapUpdate t (.map (some b)) (.int .i64 k) v).run Try.prog w = .ok () w' ∧ w'.heap[b]? = some o' ∧ MapOf kt o' (n + 1) (upd f k (some v)) ∧ w.grownBy w' (some b) := by
  obtain ⟨D, hown, hf⟩ := h.owns hb
  have K := int_keyed (P := Try.prog) hk
  have hkey := keyOf_int_mk (P := Try.prog) hk (wf64 h1 h2)
  obtain ⟨w', hrun, r1, r2⟩ := hown.update K ht hn hkey (show anyElem v = some (.held v, []) from rfl)
  have hM := (hown.tidy K).isMap
  obtain ⟨o', ho, hm⟩ := MapOf.of_owns (f := upd f k (some v)) r1 (fun j => by
    unfold upd
    by_cases e : j = k
    · subst e; rw [if_pos rfl, atKey_put_same hM (K.key hkey)]
    · rw [if_neg e, atKey_put_other (by intro h; exact e (by cases h; rfl)), hf j])
  exact ⟨w', o', hrun, ho, hm, r2⟩

theorem MapOf.mono {kt : TypeId} {o : Obj} {n n' : Nat} {f : Int → Option Value} (h : MapOf kt o n f) (hn : n ≤ n') : MapOf kt o n' f := by
  obtain ⟨D, ⟨es, clock, ho, F, hs, hD⟩, hf⟩ := h
  exact ⟨D, ⟨es, clock, ho, F, Nat.le_trans hs hn, hD⟩, hf⟩

theorem MapOf.made {kt : TypeId} : MapOf kt (.map #[] 0) 0 (fun _ => Option.none) := by
  obtain ⟨es, clock, hb, F, hs, hD⟩ := World.ownsMap_made (default : World) Try.prog kt anyElem
  have e : ((default : World).alloc (.map #[] 0)).heap[(default : World).heap.size]? = some (.map #[] 0) := (MapKept.heap_alloc (default : World) _).1
  rw [e] at hb
  cases hb
  exact ⟨.map [], ⟨_, _, rfl, F, Nat.le_refl _, hD⟩, fun k => rfl⟩

/-- A nodup list of naturals below n has at most n members. -/
theorem nodup_le : ∀ (n : Nat) (l : List Nat), l.Nodup → (∀ x ∈ l, x < n) → l.length ≤ n
  | 0, l, _, h => by cases l with | nil => simp | cons x r => exact absurd (h x (by simp)) (by omega)
  | n + 1, l, hn, h => by
    have h1 := nodup_le n (l.erase n) (hn.erase n) (fun x hx => by
      have h2 := h x (List.mem_of_mem_erase hx)
      have : x ≠ n := fun e => by subst e; exact (List.Nodup.not_mem_erase hn) hx
      omega)
    rw [List.length_erase] at h1
    split at h1 <;> omega

def litNat : Lit → Nat | .int _ k => k.toNat | _ => 0
theorem MapOf.tight {kt : TypeId} {o : Obj} {n : Nat} {f : Int → Option Value} (h : MapOf kt o n f) (hk : Try.prog.underlying kt = some (.int .i64)) (m : Nat) (hf : ∀ k, (f k).isSome = true → 0 ≤ k ∧ k < m) : MapOf kt o m f := by
  have h0 := h
  obtain ⟨D, ⟨es, clock, rfl, F, hs, hD⟩, hD2⟩ := h
  have K := int_keyed (P := Try.prog) hk
  let w : World := (default : World).alloc (.map es clock)
  have hw : w.heap[(default : World).heap.size]? = some (.map es clock) := (MapKept.heap_alloc (default : World) _).1
  have hown : w.ownsMap Try.prog kt anyElem (default : World).heap.size n D := ⟨es, clock, hw, F, hs, hD⟩
  obtain ⟨ents, hE, hap, hlit⟩ := hown.entries K
  have hsz : es.size = ents.length := by
    have : (DataW.map ((es.toList.map (Go.WideElems.rg Try.prog kt anyElem)).foldr DataW.insert []) : DataW Value) = .map ents := by rw [← hD, hE]
    simp only [DataW.map.injEq] at this
    rw [← this, length_sorted]; simp
  refine ⟨D, ⟨es, clock, rfl, F, ?_, hD⟩, hD2⟩
  have hap2 := Maps.fit_apart K F
  have hkeys : ∀ x ∈ es.toList, ∃ k : Int, (Go.WideElems.rg Try.prog kt anyElem x).1 = .int .i64 k ∧ 0 ≤ k ∧ k < m := by
    intro x hx
    obtain ⟨v, hv⟩ := Maps.fit_keys F _ (List.mem_map.2 ⟨x, hx, rfl⟩)
    obtain ⟨k, _, hk2, _⟩ := Maps.keyOf_int_inv hk hv
    refine ⟨k, hk2, ?_⟩
    obtain ⟨y, hy⟩ := F.reads x hx
    obtain ⟨z, hz, hzd⟩ := Go.WideElems.rd_val hy
    have hmem : Go.WideElems.rg Try.prog kt anyElem x ∈ ents := by
      have : (DataW.map ((es.toList.map (Go.WideElems.rg Try.prog kt anyElem)).foldr DataW.insert []) : DataW Value) = .map ents := by rw [← hD, hE]
      simp only [DataW.map.injEq] at this
      rw [← this]; exact mem_sorted.2 (List.mem_map.2 ⟨x, hx, rfl⟩)
    obtain ⟨p, hp⟩ : ∃ p, p = Go.WideElems.rg Try.prog kt anyElem x := ⟨_, rfl⟩
    rw [← hp] at hmem hk2
    have hrg := Go.WideElems.rg_of hy
    rw [← hp] at hrg
    have hat := WideAt.atKey_mem (entries := ents) (k := p.1) (d := p.2) .nil (hlit p hmem) hap hmem
    rw [hk2, ← hE, hD2 k] at hat
    apply hf k
    cases e : f k with
    | some v => rfl
    | none =>
      rw [e, hrg, hzd] at hat
      simp only [anyElem, Option.some.injEq] at hz
      rw [← hz] at hat
      cases hat
  have hl := nodup_le m (es.toList.map fun x => litNat (Go.WideElems.rg Try.prog kt anyElem x).1) (by
    rw [List.Nodup, List.pairwise_map]
    rw [List.pairwise_map] at hap2
    refine List.Pairwise.imp_of_mem ?_ hap2
    intro a b ha hb hne he
    obtain ⟨k1, e1, r1, _⟩ := hkeys a ha
    obtain ⟨k2, e2, r2, _⟩ := hkeys b hb
    rw [e1, e2] at hne; rw [e1, e2] at he
    simp only [litNat] at he
    exact hne (by rw [show k1 = k2 from by omega])) (by
    intro x hx
    obtain ⟨y, hy, rfl⟩ := List.mem_map.1 hx
    obtain ⟨k1, e1, r1, r2⟩ := hkeys y hy
    rw [e1]; simp only [litNat]; omega)
  simpa using hl

theorem heap_at (w : World) (o : Obj) {k : Nat} (h : k = w.heap.size) : (w.alloc o).heap[k]? = some o := by subst h; exact heap_alloc_new w o
theorem heap_past (w : World) (o : Obj) {k : Nat} {x : Obj} (h : w.heap[k]? = some x) : (w.alloc o).heap[k]? = some x :=
  (Below.heap_alloc w o k (Array.getElem?_eq_some_iff.1 h).1).trans h

/-- 'm[k] = v' at the operation. -/
theorem wpList_mapUpdate_of (w : World) {ops : Array Oper} {rest : List Oper} {o : Oper} {a : Act} {Q : Exit → Act → World → Prop}
    (hg : o.guard = none) (m x v : Operand) (t : TypeId) (hop : o.op = Op.mapUpdate t m x v)
    (kt e : TypeId) (hk : Try.prog.underlying kt = some (.int .i64)) (ht : Try.prog.underlying t = some (.map kt e)) (b n : Nat) (f : Int → Option Value) (ob : Obj)
    (hm : a.eval m = .map (some b)) (k : Int) (val : Value) (hx : a.eval x = .int .i64 k) (hv : a.eval v = val)
    (hb : w.heap[b]? = some ob) (hmap : MapOf kt ob n f) (hn : n < maxLen) (h1 : -9223372036854775808 ≤ k) (h2 : k ≤ 9223372036854775807)
    (hK : ∀ w' o', w'.heap[b]? = some o' → MapOf kt o' (n + 1) (upd f k (some val)) → w.grownBy w' (some b) → wpList Try.prog ops Q rest (a.put o.dst undef) w') :
    wpList Try.prog ops Q (o :: rest) a w := by
  refine wpList_plain hg fun K' hK' => ?_
  obtain ⟨w', o', hrun, r0, r1, r2⟩ := hmap.update hb hk ht hn h1 h2 val
  unfold Oper.wp
  simp [execOp, hop, hm, hx, hv, hrun, Result.andThen]
  exact hK' _ _ (hK w' o' r0 r1 r2)

/-- The heap with one block more. -/
def Hp.add (H : Hp) (b : Nat) (o : Obj) : Hp := fun k => if k = b then some o else H k
theorem Hp.add_at (H : Hp) (b : Nat) (o : Obj) : H.add b o b = some o := if_pos rfl
theorem Hp.add_le {H : Hp} {b : Nat} {o : Obj} (h : H b = Option.none) : Le H (H.add b o) := fun k x e => by
  unfold Hp.add; rw [if_neg (fun e2 => by subst e2; rw [h] at e; cases e)]; exact e
theorem Hp.add_sub {H : Hp} {b : Nat} {o : Obj} {w : World} (h : Sub H w) (hb : w.heap[b]? = some o) : Sub (H.add b o) w := fun k x e => by
  unfold Hp.add at e
  split at e
  · rename_i hk; subst hk; cases e; exact hb
  · exact h k x e
theorem Grow.add {w w' : World} {H H' : Hp} (g : Grow w H w' H') {b : Nat} {o : Obj} (hb : w'.heap[b]? = some o) (hn : w.heap.size ≤ b) : Grow w H w' (H'.add b o) :=
  ⟨g.below, Hp.add_sub g.sub hb, fun k hk => by unfold Hp.add; rw [if_neg (by omega)]; exact g.old k hk⟩
theorem Grow.alloc {w w' : World} {H H' : Hp} (g : Grow w H w' H') (o : Obj) : Grow w H (w'.alloc o) H' := ⟨g.below.alloc g.below.size o, g.sub.alloc o, g.old⟩
theorem Grow.drew {w w' : World} {H H' : Hp} (g : Grow w H w' H') : Grow w H w'.drew H' := ⟨g.below.drew, g.sub, g.old⟩
theorem Grow.setCell {w w' : World} {H H' : Hp} (g : Grow w H w' H') {p : Addr} (hp : w.heap.size ≤ p.block) (hH : H' p.block = Option.none) (u : Value) : Grow w H (w'.setCell p u) H' :=
  ⟨g.below.setCell hp u, g.sub.setCell hH u, g.old⟩
theorem Grow.of_below {w w' : World} {H : Hp} (h : Sub H w) (hb : Below w.heap.size w w') : Grow w H w' H := ⟨hb, fun k o hk => (hb.block k (h.lt hk)).trans (h k o hk), fun _ _ => rfl⟩
theorem Grow.grown {w w' w'' : World} {H H' : Hp} (g : Grow w H w' H') {row : Option Nat} (hg : w'.grownBy w'' row) (hr : ∀ k, row = some k → w.heap.size ≤ k ∧ H' k = Option.none) : Grow w H w'' H' :=
  ⟨g.below.grown hg g.below.size (fun k e => (hr k e).1), fun k o hk => (hg.block k (g.sub.lt hk) (fun e => by have := (hr k e.symm).2; rw [this] at hk; cases hk)).trans (g.sub k o hk), g.old⟩

/-- Behind a step that leaves a row alone: the old cells and marks, as rules for the walk. -/
theorem gcell {w w' : World} {r : Nat} (h : w.grownBy w' (some r)) : (∀ b o, b < w.heap.size → b ≠ r → w'.cell? ⟨b, o, none⟩ = w.cell? ⟨b, o, none⟩) ∧ (∀ b o, b < w.heap.size → b ≠ r → w'.frozen? ⟨b, o, none⟩ = w.frozen? ⟨b, o, none⟩) :=
  ⟨fun b o h1 h2 => World.cell?_of_block (h.block b h1 (by simpa using h2)), fun b o h1 h2 => World.frozen?_of_block (h.block b h1 (by simpa using h2))⟩
theorem gcell0 {w w' : World} (h : w.grownBy w' none) : (∀ b o, b < w.heap.size → w'.cell? ⟨b, o, none⟩ = w.cell? ⟨b, o, none⟩) ∧ (∀ b o, b < w.heap.size → w'.frozen? ⟨b, o, none⟩ = w.frozen? ⟨b, o, none⟩) :=
  ⟨fun b o h1 => World.cell?_of_block (h.block b h1 (by simp)), fun b o h1 => World.frozen?_of_block (h.block b h1 (by simp))⟩
theorem bcell {w w' : World} {B : Nat} (h : Below B w w') : (∀ b o, b < B → w'.cell? ⟨b, o, none⟩ = w.cell? ⟨b, o, none⟩) ∧ (∀ b o, b < B → w'.frozen? ⟨b, o, none⟩ = w.frozen? ⟨b, o, none⟩) :=
  ⟨fun b o h1 => h.cell (p := ⟨b, o, none⟩) h1, fun b o h1 => h.frozen (p := ⟨b, o, none⟩) h1⟩

end Go.Proofs.Ytfcjkchpldfamaa

/-
  Variables in memory, each a block known whole: read, written, kept. Lemmas over any program.
-/
import Derived.Test.YtfcjkchpldfamaaAg
import Derived.Laws.CopyRow
namespace Go.Proofs.Ytfcjkchpldfamaa
set_option linter.unusedSimpArgs false
set_option linter.unusedVariables false
open Go.RowKit

/-- Block b holds the cells cs; it may be written. -/
def Box (w : World) (b : Nat) (cs : Array Value) (t : TypeId) : Prop := w.heap[b]? = some (.cells cs t (0, 0))
/-- w' is w but for block b, which holds cs now. -/
structure Put (w : World) (b : Nat) (cs : Array Value) (t : TypeId) (w' : World) : Prop where
  box : Box w' b cs t
  same : ∀ k, k ≠ b → w'.heap[k]? = w.heap[k]?
  size : w'.heap.size = w.heap.size
  os : w'.os = w.os
  tape : w'.tape = w.tape
  output : w'.output = w.output

theorem Box.lt {w : World} {b : Nat} {cs : Array Value} {t : TypeId} (h : Box w b cs t) : b < w.heap.size := (Array.getElem?_eq_some_iff.1 h).1
theorem Box.cell {w : World} {b : Nat} {cs : Array Value} {t : TypeId} (h : Box w b cs t) : ∀ i, w.cell? ⟨b, i, none⟩ = cs[i]? := fun i => by
  unfold Box at h
  simp [World.cell?, h]
theorem Box.frozen {w : World} {b : Nat} {cs : Array Value} {t : TypeId} (h : Box w b cs t) : ∀ i, w.frozen? ⟨b, i, none⟩ = false := fun i => by
  unfold Box at h
  simp [World.frozen?, h]
theorem Box.grow {w w' : World} {H H' : Hp} {b : Nat} {cs : Array Value} {t : TypeId} (h : Box w b cs t) (g : Grow w H w' H') : Box w' b cs t :=
  (g.below.block b h.lt).trans h
theorem Box.below {w w' : World} {b B : Nat} {cs : Array Value} {t : TypeId} (h : Box w b cs t) (g : Below B w w') (hB : b < B) : Box w' b cs t := (g.block b hB).trans h
theorem Box.put {w w' : World} {b b' : Nat} {cs cs' : Array Value} {t t' : TypeId} (h : Box w b cs t) (p : Put w b' cs' t' w') (hne : b ≠ b') : Box w' b cs t := (p.same b hne).trans h
theorem Box.grownBy {w w' : World} {b : Nat} {row : Option Nat} {cs : Array Value} {t : TypeId} (h : Box w b cs t) (g : w.grownBy w' row) (hne : some b ≠ row) : Box w' b cs t := (g.block b h.lt hne).trans h
theorem Put.grow {w w1 w' : World} {H H1 : Hp} {b : Nat} {cs : Array Value} {t : TypeId} (p : Put w1 b cs t w') (g : Grow w H w1 H1) (hb : w.heap.size ≤ b) (hH : H1 b = none) : Grow w H w' H1 :=
  ⟨⟨p.os.trans g.below.os, p.tape.trans g.below.tape, p.output.trans g.below.output, by rw [p.size]; exact g.below.size, fun k hk => (p.same k (by omega)).trans (g.below.block k hk)⟩,
   fun k o hk => (p.same k (fun e => by rw [e, hH] at hk; cases hk)).trans (g.sub k o hk), g.old⟩
theorem Sub.put {w w' : World} {H : Hp} {b : Nat} {cs : Array Value} {t : TypeId} (h : Sub H w) (p : Put w b cs t w') (hH : H b = Option.none) : Sub H w' :=
  fun k o hk => (p.same k (fun e => by rw [e, hH] at hk; cases hk)).trans (h k o hk)
theorem Grow.priv {w w' : World} {H H' : Hp} (g : Grow w H w' H') {b : Nat} (hb : b < w.heap.size) (h : H b = Option.none) : H' b = Option.none := (g.old b hb).trans h

theorem put_setRow {w : World} {b : Nat} {cs cs' : Array Value} {t : TypeId} (h : Box w b cs t) : Put w b cs' t (w.setRow b cs') := by
  refine ⟨setRow_heap w b cs cs' t _ h, fun k hk => ?_, ?_, rfl, rfl, rfl⟩
  · simp only [World.setRow, Array.getElem?_modify]
    rw [if_neg (by omega)]
  · simp [World.setRow]

section
variable {P : Program} {ops : Array Oper} {rest : List Oper} {o : Oper} {a : Act} {w : World} {Q : Exit → Act → World → Prop}

theorem run_storeAt_box (t : TypeId) (b : Nat) (cs : Array Value) (t0 : TypeId) (hb : Box w b cs t0) (val : Value) (off : Nat) (hi : (P.info? t).map (·.size) = some val.cells.size) (hn : off + val.cells.size ≤ cs.size) (h1 : ∀ v ∈ val.cells.toList, v.oneCell' = true) :
    (Instr.storeAt t (.pointer (some ⟨b, off, none⟩)) val).run P w = .ok () (w.setRow b (cs.toList.take off ++ val.cells.toList ++ cs.toList.drop (off + val.cells.size)).toArray) := by
  have hsz : ∃ i, P.info? t = some i ∧ i.size = val.cells.size := by
    cases h : P.info? t with
    | none => rw [h] at hi; cases hi
    | some i => rw [h] at hi; exact ⟨i, rfl, by simpa using hi⟩
  obtain ⟨i, hq, hs⟩ := hsz
  have := run_storeCells_at (P := P) b off t0 val.cells.toList 0 cs w hb (by simpa using hn) h1
  simp only [Nat.add_zero, Array.length_toList] at this
  simp [Instr.storeAt, Instr.sureAddr, storeVar, sizeOf, typeInfo, hq, hs, this, Result.andThen]

/-- 'x = v', x a variable in memory: the whole of it. -/
theorem wpList_store_box (hg : o.guard = none) (t : TypeId) (x y : Operand) (hop : o.op = .store t x y) (b : Nat) (cs : Array Value) (t0 : TypeId) (val : Value) (hx : a.eval x = .pointer (some ⟨b, 0, none⟩)) (hy : a.eval y = val)
    (hb : Box w b cs t0) (hi : (P.info? t).map (·.size) = some val.cells.size) (hn : val.cells.size = cs.size) (h1 : ∀ v ∈ val.cells.toList, v.oneCell' = true)
    (hK : ∀ w', Put w b val.cells t0 w' → wpList P ops Q rest (a.put o.dst undef) w') : wpList P ops Q (o :: rest) a w := by
  refine wpList_plain hg fun K' hK' => ?_
  have hrun := run_storeAt_box (P := P) t b cs t0 hb val 0 hi (by omega) h1
  have e : (cs.toList.take 0 ++ val.cells.toList ++ cs.toList.drop (0 + val.cells.size)).toArray = val.cells := by
    rw [Nat.zero_add, hn, List.drop_of_length_le (by simp)]; simp
  rw [e] at hrun
  unfold Oper.wp
  simp [execOp, hop, hx, hy, hrun, Result.andThen]
  exact hK' _ _ (hK _ (put_setRow hb))

/-- 'x.f = v': one field of a variable in memory. -/
theorem wpList_store_field (hg : o.guard = none) (t : TypeId) (x y : Operand) (hop : o.op = .store t x y) (b : Nat) (cs : Array Value) (t0 : TypeId) (val : Value) (off : Nat) (hx : a.eval x = .pointer (some ⟨b, off, none⟩)) (hy : a.eval y = val)
    (hb : Box w b cs t0) (hi : (P.info? t).map (·.size) = some val.cells.size) (hn : off + val.cells.size ≤ cs.size) (h1 : ∀ v ∈ val.cells.toList, v.oneCell' = true) (cs' : Array Value) (he : (cs.toList.take off ++ val.cells.toList ++ cs.toList.drop (off + val.cells.size)).toArray = cs')
    (hK : ∀ w', Put w b cs' t0 w' → wpList P ops Q rest (a.put o.dst undef) w') : wpList P ops Q (o :: rest) a w := by
  refine wpList_plain hg fun K' hK' => ?_
  have hrun := run_storeAt_box (P := P) t b cs t0 hb val off hi hn h1
  rw [he] at hrun
  unfold Oper.wp
  simp [execOp, hop, hx, hy, hrun, Result.andThen]
  exact hK' _ _ (hK _ (put_setRow hb))

variable {c : Code}
/-- The worlds with new variables, under one name. -/
theorem wp_abs1 {H : Hp} (hs : Sub H w) {c1 : Array Value} {t1 : TypeId}
    (h : ∀ W, Box W w.heap.size c1 t1 → Grow w H W H → W.heap.size = w.heap.size + 1 → c.wp P Q a W) : c.wp P Q a (w.alloc (.cells c1 t1)) :=
  h _ (heap_alloc_new w _) ((Grow.refl hs).alloc _) (by simp)
theorem wp_abs2 {H : Hp} (hs : Sub H w) {c1 c2 : Array Value} {t1 t2 : TypeId}
    (h : ∀ W, Box W w.heap.size c1 t1 → Box W (w.heap.size + 1) c2 t2 → Grow w H W H → W.heap.size = w.heap.size + 2 → c.wp P Q a W) : c.wp P Q a ((w.alloc (.cells c1 t1)).alloc (.cells c2 t2)) :=
  h _ (heap_past _ _ (heap_alloc_new w _)) (heap_at _ _ (by simp)) (((Grow.refl hs).alloc _).alloc _) (by simp)
theorem wp_abs3 {H : Hp} (hs : Sub H w) {c1 c2 c3 : Array Value} {t1 t2 t3 : TypeId}
    (h : ∀ W, Box W w.heap.size c1 t1 → Box W (w.heap.size + 1) c2 t2 → Box W (w.heap.size + 2) c3 t3 → Grow w H W H → W.heap.size = w.heap.size + 3 → c.wp P Q a W) : c.wp P Q a (((w.alloc (.cells c1 t1)).alloc (.cells c2 t2)).alloc (.cells c3 t3)) :=
  h _ (heap_past _ _ (heap_past _ _ (heap_alloc_new w _))) (heap_past _ _ (heap_at _ _ (by simp))) (heap_at _ _ (by simp)) ((((Grow.refl hs).alloc _).alloc _).alloc _) (by simp)
theorem wp_abs4 {H : Hp} (hs : Sub H w) {c1 c2 c3 c4 : Array Value} {t1 t2 t3 t4 : TypeId}
    (h : ∀ W, Box W w.heap.size c1 t1 → Box W (w.heap.size + 1) c2 t2 → Box W (w.heap.size + 2) c3 t3 → Box W (w.heap.size + 3) c4 t4 → Grow w H W H → W.heap.size = w.heap.size + 4 → c.wp P Q a W) : c.wp P Q a ((((w.alloc (.cells c1 t1)).alloc (.cells c2 t2)).alloc (.cells c3 t3)).alloc (.cells c4 t4)) :=
  h _ (heap_past _ _ (heap_past _ _ (heap_past _ _ (heap_alloc_new w _)))) (heap_past _ _ (heap_past _ _ (heap_at _ _ (by simp)))) (heap_past _ _ (heap_at _ _ (by simp))) (heap_at _ _ (by simp)) (((((Grow.refl hs).alloc _).alloc _).alloc _).alloc _) (by simp)
end
end Go.Proofs.Ytfcjkchpldfamaa

/-
  A law's arguments, opened: a slice that reads as data is a list.
-/
import Derived.Test.YtfcjkchpldfamaaSl
import Derived.Deep.Slices
import Derived.ProofKit
import Derived.Lib.SmallJoins
namespace Go.Proofs.Ytfcjkchpldfamaa
set_option linter.unusedSimpArgs false
set_option linter.unusedVariables false
open Go.ChangeShapes Go.WideShapes Go.ChangeAt Go.RowKit Go.Deep

/-- All of a world's blocks. -/
def allHp (W : World) : Hp := fun k => W.heap[k]?
theorem allSub (W : World) : Sub (allHp W) W := fun _ _ h => h

section
variable {H : Type} {enc : TypeId × Value → H} {P : Program} {W : World} {base : Nat} {spare : Nat → Bool} {held : Bool} {α : Type} {R : Elt α} {k : Nat}

theorem cell_block {a : Addr} {u : Value} (h : W.cell? a = some u) : ∃ cells t fr, a.spot = none ∧ W.heap[a.block]? = some (.cells cells t fr) ∧ cells[a.off]? = some u := by
  unfold World.cell? at h
  split at h
  · rename_i c e fr hb
    split at h
    · cases h
    · rename_i hs
      exact ⟨c, e, fr, by simpa using hs, hb, h⟩
  · cases h

theorem slOpen_list (a : Addr) (n : Nat) (h : ∀ i, i < n → ∃ es x, es.length = k ∧ (∀ u ∈ es, u.oneCell' = true) ∧ R (allHp W) es x ∧ ∀ j u, es[j]? = some u → W.cell? (a.add (i * k + j)) = some u) :
    ∃ xs l, l.length = n ∧ FlatR k R (allHp W) xs l ∧ (∀ u ∈ xs, u.oneCell' = true) ∧ ∀ j u, xs[j]? = some u → W.cell? (a.add j) = some u := by
  induction n with
  | zero => exact ⟨[], [], rfl, FlatR.nil, by simp, fun j u hu => by simp at hu⟩
  | succ n ih =>
    obtain ⟨xs, l, h1, h2, h3, h4⟩ := ih (fun i hi => h i (by omega))
    obtain ⟨es, x, e1, e2, e3, e4⟩ := h n (by omega)
    refine ⟨xs ++ es, l ++ [x], by simp [h1], h2.append (FlatR.one e1 e3), fun u hu => by rcases List.mem_append.1 hu with h | h; exact h3 u h; exact e2 u h, fun j u hu => ?_⟩
    rcases Nat.lt_or_ge j xs.length with hj | hj
    · rw [List.getElem?_append_left hj] at hu; exact h4 j u hu
    · rw [List.getElem?_append_right hj] at hu
      have := e4 _ u hu
      rw [h2.1, h1] at this hj
      rw [show n * k + (j - n * k) = j from by omega] at this
      exact this

/-- An argument that is a slice. -/
theorem slOpen {t e : TypeId} {fuel : Nat} {cs : List Value} {x : DataW H × List MemPlace} (ht : P.underlying t = some (.slice e)) (hC : P.cellsOf e = k)
    (hR : ∀ n cs x, DataW.trod enc P W base spare held n e cs = some x → cs.length = k → (∀ u ∈ cs, u.oneCell' = true) ∧ ∃ v, R (allHp W) cs v)
    (h : DataW.trod enc P W base spare held fuel t cs = some x) : ∃ s : SlV, ∃ l, cs = [.slice s.a s.n s.c] ∧ SlR k R (allHp W) s.a s.n s.c l ∧ s.c ≤ maxLen := by
  rcases open_slice ht h with ⟨rfl, _⟩ | ⟨a, len, cap, m, n, D, Pl, rfl, hb, hl, hm, hmm, hx, hi⟩
  · exact ⟨⟨none, 0, 0⟩, [], rfl, SlR.nil R _, Nat.zero_le _⟩
  · have hml : len ≤ m := by rw [hmm]; split <;> omega
    obtain ⟨xs, l, h1, h2, h3, h4⟩ := slOpen_list (W := W) (R := R) (k := k) a len (fun i hil => by
      obtain ⟨cs', hc, ht'⟩ := hi i (by omega)
      rw [hC] at hc
      obtain ⟨_, hcl, hat⟩ := World.cells?_some hc
      obtain ⟨ho, v, hv⟩ := hR _ _ _ ht' hcl
      refine ⟨cs', v, hcl, ho, hv, fun j u hu => ?_⟩
      have hj : j < k := by have := (List.getElem?_eq_some_iff.1 hu).1; omega
      have := hat j hj
      rw [Go.Deep.add_add] at this
      rw [this, hu])
    refine ⟨⟨some a, len, cap⟩, l, rfl, ⟨xs, h1, hl, fun e => (by cases e), h2, h3, fun j u hu => ?_⟩, hm⟩
    obtain ⟨u0, hu0⟩ : ∃ u, xs[0]? = some u := ⟨xs[0]'(by have := (List.getElem?_eq_some_iff.1 hu).1; omega), by simp⟩
    obtain ⟨c0, t0, f0, g1, g2, g3⟩ := cell_block (h4 0 u0 hu0)
    obtain ⟨cells, t', fr, g4, g5, g6⟩ := cell_block (h4 j u hu)
    have ha : a.add 0 = a := by simp [Addr.add]
    rw [ha] at g1
    have hb : (a.add j).block = a.block := by unfold Addr.add; split <;> rfl
    have ho : (a.add j).off = a.off + j := by unfold Addr.add; split <;> simp_all
    rw [hb] at g5
    rw [ho] at g6
    exact ⟨a.block, a.off, cells, t', fr, by cases a; simp_all, g5, g6⟩
end
end Go.Proofs.Ytfcjkchpldfamaa

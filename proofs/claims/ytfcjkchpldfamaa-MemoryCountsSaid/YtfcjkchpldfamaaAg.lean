/-
  A region whose order is drawn: each operation is shown once, from what is known of the operations that it waits for; no order is walked. Lemmas over any program.
-/
import Derived.Test.YtfcjkchpldfamaaBase
namespace Go.Proofs.Ytfcjkchpldfamaa
set_option linter.unusedSimpArgs false
set_option linter.unusedVariables false
open Go.RowKit

/-- What is known of an operation's value, in the world at hand. -/
abbrev Rel := Value → World → Hp → Prop
/-- It stays known while the heap grows. -/
def Keeps (R : Rel) : Prop := ∀ v w H w' H', R v w H → Grow w H w' H' → Sub H w → R v w' H'
theorem keeps_eq (c : Value) : Keeps (fun v _ _ => v = c) := fun _ _ _ _ _ h _ _ => h

def dstv (ops : Array Oper) (a : Act) (j : Nat) : Value := match (ops[j]?).bind (·.dst) with | some t => a.eval (.tmp t) | none => undef
def waits (o : Oper) (j : Nat) : Bool := o.after.toList.any fun e => e.on == j && Region.binds .any e
/-- No one of the first n operations writes slot t. -/
def noDst (ops : Array Oper) (n : Nat) (t : Tmp) : Bool := (ops.toList.take n).all fun o => o.dst != some t
def OutSame (ops : Array Oper) (n : Nat) (a0 a : Act) : Prop := a.defers = a0.defers ∧ a.tmps.size = a0.tmps.size ∧ ∀ t, noDst ops n t = true → a.tmps[t]? = a0.tmps[t]?
def NoQ : Exit → Act → World → Prop := fun _ _ _ => False

section
variable {P : Program} {ops : Array Oper} {Q : Exit → Act → World → Prop} {n : Nat} {a0 : Act} {w0 : World} {H0 : Hp}

def Preds (ops : Array Oper) (Γ : List Rel) (o : Oper) (a : Act) (w : World) (H : Hp) : Prop :=
  ∀ (j : Nat) (R : Rel), waits o j = true → Γ[j]? = some R → R (dstv ops a j) w H

def Obl (P : Program) (ops : Array Oper) (n : Nat) (a0 : Act) (w0 : World) (H0 : Hp) (Γ : List Rel) (o : Oper) (R : Rel) : Prop :=
  ∀ a w H, Grow w0 H0 w H → Preds ops Γ o a w H → OutSame ops n a0 a →
    if Region.wanted o (yielded ops a.tmps) = true then o.wp P a w (fun a' w' => ∃ v H', a' = a.put o.dst v ∧ Grow w H w' H' ∧ R v w' H') NoQ else R undef w H

/-- A float: it may come up behind a store; it looks at no world. -/
def FObl (P : Program) (ops : Array Oper) (n : Nat) (a0 : Act) (w0 : World) (H0 : Hp) (Γ : List Rel) (o : Oper) (R : Rel) : Prop :=
  ∀ a w H, Grow w0 H0 w H → Preds ops Γ o a w H → OutSame ops n a0 a → ∃ v, Yields P ops o v a ∧ R v w H

/-- What stands behind the first n operations, in the world then at hand. -/
def FinL (P : Program) (ops : Array Oper) (Q : Exit → Act → World → Prop) (n : Nat) (w : World) (H : Hp) : List Oper → List Rel → Act → Prop
  | o :: os, R :: Rs, a => ∀ v, R v w H → FinL P ops Q n w H os Rs (a.put o.dst v)
  | _, _, a => wpList P ops Q (ops.toList.drop n) a w

def J (ops : Array Oper) (n : Nat) (a0 : Act) (w0 : World) (H0 : Hp) (Γ : List Rel) (listed : Array Bool) (a : Act) (w : World) : Prop :=
  ∃ H, Grow w0 H0 w H ∧ (∀ (j : Nat) (R : Rel), listed.getD j false = true → Γ[j]? = some R → R (dstv ops a j) w H) ∧ OutSame ops n a0 a ∧ listed.size = ops.size ∧ (∀ j, n ≤ j → listed.getD j false = false) ∧ ∀ (j : Nat) (o : Oper), listed.getD j false = true → ops[j]? = some o → ∀ k, waits o k = true → listed.getD k false = true

theorem Oper.wp_post {o : Oper} {a : Act} {w : World} {K K' : Act → World → Prop} (h : ∀ a w, K a w → K' a w) (hh : o.wp P a w K NoQ) : o.wp P a w K' Q := by
  unfold Oper.wp at *
  generalize (execOp a.eval o).run P w = r at *
  cases r with
  | ok n w' =>
    cases n <;> simp only [Oper.upon] at hh ⊢
    case value u => exact h _ _ hh
    case skip => exact h _ _ hh
    case defer d => exact h _ _ hh
    case enter f args =>
      refine Calls.mono hh fun e w'' he => ?_
      cases e with
      | returned u => exact h _ _ he
      | panicked c => exact he.elim
      | outgrown => obtain ⟨_, _, hf⟩ := he; exact hf.elim
    case row row args => exact Rows.mono hh (fun _ _ he => h _ _ he)
  | halt x w' => cases x <;> simp only [Oper.upon] at hh ⊢ <;> exact hh.elim

theorem getD_of_set {listed : Array Bool} {i j : Nat} (h : (listed.setIfInBounds i true).getD j false = true) : j = i ∨ listed.getD j false = true := by
  by_cases hij : i = j
  · exact .inl hij.symm
  · right; rw [getD_set_ne false hij] at h; exact h

/-- How many are still to come. -/
def leftN (listed : Array Bool) : Nat := listed.toList.countP (fun b => !b)
theorem leftN_set {listed : Array Bool} {i : Nat} (hi : i < listed.size) (h : listed.getD i false = false) : leftN (listed.setIfInBounds i true) + 1 = leftN listed := by
  unfold leftN
  have h1 : listed[i]'hi = false := by simpa [hi] using h
  rw [Array.toList_setIfInBounds]
  have h2 : i < listed.toList.length := by simpa using hi
  have h3 : listed.toList[i] = false := by simpa using h1
  rw [List.set_eq_take_append_cons_drop, if_pos h2]
  have h4 : listed.toList = listed.toList.take i ++ listed.toList[i] :: listed.toList.drop (i + 1) := by rw [← List.drop_eq_getElem_cons h2, List.take_append_drop]
  have h5 : listed.toList.countP (fun b => !b) = (listed.toList.take i ++ listed.toList[i] :: listed.toList.drop (i + 1)).countP (fun b => !b) := by rw [← h4]
  rw [h5, h3]
  simp [List.countP_append, List.countP_cons]
  omega
theorem leftN_zero {listed : Array Bool} (h : leftN listed = 0) (j : Nat) (hj : j < listed.size) : listed.getD j false = true := by
  unfold leftN at h
  rw [List.countP_eq_zero] at h
  have := h (listed[j]) (by simp)
  simp [hj] at this ⊢
  exact this
theorem leftN_pos {listed : Array Bool} {i : Nat} (hi : i < listed.size) (h : listed.getD i false = false) : 0 < leftN listed := by
  have := leftN_set hi h; omega

/-- What an operation waits for. -/
def wl (o : Oper) : List Nat := o.after.toList.filterMap fun e => if Region.binds .any e = true then some e.on else none
/-- .. and those that they wait for, down from k. -/
def downs (ops : Array Oper) : Nat → List Nat → List Nat
  | 0, acc => acc
  | k + 1, acc => downs ops k (if acc.contains k = true then (match ops[k]? with | some o => wl o ++ acc | none => acc) else acc)
theorem wl_spec {o : Oper} {j : Nat} (h : j ∈ wl o) : waits o j = true := by
  unfold wl at h
  obtain ⟨e, he, h⟩ := List.mem_filterMap.1 h
  split at h
  · rename_i hb
    cases h
    unfold waits
    rw [List.any_eq_true]
    exact ⟨e, he, by simp [hb]⟩
  · cases h
theorem downs_spec {ops : Array Oper} {P : Nat → Prop} (hP : ∀ k o, P k → ops[k]? = some o → ∀ j, waits o j = true → P j) : ∀ (k : Nat) (acc : List Nat), (∀ j ∈ acc, P j) → ∀ j ∈ downs ops k acc, P j
  | 0, _, h, j, hj => h j hj
  | k + 1, acc, h, j, hj => by
    refine downs_spec hP k _ (fun i hi => ?_) j hj
    split at hi
    · rename_i hc
      split at hi
      · rename_i o ho
        rcases List.mem_append.1 hi with hi | hi
        · exact hP k o (h k (by simpa using hc)) ho i (wl_spec hi)
        · exact h i hi
      · exact h i hi
    · exact h i hi
/-- The closed facts on a region: n operations in front, then those that come in their order; fl: the floats. -/
def agChk (ops : Array Oper) (n : Nat) (fl : List Nat) : Bool :=
  Region.noSelect ops && decide (n ≤ ops.size) &&
  (List.range ops.size).all (fun i => match ops[i]? with
    | some o => o.after.all (fun e => !Region.binds .any e || decide (e.on < i)) &&
      (decide (i < n) || (List.range i).all (fun j => (decide (j < n) && fl.contains j) || waits o j || (decide (n ≤ j) && (List.range i).any (fun k => decide (j < k) && waits o k)) || (decide (j < n) && (downs ops i (wl o)).contains j)))
    | none => false) &&
  (List.range n).all (fun i => (List.range n).all (fun j => decide (i = j) || match (ops[i]?).bind (·.dst) with | some d => (ops[j]?).bind (·.dst) != some d | none => true)) &&
  fl.all (fun f => decide (f < n) && match ops[f]? with
    | some o => o.after.all (fun e => !Region.binds .any e || !fl.contains e.on) &&
      (List.range ops.size).all (fun j => decide (j = f) || waits o j || match ops[j]? with | some oj => waits oj f || o.apart ops oj | none => true)
    | none => false)

theorem dstv_put_same {a : Act} {i : Nat} {o : Oper} {v : Value} (hi : ops[i]? = some o) (hsz : ∀ d, o.dst = some d → d < a.tmps.size) (hd : o.dst ≠ none) : dstv ops (a.put o.dst v) i = v := by
  unfold dstv
  rw [hi]
  cases ho : o.dst with
  | none => exact absurd ho hd
  | some d =>
    have := hsz d ho
    simp [Act.put, Act.eval, ho, this]

theorem wpAny_of_list (hed : ∀ i o, ops[i]? = some o → ∀ e ∈ o.after, Region.binds .any e = true → e.on < i) (hsuf : ∀ i o, n ≤ i → ops[i]? = some o → ∀ j, n ≤ j → j < i → ∃ k, j ≤ k ∧ waits o k = true) :
    ∀ (m k : Nat) (listed : Array Bool) (a : Act) (w : World), n ≤ k → k + m = ops.size → listed.size = ops.size → (∀ j, j < k → listed.getD j false = true) → (∀ j, k ≤ j → listed.getD j false = false) →
    wpList P ops Q (ops.toList.drop k) a w → wpAny P .any ops Q m listed a w := by
  intro m
  induction m with
  | zero =>
    intro k listed a w _ hk hsz hl _ h
    have h0 : ops.toList.drop k = [] := List.drop_eq_nil_of_le (by simp; omega)
    rw [h0] at h
    refine ⟨?_, h⟩
    rw [List.eq_nil_iff_forall_not_mem]
    intro j hj
    obtain ⟨h1, o, ho, _⟩ := mem_ready.1 hj
    have hlt : j < ops.size := (Array.getElem?_eq_some_iff.1 ho).1
    have h2 := hl j (by omega)
    have hjl : j < listed.size := by omega
    simp [hjl] at h1 h2
    rw [h1] at h2; cases h2
  | succ m ih =>
    intro k listed a w hnk hk hsz hl hu h
    have hlt : k < ops.size := by omega
    have hkl : k < listed.size := by omega
    obtain ⟨o, ho⟩ : ∃ o, ops[k]? = some o := ⟨ops[k], by simp [hlt]⟩
    have hdrop : ops.toList.drop k = o :: ops.toList.drop (k + 1) := by
      have h1 : k < ops.toList.length := by simpa using hlt
      rw [List.drop_eq_getElem_cons h1]
      congr 1
      have : ops.toList[k]? = some o := by simpa using ho
      rw [List.getElem?_eq_getElem h1] at this
      exact Option.some.inj this
    have hkr : k ∈ Region.ready .any ops listed := mem_ready.2 ⟨by have := hu k (Nat.le_refl _); simp [hkl] at this ⊢; exact this, o, ho, fun e he hb => hl _ (hed k o ho e he hb)⟩
    refine ⟨fun h0 => (by rw [h0] at hkr; cases hkr), fun i hi => ?_⟩
    obtain ⟨h1, oi, hoi, hall⟩ := mem_ready.1 hi
    have hilt : i < ops.size := (Array.getElem?_eq_some_iff.1 hoi).1
    have hil : i < listed.size := by omega
    have hik : i = k := by
      rcases Nat.lt_trichotomy i k with h2 | h2 | h2
      · have := hl i h2; simp [hil] at h1 this; rw [h1] at this; cases this
      · exact h2
      · have h3 := hsuf i oi (by omega) hoi k hnk h2
        obtain ⟨k', hk', h3⟩ := h3
        unfold waits at h3
        rw [List.any_eq_true] at h3
        obtain ⟨e, he, h4⟩ := h3
        simp only [Bool.and_eq_true, beq_iff_eq] at h4
        have h5 := hall e (by simpa using he) h4.2
        rw [h4.1, hu k' hk'] at h5
        cases h5
    subst hik
    rw [hdrop] at h
    unfold wpOp
    rw [ho]
    unfold wpList at h
    have hnext : ∀ a w, wpList P ops Q (ops.toList.drop (i + 1)) a w → wpAny P .any ops Q m (listed.setIfInBounds i true) a w := fun a w h => by
      refine ih (i + 1) _ a w (by omega) (by omega) (by simpa using hsz) (fun j hj => ?_) (fun j hj => ?_) h
      · by_cases e : i = j
        · subst e; simp [hkl]
        · rw [getD_set_ne false e]; exact hl j (by omega)
      · rw [getD_set_ne false (by omega)]; exact hu j (by omega)
    simp only
    split
    · rename_i hw
      rw [if_pos hw] at h
      exact h.imp (Oper.wp_mono hnext) id
    · rename_i hw
      rw [if_neg hw] at h
      exact hnext _ _ h

structure AgFacts (ops : Array Oper) (n : Nat) (fl : List Nat) : Prop where
  sel : Region.noSelect ops = true
  le : n ≤ ops.size
  ed : ∀ i o, ops[i]? = some o → ∀ e ∈ o.after, Region.binds .any e = true → e.on < i
  suf : ∀ i o, n ≤ i → ops[i]? = some o → ∀ j, j < i → (j < n ∧ j ∈ fl) ∨ waits o j = true ∨ (n ≤ j ∧ ∃ k, j < k ∧ k < i ∧ waits o k = true) ∨ (j < n ∧ j ∈ downs ops i (wl o))
  dst : ∀ i j, i < n → j < n → i ≠ j → ∀ d, (ops[i]?).bind (·.dst) = some d → (ops[j]?).bind (·.dst) ≠ some d
  fl : ∀ f, f ∈ fl → f < n ∧ ∃ o, ops[f]? = some o ∧ (∀ e ∈ o.after, Region.binds .any e = true → e.on ∉ fl) ∧ ∀ j oj, ops[j]? = some oj → j ≠ f → waits o j = true ∨ waits oj f = true ∨ o.apart ops oj = true

theorem agChk_spec {fl : List Nat} (h : agChk ops n fl = true) : AgFacts ops n fl := by
  unfold agChk at h
  simp only [Bool.and_eq_true, decide_eq_true_eq, List.all_eq_true, List.mem_range] at h
  obtain ⟨⟨⟨⟨h1, h2⟩, h3⟩, h4⟩, h5⟩ := h
  refine ⟨h1, h2, ?_, ?_, ?_, ?_⟩
  · intro i o ho e he hb
    have hlt : i < ops.size := (Array.getElem?_eq_some_iff.1 ho).1
    have h6 := h3 i hlt
    rw [ho] at h6
    simp only [Bool.and_eq_true] at h6
    have h7 := h6.1
    rw [Array.all_eq_true_iff_forall_mem] at h7
    have h8 := h7 e he
    rw [hb] at h8
    simpa using h8
  · intro i o hi ho j hj
    have hlt : i < ops.size := (Array.getElem?_eq_some_iff.1 ho).1
    have h6 := h3 i hlt
    rw [ho] at h6
    simp only [Bool.and_eq_true, Bool.or_eq_true, decide_eq_true_eq, List.all_eq_true, List.mem_range] at h6
    rcases h6.2 with h7 | h7
    · omega
    · rcases h7 j hj with ((⟨a, b⟩ | b) | ⟨a, b⟩) | ⟨a, b⟩
      · exact .inl ⟨a, by simpa using b⟩
      · exact .inr (.inl b)
      · rw [List.any_eq_true] at b
        obtain ⟨k, hk, b⟩ := b
        simp only [Bool.and_eq_true, decide_eq_true_eq] at b
        exact .inr (.inr (.inl ⟨a, k, b.1, by simpa using hk, b.2⟩))
      · exact .inr (.inr (.inr ⟨a, by simpa using b⟩))
  · intro i j hi hj hne d hd
    have h6 := h4 i hi j hj
    rw [hd] at h6
    simp only [Bool.or_eq_true, decide_eq_true_eq] at h6
    rcases h6 with h6 | h6
    · exact absurd h6 hne
    · simpa using h6
  · intro f hf
    have h6 := h5 f hf
    refine ⟨h6.1, ?_⟩
    cases ho : ops[f]? with
    | none => rw [ho] at h6; simp at h6
    | some o =>
      rw [ho] at h6
      simp only [Bool.and_eq_true, List.all_eq_true, List.mem_range, Bool.or_eq_true, decide_eq_true_eq] at h6
      refine ⟨o, rfl, fun e he hb => ?_, fun j oj hoj hne => ?_⟩
      · have h7 := h6.2.1
        rw [Array.all_eq_true_iff_forall_mem] at h7
        have h8 := h7 e he
        rw [hb] at h8
        simpa using h8
      · have hlt : j < ops.size := (Array.getElem?_eq_some_iff.1 hoj).1
        have h7 := h6.2.2 j hlt
        rw [hoj] at h7
        simp only [Bool.or_eq_true] at h7
        rcases h7 with (h7 | h7) | (h7 | h7)
        · exact absurd h7 hne
        · exact .inl h7
        · exact .inr (.inl h7)
        · exact .inr (.inr h7)

theorem waits_spec {o : Oper} {j : Nat} (h : waits o j = true) : ∃ e ∈ o.after, Region.binds .any e = true ∧ e.on = j := by
  unfold waits at h
  rw [List.any_eq_true] at h
  obtain ⟨e, he, h4⟩ := h
  simp only [Bool.and_eq_true, beq_iff_eq] at h4
  exact ⟨e, by simpa using he, h4.2, h4.1⟩
theorem waits_mk {o : Oper} {e : Edge} (he : e ∈ o.after) (hb : Region.binds .any e = true) : waits o e.on = true := by
  unfold waits
  rw [List.any_eq_true]
  exact ⟨e, by simpa using he, by simp [hb]⟩

theorem ag_any {fl : List Nat} {Γ : List Rel} (hf : AgFacts ops n fl) (hlen : Γ.length = n) (hk : ∀ (j : Nat) (R : Rel), Γ[j]? = some R → Keeps R)
    (hob : ∀ (j : Nat) (o : Oper) (R : Rel), Γ[j]? = some R → ops[j]? = some o → j ∉ fl → Obl P ops n a0 w0 H0 Γ o R)
    (hfo : ∀ (j : Nat) (o : Oper) (R : Rel), Γ[j]? = some R → ops[j]? = some o → j ∈ fl → FObl P ops n a0 w0 H0 Γ o R)
    (hQ : ∀ c a (d : Tmp) v w, Q (.panic c) (Act.put a (some d) v) w → Q (.panic c) a w)
    (hsz : ∀ (i : Nat) (o : Oper) d, ops[i]? = some o → o.dst = some d → d < a0.tmps.size)
    (hdn : ∀ (i : Nat) (o : Oper), i < n → ops[i]? = some o → o.dst ≠ none)
    (hfin : ∀ a w H, Grow w0 H0 w H → (∀ (j : Nat) (R : Rel), Γ[j]? = some R → R (dstv ops a j) w H) → OutSame ops n a0 a → wpList P ops Q (ops.toList.drop n) a w) :
    ∀ (fuel : Nat) (listed : Array Bool) (a : Act) (w : World), leftN listed = fuel → J ops n a0 w0 H0 Γ listed a w → wpAny P .any ops Q fuel listed a w := by
  have hput : ∀ {listed : Array Bool} {a : Act} {w w' : World} {H H' : Hp} {i : Nat} {o : Oper} {v : Value} {R : Rel}, Sub H w → i < n → ops[i]? = some o → Γ[i]? = some R → listed.getD i false = false →
      Grow w0 H0 w H → (∀ (j : Nat) (R : Rel), listed.getD j false = true → Γ[j]? = some R → R (dstv ops a j) w H) → OutSame ops n a0 a → listed.size = ops.size → (∀ j, n ≤ j → listed.getD j false = false) → (∀ (j : Nat) (o : Oper), listed.getD j false = true → ops[j]? = some o → ∀ k, waits o k = true → listed.getD k false = true) → (∀ k, waits o k = true → listed.getD k false = true) →
      Grow w H w' H' → R v w' H' → J ops n a0 w0 H0 Γ (listed.setIfInBounds i true) (a.put o.dst v) w' := by
    intro listed a w w' H H' i o v R hsub hi ho hR hun hg hrel hsame hls hnl hcl hwl hg' hv
    have hdo := hdn i o hi ho
    obtain ⟨d, hd⟩ : ∃ d, o.dst = some d := by cases h : o.dst with | none => exact absurd h hdo | some d => exact ⟨d, rfl⟩
    have hup : ∀ k, listed.getD k false = true → (listed.setIfInBounds i true).getD k false = true := fun k hk => by
      by_cases e : i = k
      · subst e; rw [hun] at hk; cases hk
      · rw [getD_set_ne false e]; exact hk
    refine ⟨H', hg.trans hg', ?_, ?_, by simpa using hls, ?_, fun j oj hj hoj k hk => ?_⟩
    · intro j R' hj hR'
      by_cases hji : j = i
      · subst hji
        rw [hR] at hR'; cases hR'
        rw [dstv_put_same ho (fun d' hd' => by rw [hsame.2.1]; exact hsz j o d' ho hd') hdo]
        exact hv
      · have hj2 : listed.getD j false = true := by rcases getD_of_set hj with h | h; exact absurd h hji; exact h
        have hjn : j < n := by
          rcases Nat.lt_or_ge j n with h | h
          · exact h
          · rw [hnl j h] at hj2; cases hj2
        have hne : dstv ops (a.put o.dst v) j = dstv ops a j := by
          unfold dstv
          cases hdj : (ops[j]?).bind (·.dst) with
          | none => rfl
          | some t =>
            have h1 : d ≠ t := fun e => by
              subst e
              exact hf.dst j i hjn hi hji d hdj (by rw [ho]; exact hd)
            simp only
            exact Act.eval_put (fun d' hd' e => by rw [hd] at hd'; cases hd'; cases e; exact h1 rfl)
        rw [hne]
        exact hk j R' hR' _ _ _ _ _ (hrel j R' hj2 hR') hg' hsub
    · refine ⟨by rw [← hsame.1, hd]; rfl, by rw [← hsame.2.1, hd]; simp [Act.put], fun t ht => ?_⟩
      rw [← hsame.2.2 t ht, hd]
      have h1 : d ≠ t := fun e => by
        subst e
        unfold noDst at ht
        rw [List.all_eq_true] at ht
        have h2 : o ∈ ops.toList.take n := by
          rw [List.mem_take_iff_getElem]
          have hlt : i < ops.size := (Array.getElem?_eq_some_iff.1 ho).1
          refine ⟨i, by simp; omega, ?_⟩
          have : ops.toList[i]? = some o := by simpa using ho
          rw [List.getElem?_eq_getElem (by simpa using hlt)] at this
          exact Option.some.inj this
        have := ht o h2
        rw [hd] at this
        simp at this
      simp [Act.put, Array.getElem?_setIfInBounds_ne h1]
    · intro j hj
      rw [getD_set_ne false (by omega)]
      exact hnl j hj
    · rcases getD_of_set hj with rfl | hj
      · rw [ho] at hoj; cases hoj
        exact hup k (hwl k hk)
      · exact hup k (hcl j oj hj hoj k hk)
  intro fuel
  induction fuel with
  | zero =>
    intro listed a w hl ⟨H, hg, hrel, hsame, hls, hnl, _⟩
    have hall : ∀ j, j < ops.size → listed.getD j false = true := fun j hj => leftN_zero hl j (by omega)
    have hn : n = ops.size := by
      rcases Nat.lt_or_ge n ops.size with h | h
      · have h1 := hall n h; rw [hnl n (Nat.le_refl _)] at h1; cases h1
      · have := hf.le; omega
    refine wpAny_of_list (n := n) hf.ed (fun i o hi ho j hnj hj => by rcases hf.suf i o hi ho j hj with h | h | ⟨_, k, h1, _, h2⟩ | h; exact absurd h.1 (by omega); exact ⟨j, Nat.le_refl _, h⟩; exact ⟨k, by omega, h2⟩; exact absurd h.1 (by omega)) 0 n listed a w (Nat.le_refl _) (by omega) hls (fun j hj => hall j (by omega)) hnl ?_
    exact hfin a w H hg (fun j R hR => hrel j R (hall j (by have := (List.getElem?_eq_some_iff.1 hR).1; omega)) hR) hsame
  | succ fuel ih =>
    intro listed a w hl hJ
    have hJ0 := hJ
    obtain ⟨H, hg, hrel, hsame, hls, hnl, hcl⟩ := hJ
    have hsub := hg.sub
    have hun : ∀ i, i ∈ Region.ready .any ops listed → i < ops.size ∧ listed.getD i false = false := fun i hi => by
      obtain ⟨h1, oi, hoi, _⟩ := mem_ready.1 hi
      have hlt : i < ops.size := (Array.getElem?_eq_some_iff.1 hoi).1
      have : i < listed.size := by omega
      refine ⟨hlt, ?_⟩
      simp [this] at h1 ⊢; exact h1
    have hpre : ∀ i o, ops[i]? = some o → i ∈ Region.ready .any ops listed → Preds ops Γ o a w H := fun i o ho hi j R hw hR => by
      obtain ⟨_, oi, hoi, hall⟩ := mem_ready.1 hi
      rw [ho] at hoi; cases hoi
      obtain ⟨e, he, hb, rfl⟩ := waits_spec hw
      exact hrel _ R (hall e he hb) hR
    have hrw : ∀ i o, ops[i]? = some o → i ∈ Region.ready .any ops listed → ∀ k, waits o k = true → listed.getD k false = true := fun i o ho hi k hw => by
      obtain ⟨_, oi, hoi, hall⟩ := mem_ready.1 hi
      rw [ho] at hoi; cases hoi
      obtain ⟨e, he, hb, rfl⟩ := waits_spec hw
      exact hall e he hb
    by_cases hflo : ∃ f, f ∈ fl ∧ f ∈ Region.ready .any ops listed
    · obtain ⟨f, hf1, hf2⟩ := hflo
      obtain ⟨hfn, o, ho, hfl1, hfl2⟩ := hf.fl f hf1
      obtain ⟨hlt, hunf⟩ := hun f hf2
      obtain ⟨R, hR⟩ : ∃ R, Γ[f]? = some R := ⟨Γ[f]'(by omega), by simp⟩
      obtain ⟨v, hy, hv⟩ := hfo f o R hR ho hf1 a w H hg (hpre f o ho hf2) hsame
      refine wpAny_first ho (Region.noSelect_spec hf.sel) (fun c a w h => by obtain ⟨d, hd⟩ := Option.ne_none_iff_exists'.1 (hdn f o hfn ho); rw [hd] at h; exact hQ c a d _ w h) fuel listed a w ?_ hf2 hy (ih _ _ _ ?_ (hput hsub hfn ho hR hunf hg hrel hsame hls hnl hcl (hrw f o ho hf2) (Grow.refl hsub) hv))
      · intro j oj hoj hne hunj hnw
        rcases hfl2 j oj hoj hne with h | h | h
        · obtain ⟨e, he, hb, rfl⟩ := waits_spec h
          obtain ⟨_, oi, hoi, hall⟩ := mem_ready.1 hf2
          rw [ho] at hoi; cases hoi
          have h2 := hall e he hb
          have h3 : e.on < listed.size := by
            rcases Nat.lt_or_ge e.on listed.size with h4 | h4
            · exact h4
            · simp [Array.getElem?_eq_none h4] at h2
          simp [h3] at h2 hunj
          rw [h2] at hunj; cases hunj
        · obtain ⟨e, he, hb, he2⟩ := waits_spec h
          exact absurd he2 (hnw e he hb)
        · exact h
      · have := leftN_set (listed := listed) (by omega) hunf
        omega
    · have hready : ∀ i o, ops[i]? = some o → listed.getD i false = false → (∀ j, j < i → listed.getD j false = true) → i ∈ Region.ready .any ops listed := fun i o ho hi hj => by
        have hlt : i < ops.size := (Array.getElem?_eq_some_iff.1 ho).1
        have : i < listed.size := by omega
        exact mem_ready.2 ⟨by simp [this] at hi ⊢; exact hi, o, ho, fun e he hb => hj _ (hf.ed i o ho e he hb)⟩
      refine ⟨fun h0 => ?_, fun i hi => ?_⟩
      · exfalso
        have hex : ∃ i, i < ops.size ∧ listed.getD i false = false := by
          by_cases h : ∃ i, i < ops.size ∧ listed.getD i false = false
          · exact h
          · exfalso
            have hall : ∀ b ∈ listed.toList, (!b) = false := fun b hb => by
              obtain ⟨i, hi, rfl⟩ := List.mem_iff_getElem.1 hb
              have hi2 : i < listed.size := by simpa using hi
              cases hc : listed[i] with
              | true => simp [hc]
              | false => exact absurd ⟨i, by omega, by simp [hi2, hc]⟩ h
            have : leftN listed = 0 := by
              unfold leftN
              rw [List.countP_eq_zero]
              intro b hb
              simp [hall b hb]
            omega
        have hmin : ∀ m i, i < m → i < ops.size → listed.getD i false = false → ∃ k, k < ops.size ∧ listed.getD k false = false ∧ ∀ j, j < k → listed.getD j false = true := by
          intro m
          induction m with
          | zero => intro i h; omega
          | succ m ihm =>
            intro i him hi hif
            by_cases h : ∃ j, j < i ∧ listed.getD j false = false
            · obtain ⟨j, hj, hjf⟩ := h
              exact ihm j (by omega) (by omega) hjf
            · refine ⟨i, hi, hif, fun j hj => ?_⟩
              cases hc : listed.getD j false with
              | true => rfl
              | false => exact absurd ⟨j, hj, hc⟩ h
        obtain ⟨i, hi, hif⟩ := hex
        obtain ⟨k, hk1, hk2, hk3⟩ := hmin (i + 1) i (by omega) hi hif
        have := hready k ops[k] (by simp [hk1]) hk2 hk3
        rw [h0] at this; cases this
      · obtain ⟨hlt, huni⟩ := hun i hi
        obtain ⟨o, ho⟩ : ∃ o, ops[i]? = some o := ⟨ops[i], by simp [hlt]⟩
        by_cases hin : i < n
        · have hnf : i ∉ fl := fun h => hflo ⟨i, h, hi⟩
          obtain ⟨R, hR⟩ : ∃ R, Γ[i]? = some R := ⟨Γ[i]'(by omega), by simp⟩
          have hO := hob i o R hR ho hnf a w H hg (hpre i o ho hi) hsame
          unfold wpOp
          rw [ho]
          simp only
          have hln := leftN_set (listed := listed) (i := i) (by omega) huni
          split
          · rename_i hw
            rw [if_pos hw] at hO
            refine .inl (Oper.wp_post ?_ hO)
            rintro a' w' ⟨v, H', rfl, hg', hv⟩
            exact ih _ _ _ (by omega) (hput hsub hin ho hR huni hg hrel hsame hls hnl hcl (hrw i o ho hi) hg' hv)
          · rename_i hw
            rw [if_neg hw] at hO
            exact ih _ _ _ (by omega) (hput hsub hin ho hR huni hg hrel hsame hls hnl hcl (hrw i o ho hi) (Grow.refl hsub) hO)
        · have hallj : ∀ j, j < i → listed.getD j false = true := fun j hj => by
            have hno : ∀ k, n ≤ k → waits o k = true → False := fun k hk hw => by
              obtain ⟨e2, he2, hb2, h5⟩ := waits_spec hw
              obtain ⟨_, oi, hoi, hall⟩ := mem_ready.1 hi
              rw [ho] at hoi; cases hoi
              have h6 := hall e2 he2 hb2
              rw [h5, hnl k hk] at h6; cases h6
            have hdn : ∀ j, j ∈ downs ops i (wl o) → listed.getD j false = true := downs_spec (P := fun k => listed.getD k false = true) (fun k ok hk hok j hw => hcl k ok hk hok j hw) i _ (fun j hj => hrw i o ho hi j (wl_spec hj))
            rcases hf.suf i o (by omega) ho j hj with ⟨h1, h2⟩ | h | ⟨h1, k, h2, _, h3⟩ | ⟨_, h⟩
            · cases hc : listed.getD j false with
              | true => rfl
              | false =>
                exfalso
                obtain ⟨_, oj, hoj, hj1, _⟩ := hf.fl j h2
                have hjs : j < listed.size := by omega
                refine hflo ⟨j, h2, mem_ready.2 ⟨by simp [hjs] at hc ⊢; exact hc, oj, hoj, fun e he hb => ?_⟩⟩
                have h3 := hf.ed j oj hoj e he hb
                rcases hf.suf i o (by omega) ho e.on (by omega) with ⟨_, h4⟩ | h4 | ⟨h4, k, h6, _, h7⟩ | ⟨_, h4⟩
                · exact absurd h4 (hj1 e he hb)
                · obtain ⟨e2, he2, hb2, h5⟩ := waits_spec h4
                  obtain ⟨_, oi, hoi, hall⟩ := mem_ready.1 hi
                  rw [ho] at hoi; cases hoi
                  rw [← h5]; exact hall e2 he2 hb2
                · exact (hno k (by omega) h7).elim
                · exact hdn _ h4
            · obtain ⟨e2, he2, hb2, h5⟩ := waits_spec h
              obtain ⟨_, oi, hoi, hall⟩ := mem_ready.1 hi
              rw [ho] at hoi; cases hoi
              rw [← h5]; exact hall e2 he2 hb2
            · exact (hno k (by omega) h3).elim
            · exact hdn _ h
          have hi_n : i = n := by
            rcases Nat.lt_or_ge n i with h | h
            · have := hallj n h; rw [hnl n (Nat.le_refl _)] at this; cases this
            · omega
          subst hi_n
          have hcnt : leftN listed = ops.size - i := by
            have : ∀ (m : Nat) (l : List Bool), (∀ j b, l[j]? = some b → (j < m → b = true) ∧ (m ≤ j → b = false)) → l.countP (fun b => !b) = l.length - m := by
              intro m l
              induction l generalizing m with
              | nil => intro _; simp
              | cons b r ihr =>
                intro h
                cases m with
                | zero =>
                  have h1 := (h 0 b rfl).2 (by omega)
                  have h2 := ihr 0 (fun j c hj => ⟨fun h => by omega, fun _ => (h (j + 1) c (by simpa using hj)).2 (by omega)⟩)
                  rw [List.countP_cons, h2, h1]; simp
                | succ m =>
                  have h1 := (h 0 b rfl).1 (by omega)
                  have h2 := ihr m (fun j c hj => ⟨fun hh => (h (j + 1) c (by simpa using hj)).1 (by omega), fun hh => (h (j + 1) c (by simpa using hj)).2 (by omega)⟩)
                  rw [List.countP_cons, h2, h1]; simp
            unfold leftN
            rw [this i listed.toList]
            · simp [hls]
            · intro j b hj
              have hj' : listed[j]? = some b := by simpa using hj
              refine ⟨fun h => ?_, fun h => ?_⟩
              · have := hallj j h; rw [Array.getD_eq_getD_getElem?, hj'] at this; simpa using this
              · have := hnl j h; rw [Array.getD_eq_getD_getElem?, hj'] at this; simpa using this
          have hW := wpAny_of_list (P := P) (Q := Q) (n := i) hf.ed (fun i' o' hi' ho' j hj1 hj2 => by rcases hf.suf i' o' hi' ho' j hj2 with h | h | ⟨_, k, h1, _, h2⟩ | h; exact absurd h.1 (by omega); exact ⟨j, Nat.le_refl _, h⟩; exact ⟨k, by omega, h2⟩; exact absurd h.1 (by omega)) (fuel + 1) i listed a w (Nat.le_refl _) (by omega) hls hallj hnl
            (hfin a w H hg (fun j R hR => hrel j R (hallj j (by have := (List.getElem?_eq_some_iff.1 hR).1; omega)) hR) hsame)
          exact hW.2 i hi

/-- The obligations, one operation behind the other, each with what is known of those before it. -/
def AGL (P : Program) (ops : Array Oper) (Q : Exit → Act → World → Prop) (n : Nat) (fl : List Nat) (a0 : Act) (w0 : World) (H0 : Hp) : List Rel → List Oper → Prop
  | Γ, [] => ∀ W H, Grow w0 H0 W H → FinL P ops Q n W H (ops.toList.take n) Γ a0
  | Γ, o :: rest => ∃ R, Keeps R ∧ (if fl.contains Γ.length = true then FObl P ops n a0 w0 H0 Γ o R else Obl P ops n a0 w0 H0 Γ o R) ∧ AGL P ops Q n fl a0 w0 H0 (Γ ++ [R]) rest

def putsL (ops : Array Oper) (a : Act) : List Oper → Nat → Act → Act
  | [], _, b => b
  | o :: os, k, b => putsL ops a os (k + 1) (b.put o.dst (dstv ops a k))

theorem putsL_eq (a : Act) : ∀ (os : List Oper) (k : Nat) (b : Act), (∀ j, os[j]? = none ∨ os[j]? = ops[k + j]?) → b.defers = a.defers → b.tmps.size = a.tmps.size →
    (∀ t : Nat, b.tmps[t]? = a.tmps[t]? ∨ ∃ o ∈ os, o.dst = some t) → putsL ops a os k b = a
  | [], k, b, _, hd, hs, ht => by
    have : b.tmps = a.tmps := Array.ext_getElem? fun t => (ht t).resolve_right (by simp)
    cases b; cases a; simp_all [putsL]
  | o :: os, k, b, hos, hd, hs, ht => by
    have ho : ops[k]? = some o := by
      rcases hos 0 with h | h
      · simp at h
      · simpa using h.symm
    refine putsL_eq a os (k + 1) _ (fun j => ?_) ?_ ?_ (fun t => ?_)
    · rcases hos (j + 1) with h | h
      · exact .inl (by simpa using h)
      · exact .inr (by simpa [Nat.add_assoc, Nat.add_comm 1 j] using h)
    · cases o.dst <;> exact hd
    · cases o.dst <;> simpa [Act.put] using hs
    · cases hdst : o.dst with
      | none =>
        rcases ht t with h | ⟨o', ho', h⟩
        · exact .inl h
        · rcases List.mem_cons.1 ho' with rfl | hm
          · rw [hdst] at h; cases h
          · exact .inr ⟨o', hm, h⟩
      | some d =>
        by_cases hdt : d = t
        · subst hdt
          left
          unfold dstv
          rw [ho]
          simp only [Option.bind_some, hdst, Act.put, Act.eval]
          rw [Array.getElem?_setIfInBounds]
          by_cases hlt : d < a.tmps.size
          · simp [hs, hlt]
          · simp [hs, hlt]
        · rcases ht t with h | ⟨o', ho', h⟩
          · left; simp only [Act.put]; rw [Array.getElem?_setIfInBounds_ne hdt]; exact h
          · rcases List.mem_cons.1 ho' with rfl | hm
            · rw [hdst] at h; cases h; exact absurd rfl hdt
            · exact .inr ⟨o', hm, h⟩

theorem FinL_puts {w : World} {H : Hp} (a : Act) : ∀ (os : List Oper) (Rs : List Rel) (k : Nat) (b : Act), os.length = Rs.length → (∀ (j : Nat) (R : Rel), Rs[j]? = some R → R (dstv ops a (k + j)) w H) → FinL P ops Q n w H os Rs b →
    wpList P ops Q (ops.toList.drop n) (putsL ops a os k b) w
  | [], [], _, _, _, _, h => h
  | o :: os, R :: Rs, k, b, hl, hr, h => FinL_puts a os Rs (k + 1) _ (by simpa using hl) (fun j R' hR' => by have := hr (j + 1) R' (by simpa using hR'); simpa [Nat.add_assoc, Nat.add_comm 1 j] using this) (h _ (hr 0 R (by simp)))
  | [], _ :: _, _, _, hl, _, _ => by simp at hl
  | _ :: _, [], _, _, hl, _, _ => by simp at hl

theorem AGL_spec {fl : List Nat} : ∀ (rest : List Oper) (Γ : List Rel), (∀ j, rest[j]? = none ∨ rest[j]? = ops[Γ.length + j]?) → AGL P ops Q n fl a0 w0 H0 Γ rest → (∀ (j : Nat) (R : Rel), Γ[j]? = some R → Keeps R) →
    (∀ (j : Nat) (o : Oper) (R : Rel), Γ[j]? = some R → ops[j]? = some o → if fl.contains j = true then FObl P ops n a0 w0 H0 Γ o R else Obl P ops n a0 w0 H0 Γ o R) →
    ∃ Γ', Γ'.length = Γ.length + rest.length ∧ (∀ (j : Nat) (R : Rel), Γ'[j]? = some R → Keeps R) ∧
      (∀ (j : Nat) (o : Oper) (R : Rel), Γ'[j]? = some R → ops[j]? = some o → if fl.contains j = true then FObl P ops n a0 w0 H0 Γ' o R else Obl P ops n a0 w0 H0 Γ' o R) ∧ ∀ W H, Grow w0 H0 W H → FinL P ops Q n W H (ops.toList.take n) Γ' a0
  | [], Γ, _, h, hk, ho => ⟨Γ, by simp, hk, ho, h⟩
  | o :: rest, Γ, hr, ⟨R, hR, hO, h⟩, hk, ho => by
    have hmono : ∀ (o' : Oper) (a : Act) (w : World) (H : Hp), Preds ops (Γ ++ [R]) o' a w H → Preds ops Γ o' a w H := fun o' a w H hp j R' hw hR' => hp j R' hw (by
      rw [List.getElem?_append_left (List.getElem?_eq_some_iff.1 hR').1]; exact hR')
    have hlift : ∀ (o' : Oper) (R' : Rel) (b : Bool), (if b = true then FObl P ops n a0 w0 H0 Γ o' R' else Obl P ops n a0 w0 H0 Γ o' R') → (if b = true then FObl P ops n a0 w0 H0 (Γ ++ [R]) o' R' else Obl P ops n a0 w0 H0 (Γ ++ [R]) o' R') := fun o' R' b hb => by
      cases b with
      | true => simp only [if_true] at hb ⊢; exact fun a w H hg hp hs => hb a w H hg (hmono _ _ _ _ hp) hs
      | false => simp only [Bool.false_eq_true, if_false] at hb ⊢; exact fun a w H hg hp hs => hb a w H hg (hmono _ _ _ _ hp) hs
    have hcase : ∀ (j : Nat) (R' : Rel), (Γ ++ [R])[j]? = some R' → (j < Γ.length ∧ Γ[j]? = some R') ∨ (j = Γ.length ∧ R' = R) := fun j R' hj => by
      rcases Nat.lt_or_ge j Γ.length with h1 | h1
      · rw [List.getElem?_append_left h1] at hj; exact .inl ⟨h1, hj⟩
      · rw [List.getElem?_append_right h1] at hj
        have h2 : j - Γ.length = 0 := by
          have := (List.getElem?_eq_some_iff.1 hj).1; simp at this; omega
        rw [h2] at hj; simp at hj
        exact .inr ⟨by omega, hj.symm⟩
    obtain ⟨Γ', h1, h2, h3, h4⟩ := AGL_spec rest (Γ ++ [R]) (fun j => by
        rcases hr (j + 1) with h | h
        · exact .inl (by simpa using h)
        · exact .inr (by simpa [Nat.add_assoc, Nat.add_comm 1 j] using h)) h
      (fun j R' hj => by rcases hcase j R' hj with ⟨_, h⟩ | ⟨_, rfl⟩; exact hk j R' h; exact hR)
      (fun j o' R' hj ho' => by
        rcases hcase j R' hj with ⟨_, h⟩ | ⟨rfl, rfl⟩
        · exact hlift _ _ _ (ho j o' R' h ho')
        · have : ops[Γ.length]? = some o := by
            rcases hr 0 with h | h
            · simp at h
            · simpa using h.symm
          rw [this] at ho'; cases ho'
          exact hlift _ _ _ hO)
    exact ⟨Γ', by simp [h1]; omega, h2, h3, h4⟩

/-- The closed facts on the slots. -/
def agDst (ops : Array Oper) (n : Nat) (sz : Nat) : Bool := (ops.toList.all fun o => match o.dst with | some d => decide (d < sz) | none => true) && ((ops.toList.take n).all fun o => o.dst.isSome)

theorem agl_wpAny {fl : List Nat} {w : World} (hc : agChk ops n fl = true) (hd : agDst ops n a0.tmps.size = true)
    (hQ : ∀ c a (d : Tmp) v w, Q (.panic c) (Act.put a (some d) v) w → Q (.panic c) a w) (hg : Grow w0 H0 w H0)
    (h : AGL P ops Q n fl a0 w0 H0 [] (ops.toList.take n)) : wpAny P .any ops Q ops.size (Array.replicate ops.size false) a0 w := by
  have hf := agChk_spec hc
  unfold agDst at hd
  simp only [Bool.and_eq_true, List.all_eq_true] at hd
  obtain ⟨hd1, hd2⟩ := hd
  have htake : ∀ j : Nat, (ops.toList.take n)[j]? = none ∨ (ops.toList.take n)[j]? = ops[([] : List Rel).length + j]? := fun j => by
    by_cases hj : j < n
    · right; rw [List.getElem?_take, if_pos hj]; simp
    · left; rw [List.getElem?_take, if_neg hj]
  obtain ⟨Γ, h1, h2, h3, h4⟩ := AGL_spec _ [] htake h (fun j R hj => by simp at hj) (fun j o R hj => by simp at hj)
  have hlen : Γ.length = n := by rw [h1]; simp; have := hf.le; omega
  refine ag_any (a0 := a0) (w0 := w0) (H0 := H0) hf hlen h2 (fun j o R hR ho hfl => ?_) (fun j o R hR ho hfl => ?_) hQ ?_ ?_ ?_ _ _ _ _ ?_ ?_
  · have := h3 j o R hR ho
    rw [if_neg (by simpa using hfl)] at this
    exact this
  · have := h3 j o R hR ho
    rw [if_pos (by simpa using hfl)] at this
    exact this
  · intro i o d ho hdo
    have := hd1 o (by rw [List.mem_iff_getElem?]; exact ⟨i, by simpa using ho⟩)
    rw [hdo] at this
    simpa using this
  · intro i o hi ho hn
    have := hd2 o (by rw [List.mem_iff_getElem?]; exact ⟨i, by rw [List.getElem?_take, if_pos hi]; simpa using ho⟩)
    rw [hn] at this; cases this
  · intro a w' H hg' hr hs
    have hF := h4 w' H hg'
    have hp := FinL_puts (P := P) (Q := Q) (n := n) a (ops.toList.take n) Γ 0 a0 (by rw [hlen]; simp; have := hf.le; omega) (fun j R hR => by rw [Nat.zero_add]; exact hr j R hR) hF
    rw [putsL_eq a _ 0 a0 (fun j => htake j) hs.1.symm hs.2.1.symm (fun t => ?_)] at hp
    · exact hp
    · by_cases ht : noDst ops n t = true
      · exact .inl (hs.2.2 t ht).symm
      · right
        unfold noDst at ht
        rw [List.all_eq_true] at ht
        simp only [bne_iff_ne, ne_eq] at ht
        by_cases hex : ∃ o ∈ ops.toList.take n, o.dst = some t
        · exact hex
        · exact absurd (fun o ho hh => hex ⟨o, ho, hh⟩) ht
  · unfold leftN
    rw [Array.toList_replicate, List.countP_replicate]; simp
  · have hrep : ∀ j, (Array.replicate ops.size false).getD j false = false := fun j => by
      rw [Array.getD_eq_getD_getElem?, Array.getElem?_replicate]; split <;> rfl
    exact ⟨H0, hg, fun j R hj => (by rw [hrep j] at hj; cases hj), ⟨rfl, rfl, fun _ _ => rfl⟩, by simp, fun j _ => hrep j, fun j o hj => (by rw [hrep j] at hj; cases hj)⟩

/-- A region that draws its order. -/
theorem wp_region_ag {id : Nat} (n : Nat) (fl : List Nat) (H0 : Hp) (hm : P.follows .mixedOrders = true) (hc : agChk ops n fl = true) (hd : agDst ops n a0.tmps.size = true)
    (hQ : ∀ c a (d : Tmp) v w, Q (.panic c) (Act.put a (some d) v) w → Q (.panic c) a w) (hs : Sub H0 w0)
    (h : AGL P ops Q n fl a0 w0 H0 [] (ops.toList.take n)) : (Code.region id ops true).wp P Q a0 w0 :=
  wp_region_any hm (agl_wpAny hc hd hQ (Grow.refl hs).drew h)

end
/-! ### One lemma for each kind of operation -/
section
variable {P : Program} {ops : Array Oper} {Q : Exit → Act → World → Prop} {n : Nat} {fl : List Nat} {a0 : Act} {w0 : World} {H0 : Hp} {Γ : List Rel} {o : Oper} {rest : List Oper}

theorem oeval {a : Act} (h : OutSame ops n a0 a) {t : Tmp} (ht : noDst ops n t = true) : a.eval (.tmp t) = a0.eval (.tmp t) := by
  have := h.2.2 t ht
  simp [Act.eval, this]
theorem tget {a : Act} {t : Tmp} {c : Value} (h : a.eval (.tmp t) = c) : a.tmps[t]?.getD undef = c := by
  rw [← h]; simp [Act.eval]
theorem oget {a : Act} (h : OutSame ops n a0 a) {t : Tmp} (ht : noDst ops n t = true) : a.tmps[t]?.getD undef = a0.tmps[t]?.getD undef := by rw [h.2.2 t ht]
theorem yielded_of {a : Act} {j : Nat} {b : Bool} (h : dstv ops a j = .bool b) : yielded ops a.tmps j = some b := by
  unfold dstv at h
  unfold yielded
  cases hd : (ops[j]?).bind (·.dst) with
  | none => rw [hd] at h; cases h
  | some t =>
    rw [hd] at h
    simp only [Act.eval] at h
    cases ht : a.tmps[t]? with
    | none => rw [Array.getD_eq_getD_getElem?, ht] at h; cases h
    | some v => rw [Array.getD_eq_getD_getElem?, ht] at h; simp only [Option.getD_some] at h; subst h; simp [ht]
theorem wanted_none {y : Nat → Option Bool} (h : o.guard = none) : Region.wanted o y = true := by simp [Region.wanted, h]
theorem wanted_some {a : Act} {j : Nat} {b b' : Bool} (h : o.guard = some (j, b)) (hj : dstv ops a j = .bool b') : Region.wanted o (yielded ops a.tmps) = (b' == b) := by
  simp [Region.wanted, h, yielded_of hj]
theorem wants {a : Act} {j : Nat} {b : Bool} (h : o.guard = some (j, b)) (hj : dstv ops a j = .bool b) : Region.wanted o (yielded ops a.tmps) = true := by
  rw [wanted_some h hj]; exact beq_self_eq_true b

/-- A call returns c x for some x of which Φ holds; of what was there nothing has turned. -/
def RetPost (w : World) (H : Hp) {X : Type} (c : X → Value) (Φ : X → Hp → Prop) (e : Ending) (w' : World) : Prop := ∃ x H', e = .returned (c x) ∧ Grow w H w' H' ∧ Φ x H'
theorem ret_mk {w : World} {H : Hp} {X : Type} {c : X → Value} {Φ : X → Hp → Prop} {w' : World} (x : X) (H' : Hp) (hg : Grow w H w' H') (hx : Φ x H') : RetPost w H c Φ (.returned (c x)) w' := ⟨x, H', rfl, hg, hx⟩
def Ret (P : Program) (f : FuncId) (args : Array Value) (w : World) (H : Hp) {X : Type} (c : X → Value) (Φ : X → Hp → Prop) : Prop := Calls P f args w (RetPost w H c Φ)
def RetVPost (w : World) (v : Value) (e : Ending) (w' : World) : Prop := e = .returned v ∧ Below w.heap.size w w'
theorem retv_mk {w : World} {v : Value} {w' : World} (hb : Below w.heap.size w w') : RetVPost w v (.returned v) w' := ⟨rfl, hb⟩
/-- A call returns v; of what was there nothing has turned, and nothing new matters. -/
def RetV (P : Program) (f : FuncId) (args : Array Value) (w : World) (v : Value) : Prop :=
  Calls P f args w (RetVPost w v)

theorem Ret.use {P : Program} {f : FuncId} {args : Array Value} {w : World} {H : Hp} {X : Type} {c : X → Value} {Φ : X → Hp → Prop} {R' : Ending → World → Prop} (h : Ret P f args w H c Φ)
    (k : ∀ x w' H', Grow w H w' H' → Φ x H' → R' (.returned (c x)) w') : Calls P f args w R' := Calls.mono h fun _ w' he => by obtain ⟨x, H', rfl, hg, hx⟩ := he; exact k x w' H' hg hx
theorem RetV.use {P : Program} {f : FuncId} {args : Array Value} {w : World} {v : Value} {R' : Ending → World → Prop} (h : RetV P f args w v)
    (k : ∀ w', Below w.heap.size w w' → R' (.returned v) w') : Calls P f args w R' := Calls.mono h fun _ w' he => by obtain ⟨rfl, hb⟩ := he; exact k w' hb
theorem retv_eq {w : World} {v v' : Value} {w' : World} (h : v' = v) (hb : Below w.heap.size w w') : RetVPost w v (.returned v') w' := ⟨by rw [h], hb⟩
theorem retv_int {w : World} {k : IntKind} {x y : Int} {w' : World} (h : x = y) (hb : Below w.heap.size w w') : RetVPost w (.int k y) (.returned (.int k x)) w' := ⟨by rw [h], hb⟩
theorem retv_bool {w : World} {x y : Bool} {w' : World} (h : x = y) (hb : Below w.heap.size w w') : RetVPost w (.bool y) (.returned (.bool x)) w' := ⟨by rw [h], hb⟩

/-- A value that is known. -/
theorem agl_val (c : Value) (hfl : fl.contains Γ.length = false) (hg : ∀ a w H, Preds ops Γ o a w H → Region.wanted o (yielded ops a.tmps) = true)
    (h : ∀ a w H, Grow w0 H0 w H → Preds ops Γ o a w H → OutSame ops n a0 a → (execOp a.eval o).run P w = .ok (.value c) w)
    (hr : AGL P ops Q n fl a0 w0 H0 (Γ ++ [fun v _ _ => v = c]) rest) : AGL P ops Q n fl a0 w0 H0 Γ (o :: rest) := by
  refine ⟨_, keeps_eq c, ?_, hr⟩
  rw [if_neg (by rw [hfl]; exact Bool.false_ne_true)]
  intro a w H hw hp ho
  rw [if_pos (hg a w H hp)]
  unfold Oper.wp
  rw [h a w H hw hp ho]
  exact ⟨c, H, rfl, Grow.refl hw.sub, rfl⟩

/-- A guarded one that is left out. -/
theorem agl_skip (j : Nat) (b b' : Bool) (hfl : fl.contains Γ.length = false) (hg : o.guard = some (j, b)) (hne : (b' == b) = false)
    (hb : ∀ a w H, Preds ops Γ o a w H → dstv ops a j = .bool b')
    (hr : AGL P ops Q n fl a0 w0 H0 (Γ ++ [fun v _ _ => v = undef]) rest) : AGL P ops Q n fl a0 w0 H0 Γ (o :: rest) := by
  refine ⟨_, keeps_eq undef, ?_, hr⟩
  rw [if_neg (by rw [hfl]; exact Bool.false_ne_true)]
  intro a w H hw hp ho
  rw [if_neg (by rw [wanted_some hg (hb a w H hp), hne]; exact Bool.false_ne_true)]

/-- A value of which something is known: x says what it hangs on. -/
def exRel {X : Type} (c : X → Value) (Φ : X → Hp → Prop) : Rel := fun v _ H => ∃ x, v = c x ∧ Φ x H
theorem keeps_ex {X : Type} {c : X → Value} {Φ : X → Hp → Prop} (h : ∀ x H H', Le H H' → Φ x H → Φ x H') : Keeps (exRel c Φ) :=
  fun _ _ _ _ _ ⟨x, hv, hx⟩ hg hs => ⟨x, hv, h x _ _ (hg.le hs) hx⟩

/-- A call of a Go function, by its contract. -/
theorem agl_call {X : Type} (c : X → Value) (Φ : X → Hp → Prop) (f : FuncId) (hfl : fl.contains Γ.length = false) (hg : ∀ a w H, Preds ops Γ o a w H → Region.wanted o (yielded ops a.tmps) = true)
    (h : ∀ a w H, Grow w0 H0 w H → Preds ops Γ o a w H → OutSame ops n a0 a → ∃ args, (execOp a.eval o).run P w = .ok (.enter f args) w ∧ Ret P f args w H c Φ)
    (hΦ : ∀ x H H', Le H H' → Φ x H → Φ x H')
    (hr : AGL P ops Q n fl a0 w0 H0 (Γ ++ [exRel c Φ]) rest) : AGL P ops Q n fl a0 w0 H0 Γ (o :: rest) := by
  refine ⟨_, keeps_ex hΦ, ?_, hr⟩
  rw [if_neg (by rw [hfl]; exact Bool.false_ne_true)]
  intro a w H hw hp ho
  rw [if_pos (hg a w H hp)]
  unfold Oper.wp
  obtain ⟨args, h1, h2⟩ := h a w H hw hp ho
  rw [h1, Oper.upon_enter]
  refine Calls.mono h2 fun e w' he => ?_
  obtain ⟨x, H', rfl, hgr, hx⟩ := he
  exact ⟨c x, H', rfl, hgr, x, rfl, hx⟩

/-- A call of a Go function that hands back a known value. -/
theorem agl_callv (v : Value) (f : FuncId) (hfl : fl.contains Γ.length = false) (hg : ∀ a w H, Preds ops Γ o a w H → Region.wanted o (yielded ops a.tmps) = true)
    (h : ∀ a w H, Grow w0 H0 w H → Preds ops Γ o a w H → OutSame ops n a0 a → ∃ args, (execOp a.eval o).run P w = .ok (.enter f args) w ∧ RetV P f args w v)
    (hr : AGL P ops Q n fl a0 w0 H0 (Γ ++ [fun u _ _ => u = v]) rest) : AGL P ops Q n fl a0 w0 H0 Γ (o :: rest) := by
  refine ⟨_, keeps_eq v, ?_, hr⟩
  rw [if_neg (by rw [hfl]; exact Bool.false_ne_true)]
  intro a w H hw hp ho
  rw [if_pos (hg a w H hp)]
  unfold Oper.wp
  obtain ⟨args, h1, h2⟩ := h a w H hw hp ho
  rw [h1, Oper.upon_enter]
  refine Calls.mono h2 fun e w' he => ?_
  obtain ⟨rfl, hb⟩ := he
  exact ⟨v, H, rfl, Grow.of_below hw.sub hb, rfl⟩

/-- An operation on a value that is not known whole. -/
theorem agl_ex {X : Type} {c : X → Value} {Φ : X → Hp → Prop} (c' : X → Value) (j : Nat) (hj : Γ[j]? = some (exRel c Φ)) (hwj : waits o j = true)
    (hfl : fl.contains Γ.length = false) (hg : ∀ a w H, Preds ops Γ o a w H → Region.wanted o (yielded ops a.tmps) = true)
    (h : ∀ x a w H, Grow w0 H0 w H → Preds ops Γ o a w H → OutSame ops n a0 a → dstv ops a j = c x → Φ x H → (execOp a.eval o).run P w = .ok (.value (c' x)) w)
    (hΦ : ∀ x H H', Le H H' → Φ x H → Φ x H')
    (hr : AGL P ops Q n fl a0 w0 H0 (Γ ++ [exRel c' Φ]) rest) : AGL P ops Q n fl a0 w0 H0 Γ (o :: rest) := by
  refine ⟨_, keeps_ex hΦ, ?_, hr⟩
  rw [if_neg (by rw [hfl]; exact Bool.false_ne_true)]
  intro a w H hw hp ho
  rw [if_pos (hg a w H hp)]
  unfold Oper.wp
  obtain ⟨x, hx, hφ⟩ := hp j _ hwj hj
  rw [h x a w H hw hp ho hx hφ]
  exact ⟨c' x, H, rfl, Grow.refl hw.sub, x, rfl, hφ⟩
theorem agl_ex2 {X Y : Type} {c : X → Value} {Φ : X → Hp → Prop} {d : Y → Value} {Ψ : Y → Hp → Prop} (c' : X → Y → Value) (j k : Nat) (hj : Γ[j]? = some (exRel c Φ)) (hwj : waits o j = true) (hk : Γ[k]? = some (exRel d Ψ)) (hwk : waits o k = true)
    (hfl : fl.contains Γ.length = false) (hg : ∀ a w H, Preds ops Γ o a w H → Region.wanted o (yielded ops a.tmps) = true)
    (h : ∀ x y a w H, Grow w0 H0 w H → Preds ops Γ o a w H → OutSame ops n a0 a → dstv ops a j = c x → Φ x H → dstv ops a k = d y → Ψ y H → (execOp a.eval o).run P w = .ok (.value (c' x y)) w)
    (hΦ : ∀ x H H', Le H H' → Φ x H → Φ x H') (hΨ : ∀ x H H', Le H H' → Ψ x H → Ψ x H')
    (hr : AGL P ops Q n fl a0 w0 H0 (Γ ++ [exRel (X := X × Y) (fun p => c' p.1 p.2) (fun p H => Φ p.1 H ∧ Ψ p.2 H)]) rest) : AGL P ops Q n fl a0 w0 H0 Γ (o :: rest) := by
  refine ⟨_, keeps_ex (fun x H H' l h => ⟨hΦ _ _ _ l h.1, hΨ _ _ _ l h.2⟩), ?_, hr⟩
  rw [if_neg (by rw [hfl]; exact Bool.false_ne_true)]
  intro a w H hw hp ho
  rw [if_pos (hg a w H hp)]
  unfold Oper.wp
  obtain ⟨x, hx, hφ⟩ := hp j _ hwj hj
  obtain ⟨y, hy, hψ⟩ := hp k _ hwk hk
  rw [h x y a w H hw hp ho hx hφ hy hψ]
  exact ⟨c' x y, H, rfl, Grow.refl hw.sub, (x, y), rfl, hφ, hψ⟩

/-- A new variable: some block that nobody else knows. -/
def varRel (B : Nat) (cs : Array Value) (t : TypeId) : Rel := fun v w H => ∃ b, v = .pointer (some ⟨b, 0, none⟩) ∧ B ≤ b ∧ H b = none ∧ w.heap[b]? = some (.cells cs t (0, 0))
theorem keeps_var (B : Nat) (cs : Array Value) (t : TypeId) : Keeps (varRel B cs t) := fun v w H w' H' ⟨b, hv, hB, hH, hb⟩ hg _ => by
  have hlt : b < w.heap.size := (Array.getElem?_eq_some_iff.1 hb).1
  exact ⟨b, hv, hB, (hg.old b hlt).trans hH, (hg.below.block b hlt).trans hb⟩
theorem agl_alloc (cs : Array Value) (t : TypeId) (hfl : fl.contains Γ.length = false) (hg : ∀ a w H, Preds ops Γ o a w H → Region.wanted o (yielded ops a.tmps) = true)
    (h : ∀ a w H, Grow w0 H0 w H → Preds ops Γ o a w H → OutSame ops n a0 a → (execOp a.eval o).run P w = .ok (.value (.pointer (some ⟨w.heap.size, 0, none⟩))) (w.alloc (.cells cs t)))
    (hr : AGL P ops Q n fl a0 w0 H0 (Γ ++ [varRel w0.heap.size cs t]) rest) : AGL P ops Q n fl a0 w0 H0 Γ (o :: rest) := by
  refine ⟨_, keeps_var _ cs t, ?_, hr⟩
  rw [if_neg (by rw [hfl]; exact Bool.false_ne_true)]
  intro a w H hw hp ho
  rw [if_pos (hg a w H hp)]
  unfold Oper.wp
  rw [h a w H hw hp ho]
  exact ⟨_, H, rfl, (Grow.refl hw.sub).alloc _, w.heap.size, rfl, hw.below.size, hw.sub.none (Nat.le_refl _), heap_alloc_new w _⟩

/-- A slice of its own, written out ('[]T{..}'): from now on nobody writes it. -/
def litRel (cs : Array Value) (t : TypeId) (m : Nat) : Rel := fun v _ H => ∃ b, v = .slice (some ⟨b, 0, none⟩) m m ∧ H b = some (.cells cs t (0, 0))
theorem keeps_lit (cs : Array Value) (t : TypeId) (m : Nat) : Keeps (litRel cs t m) := fun v w H w' H' ⟨b, hv, hH⟩ hg hs => ⟨b, hv, hg.le hs b _ hH⟩
theorem agl_lit (cs : Array Value) (t : TypeId) (m : Nat) (hfl : fl.contains Γ.length = false) (hg : ∀ a w H, Preds ops Γ o a w H → Region.wanted o (yielded ops a.tmps) = true)
    (h : ∀ a w H, Grow w0 H0 w H → Preds ops Γ o a w H → OutSame ops n a0 a → (execOp a.eval o).run P w = .ok (.value (.slice (some ⟨w.heap.size, 0, none⟩) m m)) (w.alloc (.cells cs t)))
    (hr : AGL P ops Q n fl a0 w0 H0 (Γ ++ [litRel cs t m]) rest) : AGL P ops Q n fl a0 w0 H0 Γ (o :: rest) := by
  refine ⟨_, keeps_lit cs t m, ?_, hr⟩
  rw [if_neg (by rw [hfl]; exact Bool.false_ne_true)]
  intro a w H hw hp ho
  rw [if_pos (hg a w H hp)]
  unfold Oper.wp
  rw [h a w H hw hp ho]
  exact ⟨_, H.add w.heap.size _, rfl, ((Grow.refl hw.sub).alloc _).add (heap_alloc_new w _) (Nat.le_refl _), w.heap.size, rfl, Hp.add_at _ _ _⟩

/-- Whatever else an operation does, said of its own 'wp'. -/
theorem agl_any (R : Rel) (hR : Keeps R) (hfl : fl.contains Γ.length = false) (hg : ∀ a w H, Preds ops Γ o a w H → Region.wanted o (yielded ops a.tmps) = true)
    (h : ∀ a w H, Grow w0 H0 w H → Preds ops Γ o a w H → OutSame ops n a0 a → o.wp P a w (fun a' w' => ∃ v H', a' = a.put o.dst v ∧ Grow w H w' H' ∧ R v w' H') NoQ)
    (hr : AGL P ops Q n fl a0 w0 H0 (Γ ++ [R]) rest) : AGL P ops Q n fl a0 w0 H0 Γ (o :: rest) := by
  refine ⟨_, hR, ?_, hr⟩
  rw [if_neg (by rw [hfl]; exact Bool.false_ne_true)]
  intro a w H hw hp ho
  rw [if_pos (hg a w H hp)]
  exact h a w H hw hp ho

/-- A float whose value is known. -/
theorem agl_float (c : Value) (hfl : fl.contains Γ.length = true) (hg : ∀ a w H, Preds ops Γ o a w H → Region.wanted o (yielded ops a.tmps) = true)
    (h : ∀ a w H, Grow w0 H0 w H → Preds ops Γ o a w H → OutSame ops n a0 a → ∀ w', (execOp a.eval o).run P w' = .ok (.value c) w')
    (hr : AGL P ops Q n fl a0 w0 H0 (Γ ++ [fun v _ _ => v = c]) rest) : AGL P ops Q n fl a0 w0 H0 Γ (o :: rest) := by
  refine ⟨_, keeps_eq c, ?_, hr⟩
  rw [if_pos hfl]
  intro a w H hw hp ho
  exact ⟨c, .inl ⟨hg a w H hp, h a w H hw hp ho⟩, rfl⟩
theorem agl_floatx {X : Type} {c : X → Value} {Φ : X → Hp → Prop} (c' : X → Value) (j : Nat) (hj : Γ[j]? = some (exRel c Φ)) (hwj : waits o j = true)
    (hfl : fl.contains Γ.length = true) (hg : ∀ a w H, Preds ops Γ o a w H → Region.wanted o (yielded ops a.tmps) = true)
    (h : ∀ x a w H, Grow w0 H0 w H → Preds ops Γ o a w H → OutSame ops n a0 a → dstv ops a j = c x → ∀ w', (execOp a.eval o).run P w' = .ok (.value (c' x)) w')
    (hΦ : ∀ x H H', Le H H' → Φ x H → Φ x H')
    (hr : AGL P ops Q n fl a0 w0 H0 (Γ ++ [exRel c' Φ]) rest) : AGL P ops Q n fl a0 w0 H0 Γ (o :: rest) := by
  refine ⟨_, keeps_ex hΦ, ?_, hr⟩
  rw [if_pos hfl]
  intro a w H hw hp ho
  obtain ⟨x, hx, hφ⟩ := hp j _ hwj hj
  exact ⟨c' x, .inl ⟨hg a w H hp, h x a w H hw hp ho hx⟩, x, rfl, hφ⟩

theorem agl_nil (h : ∀ W H, Grow w0 H0 W H → FinL P ops Q n W H (ops.toList.take n) Γ a0) : AGL P ops Q n fl a0 w0 H0 Γ [] := h
variable {w : World} {H : Hp} {os : List Oper} {Rs : List Rel} {a : Act}
theorem FinL_eq {c : Value} (h : FinL P ops Q n w H os Rs (a.put o.dst c)) : FinL P ops Q n w H (o :: os) ((fun v _ _ => v = c) :: Rs) a := fun v hv => by rw [show v = c from hv]; exact h
theorem FinL_ex {X : Type} {c : X → Value} {Φ : X → Hp → Prop} (h : ∀ x, Φ x H → FinL P ops Q n w H os Rs (a.put o.dst (c x))) : FinL P ops Q n w H (o :: os) (exRel c Φ :: Rs) a := fun v ⟨x, hv, hx⟩ => by rw [hv]; exact h x hx
theorem FinL_var {B : Nat} {cs : Array Value} {t : TypeId} (h : ∀ b, B ≤ b → H b = none → w.heap[b]? = some (.cells cs t (0, 0)) → FinL P ops Q n w H os Rs (a.put o.dst (.pointer (some ⟨b, 0, none⟩)))) : FinL P ops Q n w H (o :: os) (varRel B cs t :: Rs) a :=
  fun v ⟨b, hv, h1, h2, h3⟩ => by rw [hv]; exact h b h1 h2 h3
theorem FinL_lit {cs : Array Value} {t : TypeId} {m : Nat} (h : ∀ b, H b = some (.cells cs t (0, 0)) → FinL P ops Q n w H os Rs (a.put o.dst (.slice (some ⟨b, 0, none⟩) m m))) : FinL P ops Q n w H (o :: os) (litRel cs t m :: Rs) a :=
  fun v ⟨b, hv, h1⟩ => by rw [hv]; exact h b h1
theorem FinL_any {R : Rel} (h : ∀ v, R v w H → FinL P ops Q n w H os Rs (a.put o.dst v)) : FinL P ops Q n w H (o :: os) (R :: Rs) a := h
theorem FinL_nil (h : wpList P ops Q (ops.toList.drop n) a w) : FinL P ops Q n w H [] [] a := h

end
end Go.Proofs.Ytfcjkchpldfamaa

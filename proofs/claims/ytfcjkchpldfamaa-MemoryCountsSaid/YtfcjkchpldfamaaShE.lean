/-
  The shadow machine: lists, guards, regions that draw their order.
-/
import Derived.Test.YtfcjkchpldfamaaShD
namespace Go.Proofs.Ytfcjkchpldfamaa
set_option linter.unusedSimpArgs false
set_option linter.unusedVariables false
open Go.RowKit Go.Maps

/-- g names the slot of the operation that guards o. -/
def GdM (ops : Array Oper) (o : Oper) : Option (Nat × Bool) → Prop
  | none => o.guard = none
  | some (t, b) => ∃ j oj, o.guard = some (j, b) ∧ ops[j]? = some oj ∧ oj.dst = some t
/-- g tells operation o of region ops. -/
structure GM (N : Nat) (ops : Array Oper) (o : Oper) (g : GOp) : Prop where
  d : g.d = o.dst
  op : OpM o.op g.op
  lt : ∀ t, o.dst = some t → t < N
  gd : GdM ops o g.g
inductive GMs (N : Nat) (ops : Array Oper) : List Oper → List GOp → Prop
  | nil : GMs N ops [] []
  | cons {o g l gl} : GM N ops o g → GMs N ops l gl → GMs N ops (o :: l) (g :: gl)

/-- What is left behind. -/
def End (N : Nat) (w0 : World) (H0 : Hp) (K : St → Prop) (a : Act) (w : World) : Prop := ∃ S' E' H', K S' ∧ Sim N w0 H0 S' E' a w H'

section
variable {N : Nat} {w0 w w' : World} {H0 H H' : Hp} {S : St} {E : Env} {a : Act} {o : Oper} {K : St → Prop} {ops : Array Oper} {Q : Exit → Act → World → Prop}

theorem dstv_of {j : Nat} {oj : Oper} {t : Nat} (hj : ops[j]? = some oj) (hd : oj.dst = some t) : dstv ops a j = a.eval (.tmp t) := by simp [dstv, hj, hd]

theorem bool_of {t : Nat} {bb : Bool} (hR : Rep H E (.v (.bool bb)) (a.eval (.tmp t))) : a.eval (.tmp t) = .bool bb := by
  generalize a.eval (.tmp t) = q at hR
  cases hR; rfl

theorem Sim.del? (h : Sim N w0 H0 S E a w H) {d : Option Nat} {v : Value} : Sim N w0 H0 (S.del? d) E (a.put d v) w H := by
  cases d with
  | none => exact h
  | some d => exact h.skip

theorem wanted_tup {j : Nat} {oj : Oper} {t : Nat} {b : Bool} (g1 : o.guard = some (j, b)) (g2 : ops[j]? = some oj) (g3 : oj.dst = some t) (hv : a.eval (.tmp t) = undef) : Region.wanted o (yielded ops a.tmps) = false := by
  unfold Region.wanted
  rw [g1]
  simp only [yielded, g2, g3, Option.bind_some]
  cases h : a.tmps[t]? with
  | none => rfl
  | some v =>
    have : v = undef := by simpa [Act.eval, h] using hv
    subst this
    rfl

theorem evL_sound : ∀ {l : List Oper} {gl : List GOp} {S : St} {E : Env} {a : Act} {w : World} {H : Hp} {K : St → Prop}, GMs N ops l gl → evL gl S K → Sim N w0 H0 S E a w H → (∀ a w, End N w0 H0 K a w → Q .normal a w) → wpList Try.prog ops Q l a w
  | _, _, _, _, _, _, _, _, .nil, h, hS, hQ => hQ _ _ ⟨_, _, _, h, hS⟩
  | o :: l, g :: gl, S, E, a, w, H, K, .cons hg ht, h, hS, hQ => by
    have run : ∀ {K' : St → Prop}, evOp o.dst g.op S K' → (∀ S', K' S' → evL gl S' K) → o.wp Try.prog a w (wpList Try.prog ops Q l) Q := fun hk hK' => by
      refine Oper.wp_post ?_ (evOp_sound hS hg.lt rfl hg.op hk)
      rintro a' w' ⟨S', E', H', hk', hS'⟩
      exact evL_sound ht (hK' _ hk') hS' hQ
    unfold wpList
    simp only [evL, evG] at h
    have hgd := hg.gd
    split at h
    · rename_i hn
      rw [hn] at hgd
      rw [if_pos (wanted_none hgd)]
      rw [hg.d] at h
      exact .inl (run h fun _ h => h)
    · rename_i t b hn
      rw [hn] at hgd
      obtain ⟨j, oj, g1, g2, g3⟩ := hgd
      obtain ⟨s, hs, h⟩ := oB_elim h
      have hR := hS.opd hs
      cases s with
      | v q =>
        cases q with
        | bool bb =>
          have hv : dstv ops a j = .bool bb := (dstv_of g2 g3).trans (bool_of hR)
          rw [wanted_some g1 hv]
          rw [hg.d] at h
          by_cases hb : bb = b
          · rw [if_pos (by simp [hb])]
            exact .inl (run (h.1 hb) fun _ h => h)
          · rw [if_neg (by simp [hb])]
            have hb' : bb = !b := by cases bb <;> cases b <;> simp_all
            exact evL_sound ht (h.2 hb') (hS.put (v := undef) (.tup .nil) hg.lt) hQ
        | _ => exact h.elim
      | tup cs =>
        cases cs with
        | nil =>
          have hv : a.eval (.tmp t) = undef := by
            generalize a.eval (.tmp t) = q at hR
            cases hR with
            | tup h => cases h; rfl
          rw [wanted_tup g1 g2 g3 hv, if_neg (by simp)]
          rw [hg.d] at h
          exact evL_sound ht h (hS.put (v := undef) (.tup .nil) hg.lt) hQ
        | cons _ _ => exact h.elim
      | _ => exact h.elim

/-! ### In front -/
def shRel (E : Env) (s : Sh) : Rel := fun v _ H => Rep H E s v
theorem keeps_sh (E : Env) (s : Sh) : Keeps (shRel E s) := fun _ _ _ _ _ h g hs => h.mono (g.le hs) (ELe.refl _)
def boxRel (E : Env) (B : Nat) (t : TypeId) (cs : List Sh) : Rel := fun v w H => ∃ b vs, v = .pointer (some ⟨b, 0, none⟩) ∧ B ≤ b ∧ H b = none ∧ w.heap[b]? = some (.cells vs.toArray t (0, 0)) ∧ RepL H E cs vs
theorem keeps_box (E : Env) (B : Nat) (t : TypeId) (cs : List Sh) : Keeps (boxRel E B t cs) := fun v w H w' H' ⟨b, vs, h1, h2, h3, h4, h5⟩ g hs => by
  have hlt := (Array.getElem?_eq_some_iff.1 h4).1
  exact ⟨b, vs, h1, h2, (g.old b hlt).trans h3, (g.below.block b hlt).trans h4, h5.mono (g.le hs) (ELe.refl _)⟩

def rowRel (E : Env) (B : Nat) (e : TypeId) (k : Nat) (es : List (List Sh)) : Rel := fun v w H => ∃ ob xs, 0 < k ∧ RepEs H k es xs ∧ ((es = [] ∧ ob = none ∧ ∃ a, v = .slice a 0 0) ∨
  ∃ g cap cur, ob = some g ∧ v = .slice (some ⟨g, 0, none⟩) es.length cap ∧ B ≤ g ∧ H g = none ∧ w.heap[g]? = some (.cells cur e (0, 0)) ∧ es.length ≤ cap ∧ cap ≤ maxLen ∧ (es = [] → cap = 0) ∧ cur.size = cap * k ∧ cur.toList.take (es.length * k) = xs)
theorem keeps_row (E : Env) (B : Nat) (e : TypeId) (k : Nat) (es : List (List Sh)) : Keeps (rowRel E B e k es) := fun v w H w' H' ⟨ob, xs, hk, h2, h3⟩ g hs => by
  refine ⟨ob, xs, hk, h2.mono (g.le hs), h3.imp id ?_⟩
  rintro ⟨g', cap, cur, a1, a2, a3, a4, a5, a6⟩
  have hlt := (Array.getElem?_eq_some_iff.1 a5).1
  exact ⟨g', cap, cur, a1, a2, a3, (g.old _ hlt).trans a4, (g.below.block _ hlt).trans a5, a6⟩

/-- A slot that a front operation reads comes from outside or from one that it waits for. -/
def srcB (ops : Array Oper) (n : Nat) (o : Oper) (t : Nat) : Bool := noDst ops n t || (List.range n).any fun i => waits o i && ((ops[i]?).bind (·.dst) == some t)
def opdB (ops : Array Oper) (n : Nat) (o : Oper) : Operand → Bool
  | .tmp t => srcB ops n o t
  | _ => true
def frontB (ops : Array Oper) (n : Nat) (gl : List GOp) : Bool :=
  (List.range n).all fun i => match ops[i]?, gl[i]? with
    | some o, some g => g.op.opds.all (opdB ops n o) && (match g.g with | none => true | some (t, _) => (match o.guard with | some (j, _) => waits o j && decide (j < n) | none => false) && srcB ops n o t)
    | _, _ => false
/-- Floats are moves and parts of tuples. -/
def SOp.flo : SOp → Bool
  | .mv _ | .ext _ _ | .nck _ => true
  | _ => false
def floatB (fl : List Nat) (gl : List GOp) : Bool := fl.all fun i => match gl[i]? with
  | some g => g.op.flo
  | none => false

/-- What is known of the slots while the front is gone through. -/
def SlotAt (ops : Array Oper) (n : Nat) (Γ : List Rel) (S0 : St) (E : Env) (t : Nat) (x : Sh) : Prop :=
  (noDst ops n t = true ∧ getA S0.T t = some x) ∨ (∃ i o, i < Γ.length ∧ ops[i]? = some o ∧ o.dst = some t ∧ Γ[i]? = some (shRel E x)) ∨ (∃ i o, Γ.length ≤ i ∧ i < n ∧ ops[i]? = some o ∧ o.dst = some t)
def Slots (ops : Array Oper) (n : Nat) (Γ : List Rel) (S0 S : St) (E : Env) : Prop :=
  S.O = S0.O ∧ ∀ t x, getA S.T t = some x → SlotAt ops n Γ S0 E t x

theorem noDst_spec {n t i : Nat} {o : Oper} (h : noDst ops n t = true) (hi : i < n) (ho : ops[i]? = some o) : o.dst ≠ some t := by
  unfold noDst at h
  rw [List.all_eq_true] at h
  have hm : o ∈ ops.toList.take n := by
    rw [List.mem_iff_getElem?]
    exact ⟨i, by rw [List.getElem?_take, if_pos hi]; simpa using ho⟩
  simpa using h o hm

variable {n : Nat} {fl : List Nat} {a0 : Act} {W0 : World} {HF : Hp} {Γ : List Rel} {S0 : St}

theorem slots_opd (hf : AgFacts ops n fl) (hS : Sim N w0 H0 S0 E a0 W0 HF) (hsl : Slots ops n Γ S0 S E) (hlen : Γ.length < n) (hoi : ops[Γ.length]? = some o) (hw : Grow W0 HF w H) (hp : Preds ops Γ o a w H) (ho : OutSame ops n a0 a)
    {x : Operand} (hx : opdB ops n o x = true) : ∀ y, S.opd x = some y → Rep H E y (a.eval x) := fun y hy => by
  have hO : Objs w0.heap.size S E w H := fun i o' hi => by rw [hsl.1] at hi; exact (hS.ob i o' hi).grow hw hS.sub
  refine opd_of hO (fun t z ht hz => ?_) hy
  subst ht
  simp only [opdB, srcB, Bool.or_eq_true, List.any_eq_true, List.mem_range, Bool.and_eq_true, beq_iff_eq] at hx
  rcases hsl.2 t z hz with ⟨h1, h2⟩ | ⟨i, oi, h1, h2, h3, h4⟩ | ⟨i, oi, h1, h2, h3, h4⟩
  · rw [oeval ho h1]; exact (hS.tm t z h2).mono (hw.le hS.sub) (ELe.refl _)
  · rcases hx with hx | ⟨i', hi', hx1, hx2⟩
    · exact absurd h3 (noDst_spec hx (by omega) h2)
    · have hii : i' = i := Decidable.byContradiction fun hne => hf.dst i' i hi' (by omega) hne t hx2 (by rw [h2]; simpa using h3)
      subst hii
      have := hp i' _ hx1 h4
      rw [dstv_of h2 h3] at this
      exact this
  · rcases hx with hx | ⟨i', hi', hx1, hx2⟩
    · exact absurd h4 (noDst_spec hx h2 h3)
    · have hii : i' = i := Decidable.byContradiction fun hne => hf.dst i' i hi' h2 hne t hx2 (by rw [h3]; simpa using h4)
      subst hii
      obtain ⟨e, he, hb, hon⟩ := waits_spec hx1
      have := hf.ed _ _ hoi e he hb
      omega
end
end Go.Proofs.Ytfcjkchpldfamaa

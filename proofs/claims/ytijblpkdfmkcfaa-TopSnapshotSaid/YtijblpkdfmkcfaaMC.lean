/-
  The shadow machine: whole functions.
  The shadow machine: from a function's code to the shadow code.
  The shadow machine: steps of a proof. What follows stands behind a variable.
  The simp lemmas that a walk through shadow code uses, bundled.
  A law's arguments, opened: a slice that reads as data is a list.
  Words, and what all layers share.
  Two words compare as their parts do.
  Regions whose orders all come to the same: first the values in the list's order, then what is written to variables. Lemmas only.
  The frame of every law's row: arguments opened by their types' flat shape, the post of 'true, and the arguments read as before'.
  Two closed facts on the program that every row's frame asks for.
  Arguments of a law, opened as shadows.
  Arguments of any plain shape, opened as shadows.
-/
import Derived.Test.YtijblpkdfmkcfaaMB
import Derived.Deep.LoopGhost
import Derived.Test.YtijblpkdfmkcfaaMA
import Derived.Deep.Slices
import Derived.ProofKit
import Derived.Lib.SmallJoins
import Derived.OwnWalk
import Derived.Lib.LazyBuf
import Derived.WideKeyArgs
import Derived.Test.YtijblpkdfmkcfaaRows
namespace Go.Proofs.Ytijblpkdfmkcfaa
set_option linter.unusedSimpArgs false
set_option linter.unusedVariables false
open Go.RowKit Go.Maps

inductive CM (N : Nat) : Code → SC → Prop
  | skip : CM N .skip .skip
  | ops {id ops gl} : GMs N ops ops.toList gl → CM N (.region id ops false) (.ops gl)
  | ord {id ops t gl} : GMs N ops ops.toList gl → Region.noSelect ops = true → otChk ops gl [] t = true → CM N (.region id ops true) (.ord t gl)
  | cfl {id ops gl} : GMs N ops ops.toList gl → Region.noSelect ops = true → wlLow ops = true → CM N (.region id ops true) (.cfl (ops.toList.map wl) gl)
  | drw {id ops n fl gl} : GMs N ops ops.toList gl → agChk ops n fl = true → agDst ops n N = true → frontB ops n gl = true → floatB fl gl = true → CM N (.region id ops true) (.drw n gl)
  | seq {a b x y} : CM N a x → CM N b y → CM N (.seq a b) (.seq x y)
  | cond {c a b x y} : CM N a x → CM N b y → CM N (.cond c a b) (.cond c x y)
  | block {id a x} : CM N a x → CM N (.block id a) (.block id x)
  | loop {a x} : CM N a x → CM N (.loop a) (.loop x)
  | exit {id} : CM N (.exit id) (.exit id)
  | ret : CM N .ret .ret

def QK (N : Nat) (w0 : World) (H0 : Hp) (K : Ex → St → Prop) : Exit → Act → World → Prop
  | .normal, a, w => End N w0 H0 (K .next) a w
  | .exit id, a, w => End N w0 H0 (K (.exit id)) a w
  | .ret, a, w => End N w0 H0 (K .ret) a w
  | _, _, _ => False

theorem GMs.len {N : Nat} {ops : Array Oper} : ∀ {l : List Oper} {gl : List GOp}, GMs N ops l gl → l.length = gl.length
  | _, _, .nil => rfl
  | _, _, .cons _ t => by simp [t.len]
theorem GMs.take {N : Nat} {ops : Array Oper} : ∀ {l : List Oper} {gl : List GOp} (n : Nat), GMs N ops l gl → GMs N ops (l.take n) (gl.take n)
  | _, _, 0, _ => by simp; exact .nil
  | _, _, n + 1, .nil => by simp; exact .nil
  | _, _, n + 1, .cons h t => by simp; exact .cons h (t.take n)
theorem GMs.drop {N : Nat} {ops : Array Oper} : ∀ {l : List Oper} {gl : List GOp} (n : Nat), GMs N ops l gl → GMs N ops (l.drop n) (gl.drop n)
  | _, _, 0, h => by simpa using h
  | _, _, n + 1, .nil => by simp; exact .nil
  | _, _, n + 1, .cons h t => by simp; exact t.drop n

section
variable {N : Nat} {w0 w w' : World} {H0 H H' : Hp} {S : St} {E : Env} {a : Act} {K : Ex → St → Prop}

theorem Sim.frzAll : ∀ (l : List Sh) {S : St} {H : Hp}, Sim N w0 H0 S E a w H → ∃ H', Le H H' ∧ Sim N w0 H0 (S.frzAll l) E a w H'
  | [], S, H, h => ⟨H, Le.refl _, h⟩
  | x :: l, S, H, h => by
    obtain ⟨H1, l1, h1⟩ := h.frzSh x
    obtain ⟨H2, l2, h2⟩ := Sim.frzAll l h1
    exact ⟨H2, l1.trans l2, h2⟩

theorem keepT_spec {α : Type} {l : List (Nat × α)} : ∀ {ks : List Nat} {t : Nat} {x : α}, getA (keepT l ks) t = some x → getA l t = some x ∧ ks.contains t = true
  | k :: ks, t, x, h => by
    unfold keepT at h
    split at h
    · rename_i y hy
      simp only [getA] at h
      split at h
      · rename_i e; cases h; subst e; exact ⟨hy, by simp⟩
      · obtain ⟨a, b⟩ := keepT_spec h; exact ⟨a, by simp only [List.contains_cons, Bool.or_eq_true]; exact .inr b⟩
    · obtain ⟨a, b⟩ := keepT_spec h; exact ⟨a, by simp only [List.contains_cons, Bool.or_eq_true]; exact .inr b⟩
theorem keepT_get {α : Type} {ks : List Nat} {l : List (Nat × α)} {t : Nat} {x : α} (h : getA (keepT l ks) t = some x) : getA l t = some x := (keepT_spec h).1
theorem keepT_mem {α : Type} {ks : List Nat} {l : List (Nat × α)} {t : Nat} {x : α} (h : getA (keepT l ks) t = some x) : ks.contains t = true := (keepT_spec h).2
theorem refsT_get {ids : List Nat} : ∀ {l : List (Nat × Sh)} {t : Nat} {x : Sh}, refsT ids l = true → getA l t = some x → refsOk ids x = true
  | (k, y) :: l, t, x, h, hg => by
    simp only [refsT, Bool.and_eq_true] at h
    simp only [getA] at hg
    split at hg
    · cases hg; exact h.1
    · exact refsT_get h.2 hg
theorem refsO_get {ids : List Nat} : ∀ {l : List (Nat × Ob)} {i : Nat} {t : TypeId} {cs : List Sh}, refsO ids l = true → getA l i = some (.box t cs) → refsL ids cs = true
  | (k, .box _ cs') :: l, i, t, cs, h, hg => by
    simp only [refsO, Bool.and_eq_true] at h
    simp only [getA] at hg
    split at hg
    · cases hg; exact h.1
    · exact refsO_get h.2 hg
  | (k, .row ..) :: l, i, t, cs, h, hg => by
    simp only [refsO] at h
    simp only [getA] at hg
    split at hg
    · cases hg
    · exact refsO_get h hg
  | (k, .map ..) :: l, i, t, cs, h, hg => by
    simp only [refsO] at h
    simp only [getA] at hg
    split at hg
    · cases hg
    · exact refsO_get h hg
  | (k, .iter ..) :: l, i, t, cs, h, hg => by
    simp only [refsO] at h
    simp only [getA] at hg
    split at hg
    · cases hg
    · exact refsO_get h hg
  | (k, .frz _) :: l, i, t, cs, h, hg => by
    simp only [refsO] at h
    simp only [getA] at hg
    split at hg
    · cases hg
    · exact refsO_get h hg
  | (k, .mpr ..) :: l, i, t, cs, h, hg => by
    simp only [refsO] at h
    simp only [getA] at hg
    split at hg
    · cases hg
    · exact refsO_get h hg
  | (k, .itm ..) :: l, i, t, cs, h, hg => by
    simp only [refsO] at h
    simp only [getA] at hg
    split at hg
    · cases hg
    · exact refsO_get h hg
  | (k, .obx _ _) :: l, i, t, cs, h, hg => by
    simp only [refsO, Bool.and_eq_true] at h
    simp only [getA] at hg
    split at hg
    · cases hg
    · exact refsO_get h.2 hg
  | (k, .gh _) :: l, i, t, cs, h, hg => by simp [refsO] at h
theorem refsO_obx {ids : List Nat} : ∀ {l : List (Nat × Ob)} {i : Nat} {e : TypeId} {cs : List Sh}, refsO ids l = true → getA l i = some (.obx e cs) → refsL ids cs = true
  | (k, o) :: l, i, e, cs, h, hg => by
    simp only [getA] at hg
    cases o with
    | obx e' cs' =>
      simp only [refsO, Bool.and_eq_true] at h
      split at hg
      · cases hg; exact h.1
      · exact refsO_obx h.2 hg
    | gh J => simp [refsO] at h
    | box t' cs' =>
      simp only [refsO, Bool.and_eq_true] at h
      split at hg
      · cases hg
      · exact refsO_obx h.2 hg
    | _ =>
      simp only [refsO] at h
      split at hg
      · cases hg
      · exact refsO_obx h hg
theorem refsO_gh {ids : List Nat} : ∀ {l : List (Nat × Ob)} {i : Nat} {J : Hp → Env → Prop}, refsO ids l = true → getA l i = some (.gh J) → False
  | (k, o) :: l, i, J, h, hg => by
    simp only [getA] at hg
    cases o with
    | gh J' => simp [refsO] at h
    | obx e' cs' =>
      simp only [refsO, Bool.and_eq_true] at h
      split at hg
      · cases hg
      · exact refsO_gh h.2 hg
    | box t' cs' =>
      simp only [refsO, Bool.and_eq_true] at h
      split at hg
      · cases hg
      · exact refsO_gh h.2 hg
    | _ =>
      simp only [refsO] at h
      split at hg
      · cases hg
      · exact refsO_gh h hg
theorem idxN_get : ∀ {ids : List Nat} {i : Nat}, ids.contains i = true → ids[idxN ids i]? = some i
  | k :: l, i, h => by
    unfold idxN
    split
    · rename_i e; subst e; rfl
    · rename_i e
      simp only [List.contains_cons, Bool.or_eq_true, beq_iff_eq] at h
      rw [List.getElem?_cons_succ]
      exact idxN_get (h.resolve_left (fun h => e h.symm))
def Env.ren (E : Env) (ids : List Nat) : Env := fun j => (ids[j]?).bind E
theorem Env.ren_at {E : Env} {ids : List Nat} {i : Nat} (h : ids.contains i = true) : E.ren ids (idxN ids i) = E i := by
  unfold Env.ren; rw [idxN_get h]; rfl
theorem renC_rep {H : Hp} {E : Env} {ids : List Nat} {x : Sh} {u : Value} (h : Rep H E x u) (hc : refsC ids x = true) : Rep H (E.ren ids) (renC ids x) u := by
  cases h with
  | @own E i u k b h h1 => exact .own (show E.ren ids (idxN ids i) = some (u, k, b) from (Env.ren_at hc).trans h) h1
  | @ptr E i idx off u k b h => exact .ptr (show E.ren ids (idxN ids i) = some (u, k, some b) from (Env.ren_at hc).trans h)
  | agg => cases hc
  | tup => cases hc
  | v h => exact .v h
  | sl a b c d e f g => exact .sl a b c d e f g
  | mpn h => exact .mpn h
  | mp a b c d e => exact .mp a b c d e
  | fn a b => exact .fn a b
  | ifc a => exact .ifc a
  | fp a b c => exact .fp a b c
  | any a => exact .any a
theorem renC_one (ids : List Nat) (x : Sh) : (renC ids x).one = x.one := by cases x <;> rfl
theorem renL_one (ids : List Nat) (cs : List Sh) (h : cs.all Sh.one = true) : (cs.map (renC ids)).all Sh.one = true := by
  rw [List.all_map]
  rw [List.all_eq_true] at h ⊢
  intro x hx
  simp only [Function.comp, renC_one]
  exact h x hx
theorem renL_rep {H : Hp} {E : Env} {ids : List Nat} : ∀ {cs : List Sh} {vs : List Value}, RepL H E cs vs → refsL ids cs = true → RepL H (E.ren ids) (cs.map (renC ids)) vs
  | _, _, .nil, _ => .nil
  | _, _, .cons h t, hc => by simp only [refsL, Bool.and_eq_true] at hc; exact .cons (renC_rep h hc.1) (renL_rep t hc.2)
theorem renSh_rep {H : Hp} {E : Env} {ids : List Nat} {x : Sh} {u : Value} (h : Rep H E x u) (hc : refsOk ids x = true) : Rep H (E.ren ids) (renSh ids x) u := by
  cases x with
  | agg cs => cases h with | agg h h1 => exact .agg (renL_rep h hc) (renL_one ids cs h1)
  | tup => cases hc
  | _ => exact renC_rep h hc
theorem renT_get {ids : List Nat} : ∀ {l : List (Nat × Sh)} {t : Nat} {y : Sh}, getA (renT ids l) t = some y → ∃ x, getA l t = some x ∧ y = renSh ids x
  | (k, x) :: l, t, y, h => by
    simp only [renT, getA] at h ⊢
    split at h
    · rename_i e; rw [if_pos e]; cases h; exact ⟨x, rfl, rfl⟩
    · rename_i e; rw [if_neg e]; exact renT_get h
theorem renO_get {ids : List Nat} : ∀ {l : List (Nat × Ob)} {j : Nat} {o' : Ob}, getA (renO ids l) j = some o' → ∃ i o, getA l i = some o ∧ idxN ids i = j ∧ o' = renOb ids o
  | (k, x) :: l, j, o', h => by
    simp only [renO, getA] at h
    split at h
    · rename_i e; cases h; exact ⟨k, x, by simp [getA], e, rfl⟩
    · rename_i e
      obtain ⟨i, o, h1, h2, h3⟩ := renO_get h
      refine ⟨i, o, ?_, h2, h3⟩
      simp only [getA]
      rw [if_neg (fun e' => e (by rw [e']; exact h2))]
      exact h1
theorem renOb_live (ids : List Nat) (o : Ob) : (renOb ids o).live = o.live := by cases o <;> rfl
theorem Sim.keep (h : Sim N w0 H0 S E a w H) (kp : Option (List Nat × Option (List Nat × Nat))) : ∃ E', Sim N w0 H0 (S.keep kp) E' a w H := by
  have small : ∀ ks, Sim N w0 H0 ⟨keepT S.T ks, S.O, S.n⟩ E a w H := fun ks => h.less (fun t x hx => keepT_get hx) (fun _ _ h => h) rfl
  match kp with
  | none => exact ⟨E, h⟩
  | some (ks, none) => exact ⟨E, small ks⟩
  | some (ks, some (ids, n)) =>
    simp only [St.keep]
    split
    · rename_i hc
      simp only [Bool.and_eq_true, decide_eq_true_eq] at hc
      obtain ⟨c1, c2, c3⟩ := hc
      have hpre : ∀ j, lives ⟨renT ids (keepT S.T ks), renO ids (keepT S.O ids), n⟩ j → ∃ i, idxN ids i = j ∧ ids.contains i = true ∧ lives S i := by
        rintro j ⟨o', ho', hl⟩
        obtain ⟨i, o, h1, h2, rfl⟩ := renO_get ho'
        rw [renOb_live] at hl
        exact ⟨i, h2, keepT_mem h1, o, keepT_get h1, hl⟩
      refine ⟨E.ren ids, h.grow, fun t y hy => ?_, fun j o' ho' => ?_, ?_, fun i hi => ?_, h.sz, h.df⟩
      · obtain ⟨x, hx, rfl⟩ := renT_get hy
        exact renSh_rep (h.tm t x (keepT_get hx)) (refsT_get c1 hx)
      · obtain ⟨i, o, h1, rfl, rfl⟩ := renO_get ho'
        have hi := keepT_mem h1
        have hE : E.ren ids (idxN ids i) = E i := Env.ren_at hi
        have hob := h.ob i o (keepT_get h1)
        cases o with
        | box t cs => obtain ⟨b, vs, h1', h2, h3, h4, h5, h6⟩ := hob; exact ⟨b, vs, hE.trans h1', h2, h3, h4, renL_rep h5 (refsO_get c2 h1), renL_one ids cs h6⟩
        | row e k es => obtain ⟨u, ob, xs, h1, h⟩ := hob; exact ⟨u, ob, xs, hE.trans h1, h⟩
        | map kt N f => obtain ⟨b, o, F, h1, h⟩ := hob; exact ⟨b, o, F, hE.trans h1, h⟩
        | iter f left cnt cur => obtain ⟨r, ob, h1, h⟩ := hob; exact ⟨r, ob, hE.trans h1, h⟩
        | frz x => obtain ⟨u, k, b, h1, h⟩ := hob; exact ⟨u, k, b, hE.trans h1, h⟩
        | obx e cs =>
          obtain ⟨b, cap, cur, h1', h2, h3, h4, h5, h6, h7⟩ := hob
          refine ⟨b, cap, cur, hE.trans (by rw [List.length_map]; exact h1'), h2, h3, h4, by rw [List.length_map]; exact h5, ?_, renL_one ids cs h7⟩
          rw [List.length_map]
          exact renL_rep h6 (refsO_obx c2 h1)
        | gh J => exact (refsO_gh c2 h1).elim
        | mpr q kt N f => obtain ⟨es, F, h1, h⟩ := hob; exact ⟨es, F, hE.trans h1, h⟩
        | itm q kt left cnt cur => obtain ⟨r, ob, h1, h⟩ := hob; exact ⟨r, ob, hE.trans h1, h⟩
      · intro i j hij hi hj b u k u' k' e1 e2
        obtain ⟨i0, rfl, ci, li⟩ := hpre i hi
        obtain ⟨j0, rfl, cj, lj⟩ := hpre j hj
        rw [Env.ren_at ci] at e1
        rw [Env.ren_at cj] at e2
        exact h.ap i0 j0 (fun e => hij (by rw [e])) li lj b u k u' k' e1 e2
      · show E.ren ids i = none
        unfold Env.ren
        rw [List.getElem?_eq_none (by simp only at hi; omega)]
        rfl
    · exact ⟨E, small ks⟩

theorem Sim.putT (h1 : Sim N w0 H0 S E a w H) {t : Nat} {x : Sh} (hx : Rep H E x (a.eval (.tmp t))) : Sim N w0 H0 (S.put t x) E a w H :=
  ⟨h1.grow, fun t' y hy => by
    simp only [St.put, getA_put] at hy
    split at hy
    · rename_i e; cases hy; subst e; exact hx
    · exact h1.tm t' y hy, h1.ob, h1.ap, h1.fr, h1.sz, h1.df⟩
theorem evR_sound {K : St → Prop} : ∀ (rs : List Rv) {S : St} {E : Env}, evR rs S K → Sim N w0 H0 S E a w H → ∃ S1 E1, K S1 ∧ Sim N w0 H0 S1 E1 a w H
  | [], S, E, h, hS => ⟨S, E, h, hS⟩
  | .reveal i :: rs, S, E, h, hS => by
    obtain ⟨⟨t, cs, hg⟩, h⟩ := h
    obtain ⟨b, vs, e1, _⟩ := hS.ob i _ hg
    have hle := Env.set_le (E := E) (i := S.n) (undef, 0, none) (hS.fr _ (Nat.le_refl _))
    have := hS.new (o := .gh (isBlk i b)) (p := (undef, 0, none)) ⟨⟨_, Env.set_self _ _ _⟩, hle _ _ e1, fun H1 H2 E1 E2 g1 g2 hJ => g2 _ _ hJ⟩ (fun b hb => by cases hb)
    exact evR_sound rs (h b) this
  | .raw t g :: rs, S, E, h, hS => by
    obtain ⟨i, b, off, hg, ht, h⟩ := h
    have hi := (hS.ob g _ hg).2.1
    have hv := hS.tm t _ ht
    refine evR_sound rs h (hS.putT ?_)
    generalize a.eval (.tmp t) = q at hv
    cases hv
    have := Rep.ptr (H := H) (E := E) (i := i) (idx := 0) (off := off) hi
    simpa using this
  | .unraw t g :: rs, S, E, h, hS => by
    obtain ⟨i, b, off, hg, ht, h⟩ := h
    have hi := (hS.ob g _ hg).2.1
    have hv := hS.tm t _ ht
    refine evR_sound rs h (hS.putT ?_)
    generalize a.eval (.tmp t) = q at hv
    cases hv with
    | ptr hE =>
      have hi2 : E i = _ := hi
      rw [hi2] at hE
      cases hE
      simp only [Nat.zero_mul, Nat.zero_add]
      exact .v rfl
theorem evX_sound {ops : Array Oper} {Q : Exit → Act → World → Prop} : ∀ (sp : List (Nat × List Rv)) {l : List Oper} {gl : List GOp} {S : St} {E : Env} {a : Act} {w : World} {H : Hp} {K : St → Prop}, GMs N ops l gl → evX sp gl S K → Sim N w0 H0 S E a w H → (∀ a w, End N w0 H0 K a w → Q .normal a w) → wpList Try.prog ops Q l a w
  | [], _, _, _, _, _, _, _, _, hg, h, hS, hQ => evL_sound hg h hS hQ
  | (n, rs) :: sp, l, gl, S, E, a, w, H, K, hg, h, hS, hQ => by
    rw [← List.take_append_drop n l]
    refine evL_app (hg.take n) h hS ?_
    rintro a2 w2 ⟨S1, E1, H1, h1, hS1⟩
    obtain ⟨S2, E2, h2, hS2⟩ := evR_sound rs h1 hS1
    exact evX_sound sp (hg.drop n) h2 hS2 hQ
theorem getA_insO (i : Nat) (o : Ob) : ∀ (l : List (Nat × Ob)) (j : Nat), getA (insO i o l) j = if i = j then some o else getA l j
  | [], j => by simp [insO, getA]
  | (k, p) :: l, j => by
    unfold insO
    split
    · simp [getA]
    · rename_i hk
      simp only [getA, getA_insO i o l j]
      by_cases e1 : k = j
      · have : ¬ i = j := by omega
        simp [e1, this]
      · simp [e1]
theorem getA_srtO : ∀ (l : List (Nat × Ob)) (j : Nat), getA (srtO l) j = getA l j
  | [], _ => rfl
  | (i, o) :: l, j => by simp only [srtO, getA_insO, getA_srtO l j, getA]
theorem Sim.sorted (h : Sim N w0 H0 S E a w H) : Sim N w0 H0 S.sorted E a w H := h.less (fun _ _ h => h) (fun i o ho => by simpa [St.sorted, getA_srtO] using ho) rfl

theorem QK_panic {c a d v w} : QK N w0 H0 K (.panic c) (Act.put a (some d) v) w → QK N w0 H0 K (.panic c) a w := fun h => h.elim

theorem ev_sound (hm : Try.prog.follows .mixedOrders = true) : ∀ {c : Code} {sc : SC} {S : St} {E : Env} {a : Act} {w : World} {H : Hp} {K : Ex → St → Prop}, CM N c sc → ev sc S K → Sim N w0 H0 S E a w H → c.wp Try.prog (QK N w0 H0 K) a w := by
  intro c sc S E a w H K hc
  induction hc generalizing S E a w H K with
  | skip => intro h hS; exact wp_skip ⟨_, _, _, h, hS⟩
  | exit => intro h hS; exact wp_exit ⟨_, _, _, h, hS⟩
  | ret => intro h hS; exact wp_ret ⟨_, _, _, h, hS⟩
  | ops hg => intro h hS; obtain ⟨sp, cs, h⟩ := h; obtain ⟨E1, hS⟩ := hS.casts cs; exact wp_region_list (evX_sound sp hg h hS fun _ _ h => h)
  | @ord id ops t gl hg h1 h2 =>
    intro h hS
    obtain ⟨cs, S1, h, hk⟩ := h
    obtain ⟨E1, hS⟩ := hS.casts cs
    refine wp_region_any hm ?_
    have hS2 : Sim N w0 H0 (S.casts cs) E1 a w.drew H := hS.grown (Grow.refl hS.sub).drew
    refine evTr_sound (K := fun S' => ∃ kp, (S'.keep kp).sorted = S1) h1 (fun c a d v w h => h.elim) hg ops.size t [] _ (S.casts cs) E1 a _ H ?_ (by simp) (fun i hi => by simp [hi]) (fun i hi => by simp at hi) h2 h hS2 ?_
    · unfold leftN
      rw [Array.toList_replicate, List.countP_replicate]; simp
    · rintro a' w' ⟨S', E', H', ⟨kp, rfl⟩, hS'⟩
      obtain ⟨E3, hS3⟩ := hS'.keep kp
      exact ⟨_, E3, H', hk, hS3.sorted⟩
  | @cfl id ops gl hg h1 h2 =>
    intro h hS
    obtain ⟨cs, I, hI0, hI, hk⟩ := h
    obtain ⟨E1, hS⟩ := hS.casts cs
    refine wp_region_any hm ?_
    have hS2 : Sim N w0 H0 (S.casts cs) E1 a w.drew H := hS.grown (Grow.refl hS.sub).drew
    refine evCf_sound h1 h2 hg hI ?_ ops.size [] _ (S.casts cs) E1 a _ H ?_ (by simp) (fun i hi => by simp [hi]) (fun i hi => by simp at hi) hI0 hS2
    · intro done S' E' a' w' H' hD hall hS'
      obtain ⟨kp, hk⟩ := hk done S' hD fun i hi => hall i (by simpa using hi)
      obtain ⟨E3, hS3⟩ := hS'.keep kp
      exact ⟨_, E3, H', hk, hS3.sorted⟩
    · unfold leftN
      rw [Array.toList_replicate, List.countP_replicate]; simp
  | @drw id ops n fl gl hg h1 h2 h3 h4 =>
    intro h hS
    obtain ⟨gs, cs, h⟩ := h
    obtain ⟨E, hS⟩ := hS.casts cs
    obtain ⟨H1, _, hS1⟩ := hS.frzAll gs
    have hf := agChk_spec h1
    have hle := hf.le
    refine wp_region_ag n fl H1 hm h1 (by rw [hS1.sz]; exact h2) (fun c a d v w => QK_panic) hS1.sub ?_
    refine evF_sound (N := N) (w0 := w0) (H0 := H0) (E := E) (S0 := (S.casts cs).frzAll gs) (K := fun S' => evL (gl.drop n) S' (K .next)) (glA := gl) hf hS1 h3 h4 (ops.toList.take n) (gl.take n) [] ((S.casts cs).frzAll gs) ((S.casts cs).frzAll gs) [] (hg.take n) (by simp; omega)
      (fun j hj => by simp at hj; rw [List.getElem?_take, if_pos (by omega)]; simp) (fun j hj => by simp at hj; rw [List.getElem?_take, if_pos (by omega)]; simp) ⟨rfl, fun t x hx => ?_⟩ ?_ (fun i o h => .inl h) h ?_
    · by_cases hn : noDst ops n t = true
      · exact .inl ⟨hn, hx⟩
      · refine .inr (.inr ?_)
        unfold noDst at hn
        simp only [List.all_eq_true, Classical.not_forall] at hn
        obtain ⟨o, ho, hne⟩ := hn
        obtain ⟨i, hi⟩ := List.mem_iff_getElem?.1 ho
        rw [List.getElem?_take] at hi
        split at hi
        · rename_i hin
          exact ⟨i, o, by simp, hin, by simpa using hi, by simpa using hne⟩
        · cases hi
    · intro W H' hg' os2 Rs2 hk
      exact hk a E (ELe.refl _) (hS1.grown hg')
    · rintro W H' a' hg' ⟨S', E', H'', hk, hS'⟩
      exact evL_sound (hg.drop n) hk hS' fun _ _ h => h
  | seq _ _ ih1 ih2 =>
    intro h hS
    refine wp_seq (wp_mono (ih1 h hS) ?_)
    intro e a' w' hq
    cases e with
    | normal => obtain ⟨S', E', H', ⟨ks, hk⟩, hS'⟩ := hq; obtain ⟨E2, hS2⟩ := hS'.keep ks; exact ih2 hk hS2
    | exit id => exact hq
    | ret => exact hq
    | goto l => exact hq
    | panic c => exact hq
    | outgrown => exact hq
  | cond _ _ ih1 ih2 =>
    intro h hS
    obtain ⟨s, hs, h⟩ := oB_elim h
    have hR := hS.opd hs
    cases s with
    | v q =>
      cases q with
      | bool t =>
        generalize hqq : a.eval _ = qq at hR
        cases hR
        refine wp_cond hqq ?_
        cases t with
        | true => exact ih1 (h.1 rfl) hS
        | false => exact ih2 (h.2 rfl) hS
      | _ => exact h.elim
    | _ => exact h.elim
  | @block id _ _ _ ih =>
    intro h hS
    refine wp_block (wp_mono (ih h hS) ?_)
    intro e a' w' hq
    cases e with
    | normal => exact hq
    | exit j =>
      obtain ⟨S', E', H', hk, hS'⟩ := hq
      simp only [Exit.inBlock]
      simp only at hk
      split at hk
      · rename_i e; rw [if_pos e]; exact ⟨S', E', H', hk, hS'⟩
      · rename_i e; rw [if_neg e]; exact ⟨S', E', H', hk, hS'⟩
    | ret => exact hq
    | goto l => exact hq
    | panic c => exact hq
    | outgrown => exact hq
  | loop _ ih =>
    intro h hS
    obtain ⟨I, m, kp, cs, h0, hI⟩ := h
    obtain ⟨E2, hS⟩ := hS.casts cs
    obtain ⟨E3, hS3⟩ := hS.keep kp
    refine wp_loop_ghost (fun k a w => ∃ S1 E1 H1, I k S1 ∧ Sim N w0 H0 S1 E1 a w H1) m ⟨_, E3, H, h0, hS3⟩ ?_
    rintro k a w ⟨S1, E1, H1, hk, hS1⟩
    refine wp_mono (ih (hI k S1 hk) hS1) ?_
    intro e a' w' hq
    cases e with
    | normal => obtain ⟨S', E', H', ⟨k', kp, hk', hI'⟩, hS'⟩ := hq; obtain ⟨E2, hS2⟩ := hS'.keep kp; exact ⟨k', hk', _, E2, H', hI', hS2⟩
    | exit id => exact hq
    | ret => exact hq
    | goto l => exact hq
    | panic c => exact hq
    | outgrown => exact hq

inductive RVM : ResultVar → RV → Prop
  | tmp {t} : RVM (.tmp t) (.tmp t)
  | celA {t ty d i} : Try.prog.underlying ty = some d → aggB d = true → Try.prog.info? ty = some i → RVM (.cell t ty) (.cel t (some i.size))
  | cel1 {t ty d} : Try.prog.underlying ty = some d → aggB d = false → RVM (.cell t ty) (.cel t none)
inductive RVMs : List ResultVar → List RV → Prop
  | nil : RVMs [] []
  | cons {x y l l'} : RVM x y → RVMs l l' → RVMs (x :: l) (y :: l')

def resOf (tmps : Array Value) : ResultVar → Sem Value
  | .tmp t => pure (tmps.getD t undef)
  | .cell a t => do loadVar t (← asAddr (tmps.getD a undef))

theorem retv_run (hS : Sim N w0 H0 S E a w H) {x y s} (hx : RVM x y) (h : S.retv y = some s) : ∃ v, (resOf a.tmps x).run Try.prog w = .ok v w ∧ Rep H E s v := by
  cases hx with
  | @tmp t => have h' : S.opd (.tmp t) = some s := h; exact ⟨a.eval (.tmp t), rfl, hS.opd h'⟩
  | @celA t ty d i h1 h2 h3 =>
    simp only [St.retv, Option.bind_eq_some_iff] at h
    obtain ⟨p, hp, ⟨cs, off⟩, hat, h⟩ := h
    simp only at h
    split at h
    · rename_i hl
      cases h
      obtain ⟨b, o', vs, hv, hR, h1c, hat⟩ := at_rep hS.ob hS.sub (hS.opd hp) hat
      have hv' : a.tmps.getD t undef = .pointer (some ⟨b, o' + off, none⟩) := hv
      have := (run_load_at (P := Try.prog) (off := off) h1 hat).1 i h2 h3 (by rw [← hR.length]; exact hl)
      refine ⟨_, by simp only [resOf, hv']; simpa [Instr.loadAt, Instr.sureAddr, asAddr] using this, .agg ((hR.drop off).take _) ?_⟩
      rw [List.all_eq_true] at h1c ⊢
      intro x hx
      exact h1c x (List.mem_of_mem_drop (List.mem_of_mem_take hx))
    · cases h
  | @cel1 t ty d h1 h2 =>
    simp only [St.retv, Option.bind_eq_some_iff] at h
    obtain ⟨p, hp, ⟨cs, off⟩, hat, h⟩ := h
    obtain ⟨b, o', vs, hv, hR, h1c, hat⟩ := at_rep hS.ob hS.sub (hS.opd hp) hat
    have hv' : a.tmps.getD t undef = .pointer (some ⟨b, o' + off, none⟩) := hv
    obtain ⟨u, hu, hr⟩ := hR.get h
    have := (run_load_at (P := Try.prog) (off := off) h1 hat).2 u h2 hu
    exact ⟨u, by simp only [resOf, hv']; simpa [Instr.loadAt, Instr.sureAddr, asAddr] using this, hr⟩

theorem retL_run (hS : Sim N w0 H0 S E a w H) : ∀ {xs ys l}, RVMs xs ys → S.retL ys = some l → ∃ vs, (xs.mapM (resOf a.tmps)).run Try.prog w = .ok vs w ∧ RepL H E0 l vs
  | _, _, l, .nil, h => by simp only [St.retL, Option.some.injEq] at h; subst h; exact ⟨[], by simp, .nil⟩
  | _, _, l, .cons hx hxs, h => by
    simp only [St.retL, Option.bind_eq_some_iff, Option.map_eq_some_iff] at h
    obtain ⟨y, ⟨z, hz, hy⟩, l', hl, rfl⟩ := h
    obtain ⟨v, hv, hr⟩ := retv_run hS hx hz
    obtain ⟨vs, hvs, hrs⟩ := retL_run hS hxs hl
    exact ⟨v :: vs, by simp [List.mapM_cons, hv, hvs], .cons (arg_rep hS.ob hr hy) hrs⟩

theorem Sim.frzRets : ∀ (l : List RV) {S : St} {H : Hp}, Sim N w0 H0 S E a w H → ∃ H', Le H H' ∧ Sim N w0 H0 (S.frzRets l) E a w H'
  | [], S, H, h => ⟨H, Le.refl _, h⟩
  | x :: l, S, H, h => by
    unfold St.frzRets
    split
    · rename_i s _
      obtain ⟨H1, l1, h1⟩ := h.frzSh s
      obtain ⟨H2, l2, h2⟩ := Sim.frzRets l h1
      exact ⟨H2, l1.trans l2, h2⟩
    · exact Sim.frzRets l h

theorem results_run (hS : Sim N w0 H0 S E a w H) {fn : Func} {rvs l} (hr : RVMs fn.results.toList rvs) (h : S.retL rvs = some l) : ∃ v, (results fn a.tmps).run Try.prog w = .ok v w ∧ Rep H E0 (ret1 l) v := by
  obtain ⟨vs, hvs, hrs⟩ := retL_run hS hr h
  have hrun : (fn.results.mapM (resOf a.tmps)).run Try.prog w = .ok vs.toArray w := by
    rw [Array.mapM_eq_mapM_toList]; simp [hvs]
  have he : results fn a.tmps = ((fn.results.mapM (resOf a.tmps)) >>= fun vs => pure (if h : vs.size = 1 then vs[0] else .tuple vs)) := by
    have e : (fun x : ResultVar => match x with
      | .tmp t => (pure (a.tmps.getD t undef) : Sem Value)
      | .cell b t => do loadVar t (← asAddr (a.tmps.getD b undef))) = resOf a.tmps := by funext x; cases x <;> rfl
    rw [← e]; rfl
  rw [he, Sem.run_bind, hrun]
  simp only [Result.andThen_ok, Sem.run_pure]
  refine ⟨_, rfl, ?_⟩
  cases hrs with
  | nil => exact .tup .nil
  | cons h1 t =>
    cases t with
    | nil => exact h1
    | cons h2 t => exact .tup (.cons h1 (.cons h2 t))

theorem argT_get : ∀ (args : List Sh) (vs : List Value) (i t : Nat) (x : Sh), RepL H E args vs → getA (argT i args) t = some x → ∃ u, vs[t - i]? = some u ∧ i ≤ t ∧ Rep H E x u
  | [], _, i, t, x, _, h => by cases h
  | y :: args, _, i, t, x, .cons h1 hr, h => by
    simp only [argT, getA] at h
    split at h
    · rename_i e; cases h; subst e; exact ⟨_, by simp, Nat.le_refl _, h1⟩
    · obtain ⟨u, hu, hi, hr⟩ := argT_get args _ (i + 1) t x hr h
      exact ⟨u, by rw [show t - i = (t - (i + 1)) + 1 by omega]; simpa using hu, by omega, hr⟩

/-- A function that the shadow machine tells. -/
theorem ok_of_ev {f : FuncId} {fn : Func} {c : Code} {sc : SC} {rvs : List RV} {args : List Sh} {r : Sh} (hf : Try.prog.funcs[f]? = some fn) (hb : fn.body = some c) (hm : Try.prog.follows .mixedOrders = true) (hc : CM fn.ntmps c sc) (hr : RVMs fn.results.toList rvs)
    (hn : args.length ≤ fn.ntmps) (h : evFn sc rvs args r) : Ok f args r := by
  intro w H vs hs hv
  have hl := hv.length
  refine calls_of_wp hf hb ?_
  have hS : Sim fn.ntmps w H ⟨argT 0 args, [], 0⟩ E0 { tmps := vs.toArray ++ Array.replicate (fn.ntmps - vs.toArray.size) undef, defers := [] } w H := by
    refine ⟨Grow.refl hs, fun t x hx => ?_, (fun i o h => by cases h), (by rintro i j _ ⟨_, h, _⟩; cases h), (fun i _ => rfl), (by simp; omega), rfl⟩
    obtain ⟨u, hu, _, hR⟩ := argT_get args vs 0 t x hv hx
    have ht : t < vs.length := by have := (List.getElem?_eq_some_iff.1 hu).1; simpa using this
    have e : (vs.toArray ++ Array.replicate (fn.ntmps - vs.toArray.size) undef)[t]? = some u := by
      rw [Array.getElem?_append_left (by simpa using ht)]; simpa using hu
    have e2 : ({ tmps := vs.toArray ++ Array.replicate (fn.ntmps - vs.toArray.size) undef, defers := [] } : Act).eval (.tmp t) = u := by
      simp only [Act.eval, Array.getD_eq_getD_getElem?, e, Option.getD_some]
    rw [e2]; exact hR
  refine wp_mono (ev_sound (K := fin rvs r) hm hc h hS) ?_
  intro e a' w' hq
  have fin' : End fn.ntmps w H (fun S => oB ((S.frzRets rvs).retL rvs) fun l => ret1 l = r) a' w' → a'.defers = [] ∧ ∃ v, (results fn a'.tmps).run Try.prog w' = .ok v w' ∧ RetPost w H (fun v : Value => v) (fun v H' => Rep H' E0 r v) (.returned v) w' := by
    rintro ⟨S', E', H', hk, hS'⟩
    obtain ⟨H2, _, hS2⟩ := hS'.frzRets rvs
    obtain ⟨l, hl, rfl⟩ := oB_elim hk
    obtain ⟨v, hv1, hv2⟩ := results_run hS2 hr hl
    exact ⟨hS2.df, v, hv1, ret_mk (c := fun v : Value => v) v H2 hS2.grow hv2⟩
  cases e with
  | normal => exact fin' hq
  | ret => exact fin' hq
  | exit id => obtain ⟨_, _, _, h, _⟩ := hq; exact h.elim
  | goto l => exact hq.elim
  | panic c => exact hq.elim
  | outgrown => exact hq.elim
end
end Go.Proofs.Ytijblpkdfmkcfaa
namespace Go.Proofs.Ytijblpkdfmkcfaa
set_option linter.unusedSimpArgs false
set_option linter.unusedVariables false
open Go.RowKit Go.Maps

def ZSh.isV : ZSh → Value → Bool
  | .int k, .int k' n => decide (k' = k) && decide (n = 0)
  | .bool, .bool b => !b
  | .sl _, .slice none 0 0 => true
  | .mp _, .map none => true
  | .nilFunc, .nilFunc => true
  | .nilIface, .nilIface => true
  | .nilPtr, .pointer none => true
  | _, _ => false
theorem ZSh.isV_spec {z : ZSh} {v : Value} (h : z.isV v = true) : v = z.val := by
  unfold ZSh.isV at h
  split at h <;> simp_all [ZSh.val]
def isZs : List ZSh → List Value → Bool
  | [], [] => true
  | z :: zs, v :: vs => z.isV v && isZs zs vs
  | _, _ => false
theorem isZs_spec : ∀ {zs : List ZSh} {vs : List Value}, isZs zs vs = true → vs = zs.map ZSh.val
  | [], [], _ => rfl
  | z :: zs, v :: vs, h => by
    simp only [isZs, Bool.and_eq_true] at h
    rw [ZSh.isV_spec h.1, isZs_spec h.2]; rfl
  | [], _ :: _, h => by cases h
  | _ :: _, [], h => by cases h

theorem undr_of {P : Program} (hP : P = Try.prog) {t : TypeId} {d : TypeDesc} (h : P.underlying t = some d) : Try.prog.underlying t = some d := by subst hP; exact h
theorem infr_of {P : Program} (hP : P = Try.prog) {t : TypeId} {d : TypeInfo} (h : P.info? t = some d) : Try.prog.info? t = some d := by subst hP; exact h
theorem fnr_of {P : Program} (hP : P = Try.prog) {t : FuncId} {d : Func} (h : P.funcs[t]? = some d) : Try.prog.funcs[t]? = some d := by subst hP; exact h
theorem places_of {P : Program} (hP : P = Try.prog) {fs : List Field} {places : List (Nat × Nat)} (h : fs.mapM (fun f => (P.info? f.type).map fun i => (f.offset, i.size)) = some places) :
    fs.mapM (fun f => (Try.prog.info? f.type).map fun i => (f.offset, i.size)) = some places := by subst hP; exact h
def optSub {α : Type} {p : α → Prop} : (o : Option α) → (∀ d, o = some d → p d) → Option {d : α // p d}
  | some d, h => some ⟨d, h d rfl⟩
  | none, _ => none
/-- What the types of a program's table are. -/
def undr (P : Program) (hP : P = Try.prog) (t : TypeId) : Option {d : TypeDesc // Try.prog.underlying t = some d} := optSub (P.underlying t) fun _ h => undr_of hP h
def infr (P : Program) (hP : P = Try.prog) (t : TypeId) : Option {i : TypeInfo // Try.prog.info? t = some i} := optSub (P.info? t) fun _ h => infr_of hP h
def fnr (P : Program) (hP : P = Try.prog) (f : FuncId) : Option {fn : Func // Try.prog.funcs[f]? = some fn} := optSub (P.funcs[f]?) fun _ h => fnr_of hP h

def zshL (g : TypeId → Option (List ZSh)) : List TypeId → Option (List ZSh)
  | [] => some []
  | t :: l => match g t, zshL g l with
    | some a, some b => some (a ++ b)
    | _, _ => none
def zshOf (P : Program) : Nat → TypeId → Option (List ZSh)
  | 0, _ => none
  | n + 1, t => match P.underlying t with
    | some (.int k) => some [.int k]
    | some .bool => some [.bool]
    | some (.slice e) => (P.info? e).map fun i => [.sl i.size]
    | some (.map kt _) => some [.mp kt]
    | some (.func _ _ _) => some [.nilFunc]
    | some (.interface _) => some [.nilIface]
    | some (.pointer _) => some [.nilPtr]
    | some (.struct fs) => zshL (zshOf P n) (fs.toList.map (·.type))
    | some (.array m e) => (zshOf P n e).map fun l => (List.replicate m l).flatten
    | _ => none

def opEq : Operand → Operand → Bool
  | .tmp a, .tmp b => decide (a = b)
  | .const (.int k n), .const (.int k' n') => decide (k = k') && decide (n = n')
  | _, _ => false
theorem opEq_spec {x y : Operand} (h : opEq x y = true) : x = y := by
  unfold opEq at h
  split at h <;> simp_all

theorem idxs_of {α : Type} : ∀ (l : List (Nat × α)) (j : Nat), l.map (·.1) = List.range' j l.length → l = idxs j (l.map (·.2))
  | [], j, _ => rfl
  | (i, x) :: l, j, h => by
    simp only [List.map_cons, List.length_cons, List.range'_succ, List.cons.injEq] at h
    obtain ⟨rfl, h⟩ := h
    simp only [List.map_cons, idxs]
    rw [← idxs_of l (i + 1) h]

theorem built_struct {t : TypeId} {it : TypeInfo} {fs : Array Field} {z : Value} {places : List (Nat × Nat)} (hi : Try.prog.info? t = some it) (hu : Try.prog.underlying t = some (.struct fs)) (hz : it.zero = some z)
    (hp : fs.toList.mapM (fun f => (Try.prog.info? f.type).map fun i => (f.offset, i.size)) = some places) (vals : List (Nat × Value)) : Try.prog.built t vals = Instr.fill (fun j => places[j]?) z.cells vals := by
  simp [Program.built, hi, hu, hz, hp]
theorem built_array {t e : TypeId} {it ie : TypeInfo} {m : Nat} {z : Value} (hi : Try.prog.info? t = some it) (hu : Try.prog.underlying t = some (.array m e)) (hz : it.zero = some z) (he : Try.prog.info? e = some ie) (vals : List (Nat × Value)) :
    Try.prog.built t vals = Instr.fill (fun i => some (i * ie.size, ie.size)) z.cells vals := by
  simp [Program.built, hi, hu, hz, he]

/-- The zero value of a type. -/
def zeroOf (P : Program) (hP : P = Try.prog) (t : TypeId) : Option {p : TypeInfo × Value × List ZSh // Try.prog.info? t = some p.1 ∧ p.1.zero = some p.2.1 ∧ p.2.1.cells.toList = p.2.2.map ZSh.val} :=
  match infr P hP t with
  | none => none
  | some ⟨i, hi⟩ => match hz : i.zero with
    | none => none
    | some z => match zshOf P 8 t with
      | none => none
      | some zs => if h : isZs zs z.cells.toList = true then some ⟨(i, z, zs), hi, hz, isZs_spec h⟩ else none

def sliceOf (P : Program) (hP : P = Try.prog) (t : TypeId) : Option {p : TypeId × TypeInfo // Try.prog.underlying t = some (.slice p.1) ∧ Try.prog.info? p.1 = some p.2} :=
  match undr P hP t with
  | some ⟨.slice e, hu⟩ => match infr P hP e with
    | some ⟨i, hi⟩ => some ⟨(e, i), hu, hi⟩
    | none => none
  | _ => none

def trBuild (P : Program) (hP : P = Try.prog) (t : TypeId) (parts : Array (Nat × Operand)) : Option {so : SOp // OpM (.build t parts) so} :=
  match zeroOf P hP t with
  | none => none
  | some ⟨(i, z, zs), hi, hz, hzs⟩ => match undr P hP t with
    | some ⟨.struct fs, hu⟩ => match hp : fs.toList.mapM (fun f => (P.info? f.type).map fun i => (f.offset, i.size)) with
      | some places => match hps : parts.toList.mapM (fun p => (places[p.1]?).map fun q => (q.1, q.2, p.2)) with
        | some ps => some ⟨.bld zs ps, .bld (pl := fun j => places[j]?) hi hz hzs (built_struct hi hu hz (places_of hP hp)) hps⟩
        | none => none
      | none => none
    | some ⟨.array m e, hu⟩ => match infr P hP e with
      | some ⟨ie, he⟩ => match hps : parts.toList.mapM (fun p => ((some (p.1 * ie.size, ie.size) : Option (Nat × Nat))).map fun q => (q.1, q.2, p.2)) with
        | some ps => some ⟨.bld zs ps, .bld (pl := fun j => some (j * ie.size, ie.size)) hi hz hzs (built_array hi hu hz he) hps⟩
        | none => none
      | none => none
    | _ => none

def trBuildSlice (P : Program) (hP : P = Try.prog) (t : TypeId) (len : Nat) (parts : Array (Nat × Operand)) : Option {so : SOp // OpM (.buildSlice t len parts) so} :=
  match sliceOf P hP t with
  | none => none
  | some ⟨(e, i), hu, hi⟩ => match hz : i.zero with
    | none => none
    | some z =>
      if h : z.cells.size = i.size ∧ 0 < i.size ∧ parts.toList.map (·.1) = List.range' 0 parts.toList.length ∧ len = (parts.toList.map (·.2)).length ∧ len * i.size ≤ 16777216 then
        some ⟨.bsl i.size (parts.toList.map (·.2)), by
          obtain ⟨h1, h2, h3, h4, h5⟩ := h
          subst h4
          exact .bsl hu hi hz h1 h2 (idxs_of _ 0 h3) h5⟩
      else none

def trAppend (P : Program) (hP : P = Try.prog) (t : TypeId) (x y : Operand) : Option {so : SOp // OpM (.call ⟨.builtin .append, #[x, y], #[t, t]⟩) so} :=
  match sliceOf P hP t with
  | some ⟨(e, i), hu, hi⟩ => match hz : i.zero with
    | some z => if h : z.cells.size = i.size ∧ 0 < i.size then some ⟨.app x y e i.size i.bytes, .app hu hi hz h.1 h.2⟩ else none
    | none => none
  | none => none

def trCall (P : Program) (hP : P = Try.prog) (c : Call) : Option {so : SOp // OpM (.call c) so} :=
  match c with
  | ⟨.value (.func f), args, tys⟩ => match fnr P hP f with
    | some ⟨fn, hf⟩ => if h : fn.body.isSome = true ∧ (fn.name == "runtime.NumGoroutine") = false then some ⟨.call f args.toList, .call hf h.1 h.2⟩ else none
    | none => none
  | ⟨.value (.tmp t), args, tys⟩ => some ⟨.callv (.tmp t) args.toList, .callv⟩
  | ⟨.builtin .len, ⟨[x]⟩, ⟨[t]⟩⟩ => match sliceOf P hP t with
    | some ⟨(e, i), hu, hi⟩ => some ⟨.len x, .len hu⟩
    | none => match undr P hP t with
      | some ⟨.map kt e, hu⟩ => match undr P hP kt with
        | some ⟨.int .i64, hk⟩ => some ⟨.lenm kt x, .lenm hu hk⟩
        | _ => none
      | _ => none
  | ⟨.builtin .max, ⟨[x, y]⟩, tys⟩ => some ⟨.mm true x y, .max⟩
  | ⟨.builtin .min, ⟨[x, y]⟩, tys⟩ => some ⟨.mm false x y, .min⟩
  | ⟨.builtin .append, ⟨[x, y]⟩, ⟨[t, t']⟩⟩ =>
    if ht : t = t' then match trAppend P hP t x y with
      | some ⟨so, h⟩ => some ⟨so, by subst ht; exact h⟩
      | none => none
    else none
  | ⟨.builtin .delete, ⟨[m, key]⟩, ⟨[t, t']⟩⟩ => match undr P hP t with
    | some ⟨.map kt e, hu⟩ => match undr P hP kt with
      | some ⟨.int .i64, hk⟩ => if ht : kt = t' then some ⟨.del kt m key, by subst ht; exact .del hu hk⟩ else none
      | _ => none
    | _ => none
  | ⟨.builtin .copy, ⟨[x, y]⟩, ⟨[t, t']⟩⟩ => match sliceOf P hP t with
    | some ⟨(e, i), hu, hi⟩ => some ⟨.cpy x y i.size, .cpy hu hi⟩
    | none => none
  | _ => none

def trLoad (P : Program) (hP : P = Try.prog) (t : TypeId) (x : Operand) : Option {so : SOp // OpM (.load t x) so} :=
  match undr P hP t with
  | some ⟨d, hu⟩ => if ha : aggB d = true then (match infr P hP t with | some ⟨i, hi⟩ => some ⟨.ld x (some i.size), .ldA hu ha hi⟩ | none => none) else some ⟨.ld x none, .ld1 hu (by simpa using ha)⟩
  | none => none
def trField (P : Program) (hP : P = Try.prog) (s : TypeId) (x : Operand) (j : Nat) : Option {so : SOp // OpM (.field s x j) so} :=
  match undr P hP s with
  | some ⟨.struct fs, hu⟩ => match hf : fs[j]? with
    | some f => match undr P hP f.type with
      | some ⟨d, hd⟩ => if ha : aggB d = true then (match infr P hP f.type with | some ⟨i, hi⟩ => some ⟨.fld x f.offset (some i.size), .fldA hu hf hi hd ha⟩ | none => none) else some ⟨.fld x f.offset none, .fld1 hu hf hd (by simpa using ha)⟩
      | none => none
    | none => none
  | _ => none
def trFieldAddr (P : Program) (hP : P = Try.prog) (s : TypeId) (x : Operand) (j : Nat) : Option {so : SOp // OpM (.fieldAddr s x j) so} :=
  match undr P hP s with
  | some ⟨.struct fs, hu⟩ => match hf : fs[j]? with
    | some f => match infr P hP f.type with
      | some ⟨i, hi⟩ => if hz : i.size ≠ 0 then some ⟨.fa x f.offset, .fa hu hf hi hz⟩ else none
      | none => none
    | none => none
  | _ => none
def trIndexAddr (P : Program) (hP : P = Try.prog) (t : TypeId) (x j : Operand) : Option {so : SOp // OpM (.indexAddr t x j) so} :=
  match undr P hP t with
  | some ⟨.slice e, hu⟩ => match infr P hP e with
    | some ⟨i, hi⟩ => if hp : 0 < i.size then some ⟨.ixa x j i.size, .ixa hu hi hp⟩ else none
    | none => none
  | some ⟨.array n e, hu⟩ => match infr P hP e with
    | some ⟨i, hi⟩ => some ⟨.ixp x j i.size n, .ixp hu hi⟩
    | none => none
  | _ => none
theorem one_zero {z : Value} {zz : ZSh} (h : z.oneCell' = true) (hzs : z.cells.toList = [zz].map ZSh.val) : z = zz.val := by
  have e1 : z.cells = #[z] := by cases z <;> simp_all [Value.cells, Value.oneCell']
  simpa [e1] using hzs
def agLookup {t kt e : TypeId} {i : TypeInfo} {z : Value} {zs : List ZSh} {m key : Operand} {ok : Bool} (hu : Try.prog.underlying t = some (.map kt e)) (hk : Try.prog.underlying kt = some (.int .i64)) (hi : Try.prog.info? e = some i) (hz : i.zero = some z) (hzs : z.cells.toList = zs.map ZSh.val) : Option {so : SOp // OpM (.lookup t m key ok) so} :=
  match z, hz, hzs with
  | .agg cs, hz, hzs => some ⟨.lkp kt m key (.ag zs) ok, .lkp (z := .ag zs) hu hk hi (by
      have : cs = (zs.map ZSh.val).toArray := by rw [← hzs]; simp [Value.cells]
      rw [hz, this]; rfl)⟩
  | _, _, _ => none
def trLookup (P : Program) (hP : P = Try.prog) (t : TypeId) (m key : Operand) (ok : Bool) : Option {so : SOp // OpM (.lookup t m key ok) so} :=
  match undr P hP t with
  | some ⟨.map kt e, hu⟩ => match undr P hP kt with
    | some ⟨.int .i64, hk⟩ => match zeroOf P hP e with
      | some ⟨(i, z, zs), hi, hz, hzs⟩ => (match zs, hzs with
        | [zz], hzs => if h : z.oneCell' = true then some ⟨.lkp kt m key (.one zz) ok, .lkp (z := .one zz) hu hk hi (by rw [show (ZAg.one zz).val = zz.val from rfl, ← one_zero h hzs]; exact hz)⟩ else agLookup hu hk hi hz hzs
        | zs, hzs => agLookup hu hk hi hz hzs)
      | _ => none
    | _ => none
  | _ => none
def trMakeSlice (P : Program) (hP : P = Try.prog) (t : TypeId) (n c : Operand) : Option {so : SOp // OpM (.makeSlice t n c) so} :=
  if hc : opEq n c = true then (match sliceOf P hP t with
    | some ⟨(e, i), hu, hi⟩ => match zeroOf P hP e with
      | some ⟨(i', z, zs), hi', hz, hzs⟩ => if h : z.cells.size = i.size ∧ 0 < i.size then some ⟨.mks n e i.size i.bytes zs, by
          have e1 := opEq_spec hc; subst e1
          have e2 : i = i' := Option.some.inj (hi.symm.trans hi')
          subst e2
          exact .mks hu hi hz hzs h.1 h.2⟩ else none
      | none => none
    | none => none) else none
def isIfc : TypeDesc → Bool
  | .interface _ => true
  | _ => false

def intOp : BinOp → Bool
  | .add | .sub | .mul | .quo | .rem | .eql | .neq | .lss | .leq | .gtr | .geq => true
  | _ => false
def trOp0 (P : Program) (hP : P = Try.prog) (op : Op) : Option {so : SOp // OpM op so} :=
  match op with
  | .move x => some ⟨.mv x, .mv⟩
  | .assign x => some ⟨.mv x, .asg⟩
  | .load t x => trLoad P hP t x
  | .fieldAddr s x j => trFieldAddr P hP s x j
  | .field s x j => trField P hP s x j
  | .indexAddr t x j => trIndexAddr P hP t x j
  | .build t parts => trBuild P hP t parts
  | .buildSlice t len parts => trBuildSlice P hP t len parts
  | .slice t x lo hi mx => match sliceOf P hP t with
    | some ⟨(e, i), hu, hi'⟩ => some ⟨.slc i.size x lo hi mx, .slc hu hi'⟩
    | none => none
  | .lookup t m key ok => trLookup P hP t m key ok
  | .extract x i => some ⟨.ext x i, .ext⟩
  | .binOp op t x y t2 => match P.underlying t with
    | some (.int _) => if intOp op = true then some ⟨.bin op x y, .bin⟩ else none
    | some (.interface _) => none
    | _ => match op with
      | .eql => some ⟨.eqv false t x y, .eqv⟩
      | .neq => some ⟨.eqv true t x y, .neqv⟩
      | _ => none
  | .unOp .not t x => some ⟨.not x, .not⟩
  | .convert src dst x => match undr P hP src, undr P hP dst with
    | some ⟨d, hs⟩, some ⟨.int k, hd⟩ => some ⟨.cnv k x, .cnv hs hd⟩
    | _, _ => none
  | .call c => trCall P hP c
  | .makeFunc f first cap => some ⟨.mkf f first.toList cap.toList, .mkf⟩
  | .makeInterface t x => match undr P hP t with
    | some ⟨d, hu⟩ => if h : isIfc d = false then some ⟨.mki t x, .mki hu (fun ms e => by subst e; cases h)⟩ else none
    | none => none
  | .pick c a b => some ⟨.pick c a b, .pick⟩
  | .range t x => match undr P hP t with
    | some ⟨.map kt e, hu⟩ => match undr P hP kt with
      | some ⟨.int .i64, hk⟩ => some ⟨.rng kt x, .rng hu hk⟩
      | _ => none
    | _ => none
  | .next x false => some ⟨.nxt x, .nxt⟩
  | .entry x => some ⟨.ent x, .ent⟩
  | .nilCheck x => some ⟨.nck x, .nck⟩
  | .makeSlice t n c => trMakeSlice P hP t n c
  | .makeMap t none => match undr P hP t with
    | some ⟨.map kt e, hu⟩ => match undr P hP kt with
      | some ⟨.int .i64, hk⟩ => some ⟨.mkm t kt, .mkm hu hk⟩
      | _ => none
    | _ => none
  | .alloc t => match zeroOf P hP t with
    | some ⟨(i, z, zs), hi, hz, hzs⟩ => some ⟨.alc t zs, .alc hi hz hzs⟩
    | none => none
  | .box t x => some ⟨.box t x, .box⟩
  | .store t x y => match infr P hP t with
    | some ⟨i, hi⟩ => some ⟨.st i.size x y, .st hi⟩
    | none => none
  | .mapUpdate t m key x => match undr P hP t with
    | some ⟨.map kt e, hu⟩ => match undr P hP kt with
      | some ⟨.int .i64, hk⟩ => some ⟨.mup kt m key x, .mup hu hk⟩
      | _ => none
    | _ => none
  | .insert t m key x => match undr P hP t with
    | some ⟨.map kt e, hu⟩ => match undr P hP kt with
      | some ⟨.int .i64, hk⟩ => some ⟨.mup kt m key x, .ins hu hk⟩
      | _ => none
    | _ => none
  | _ => none

/-- What an operation that is told by a relation reads. -/
def genOps : Op → Option (List Operand)
  | .typeAssert x _ _ _ => some [x]
  | .index _ x i => some [x, i]
  | .binOp _ _ x y _ => some [x, y]
  | .unOp _ _ x => some [x]
  | .convert _ _ x => some [x]
  | .slice _ x lo hi mx => some (x :: (lo.toList ++ hi.toList ++ mx.toList))
  | .call ⟨.invoke recv _, args, _⟩ => some (recv :: args.toList)
  | .panic x => some [x]
  | .call ⟨.builtin .max, args, _⟩ => some args.toList
  | .call ⟨.builtin .min, args, _⟩ => some args.toList
  | _ => none
def trOp (P : Program) (hP : P = Try.prog) (op : Op) : Option {so : SOp // OpM op so} :=
  match trOp0 P hP op with
  | some x => some x
  | none => (genOps op).map fun xs => ⟨.gen op xs, .gen⟩

/-- The slot of the operation that a guard names. -/
def trGuard (ops : Array Oper) : Option (Nat × Bool) → Option (Option (Nat × Bool))
  | none => some none
  | some (j, b) => match ops[j]? with
    | some oj => oj.dst.map fun t => some (t, b)
    | none => none
theorem trGuard_spec {ops : Array Oper} {o : Oper} {g : Option (Nat × Bool)} (h : trGuard ops o.guard = some g) : GdM ops o g := by
  unfold trGuard at h
  split at h
  · rename_i hg; cases h; exact hg
  · rename_i j b hg
    split at h
    · rename_i oj hj
      cases hd : oj.dst with
      | none => rw [hd] at h; cases h
      | some t => rw [hd] at h; cases h; exact ⟨j, oj, hg, hj, hd⟩
    · cases h

def ltB (N : Nat) : Option Nat → Bool
  | none => true
  | some d => decide (d < N)
def trOper (P : Program) (hP : P = Try.prog) (N : Nat) (ops : Array Oper) (o : Oper) : Option {g : GOp // GM N ops o g} :=
  match trOp P hP o.op, hg : trGuard ops o.guard with
  | some so, some gd => if h : ltB N o.dst = true then some ⟨⟨o.dst, gd, so.1⟩, rfl, so.2, fun t h' => (by rw [h'] at h; simpa [ltB] using h), trGuard_spec hg⟩ else none
  | _, _ => none

def trOpers (P : Program) (hP : P = Try.prog) (N : Nat) (ops : Array Oper) : (l : List Oper) → Option {gl : List GOp // GMs N ops l gl}
  | [] => some ⟨[], .nil⟩
  | o :: l => match trOper P hP N ops o, trOpers P hP N ops l with
    | some g, some gl => some ⟨g.1 :: gl.1, .cons g.2 gl.2⟩
    | _, _ => none

/-- The front operations that not all of those behind wait for. -/
def floatsOf (ops : Array Oper) (n : Nat) : List Nat :=
  (List.range n).filter fun j => (List.range ops.size).any fun i => decide (n ≤ i) && (match ops[i]? with | some o => !waits o j && !(downs ops i (wl o)).contains j | none => false)

def drawAt (N : Nat) (ops : Array Oper) (gl : List GOp) (n : Nat) : Bool :=
  agChk ops n (floatsOf ops n) && agDst ops n N && frontB ops n gl && floatB (floatsOf ops n) gl

def trCode (P : Program) (hP : P = Try.prog) (N : Nat) : (c : Code) → Option {sc : SC // CM N c sc}
  | .skip => some ⟨.skip, .skip⟩
  | .region id ops false => match trOpers P hP N ops ops.toList with
    | some gl => some ⟨.ops gl.1, .ops gl.2⟩
    | none => none
  | .region id ops true => match trOpers P hP N ops ops.toList with
    | some gl => match (List.range (ops.size + 1)).find? (drawAt N ops gl.1) with
      | some n => if h : drawAt N ops gl.1 n = true then some ⟨.drw n gl.1, by
          unfold drawAt at h
          simp only [Bool.and_eq_true] at h
          exact .drw gl.2 h.1.1.1 h.1.1.2 h.1.2 h.2⟩ else none
      | none => if 10 ≤ (gl.1.filter fun g => !g.op.flo2).length then (if h : (Region.noSelect ops && wlLow ops) = true then some ⟨.cfl (ops.toList.map wl) gl.1, by
          simp only [Bool.and_eq_true] at h
          exact .cfl gl.2 h.1 h.2⟩ else none)
        else if h : (Region.noSelect ops && otChk ops gl.1 [] (mkTr ops gl.1 ops.size [])) = true then some ⟨.ord (mkTr ops gl.1 ops.size []) gl.1, by
          simp only [Bool.and_eq_true] at h
          exact .ord gl.2 h.1 h.2⟩ else none
    | none => none
  | .seq a b => match trCode P hP N a, trCode P hP N b with
    | some x, some y => some ⟨.seq x.1 y.1, .seq x.2 y.2⟩
    | _, _ => none
  | .cond c a b => match trCode P hP N a, trCode P hP N b with
    | some x, some y => some ⟨.cond c x.1 y.1, .cond x.2 y.2⟩
    | _, _ => none
  | .block id a => match trCode P hP N a with
    | some x => some ⟨.block id x.1, .block x.2⟩
    | none => none
  | .loop a => match trCode P hP N a with
    | some x => some ⟨.loop x.1, .loop x.2⟩
    | none => none
  | .exit id => some ⟨.exit id, .exit⟩
  | .ret => some ⟨.ret, .ret⟩
  | _ => none

def trRV (P : Program) (hP : P = Try.prog) : (x : ResultVar) → Option {y : RV // RVM x y}
  | .tmp t => some ⟨.tmp t, .tmp⟩
  | .cell t ty => match undr P hP ty with
    | some ⟨d, hu⟩ => if ha : aggB d = true then (match infr P hP ty with | some ⟨i, hi⟩ => some ⟨.cel t (some i.size), .celA hu ha hi⟩ | none => none) else some ⟨.cel t none, .cel1 hu (by simpa using ha)⟩
    | none => none
def trRes (P : Program) (hP : P = Try.prog) : (l : List ResultVar) → Option {y : List RV // RVMs l y}
  | [] => some ⟨[], .nil⟩
  | x :: l => match trRV P hP x, trRes P hP l with
    | some y, some ys => some ⟨y.1 :: ys.1, .cons y.2 ys.2⟩
    | _, _ => none

def trFn (P : Program) (hP : P = Try.prog) (fn : Func) : Option (SC × List RV) :=
  match fn.body with
  | none => none
  | some c => match trCode P hP fn.ntmps c, trRes P hP fn.results.toList with
    | some x, some y => some (x.1, y.1)
    | _, _ => none

theorem mixed : Try.prog.follows .mixedOrders = true := by kernel_rfl

/-- A function is told by its shadow code. -/
theorem ok_of_tr {f : FuncId} {fn : Func} {sc : SC} {rvs : List RV} {args : List Sh} {r : Sh} (hf : Try.prog.funcs[f]? = some fn) (ht : trFn Try.prog rfl fn = some (sc, rvs)) (hn : Nat.ble args.length fn.ntmps = true) (h : evFn sc rvs args r) : Ok f args r := by
  unfold trFn at ht
  split at ht
  · cases ht
  · rename_i c hb
    split at ht
    · rename_i x y _ _
      cases ht
      exact ok_of_ev hf hb mixed x.2 y.2 (Nat.le_of_ble_eq_true hn) h
    · cases ht
end Go.Proofs.Ytijblpkdfmkcfaa
namespace Go.Proofs.Ytijblpkdfmkcfaa
set_option linter.unusedSimpArgs false
set_option linter.unusedVariables false
open Go.RowKit Go.Maps

theorem oB_none {α : Type} (k : α → Prop) : oB none k = False := rfl
variable {S F : St} {K : Ex → St → Prop} {L : St → Prop}

theorem eS {a b : SC} (h : ∀ K1 : Ex → St → Prop, (∀ ks S', ev b (S'.keep ks) K → K1 .next S') → (∀ S', K .ret S' → K1 .ret S') → (∀ i S', K (.exit i) S' → K1 (.exit i) S') → ev a S K1) : ev (.seq a b) S K :=
  h _ (fun ks _ h => ⟨ks, h⟩) (fun _ h => h) (fun _ _ h => h)
theorem eB {id : Nat} {a : SC} (h : ∀ K1 : Ex → St → Prop, (∀ S', K .next S' → K1 .next S') → (∀ S', K .next S' → K1 (.exit id) S') → (∀ S', K .ret S' → K1 .ret S') → (∀ i S', i ≠ id → K (.exit i) S' → K1 (.exit i) S') → ev a S K1) : ev (.block id a) S K :=
  h _ (fun _ h => h) (fun S' h => by simp only [if_true]; exact h) (fun _ h => h) (fun i S' hi h => by simp only [if_neg hi]; exact h)
theorem eCt {c : Operand} {a b : SC} (h : ev a S K) (hc : S.opd c = some (.v (.bool true)) := by rfl) : ev (.cond c a b) S K := by
  show oB (S.opd c) _
  rw [hc]
  exact ⟨fun _ => h, (fun h => nomatch h)⟩
theorem eCf {c : Operand} {a b : SC} (h : ev b S K) (hc : S.opd c = some (.v (.bool false)) := by rfl) : ev (.cond c a b) S K := by
  show oB (S.opd c) _
  rw [hc]
  exact ⟨(fun h => nomatch h), fun _ => h⟩
theorem eC {c : Operand} {a b : SC} {t : Bool} (hc : S.opd c = some (.v (.bool t))) (h1 : t = true → ev a S K) (h2 : t = false → ev b S K) : ev (.cond c a b) S K := by
  show oB (S.opd c) _
  rw [hc]
  exact ⟨h1, h2⟩
theorem eW {a : SC} (I : Nat → St → Prop) (m : Nat) (kp : Option (List Nat × Option (List Nat × Nat))) (cs : List Cst) (h0 : I m ((S.casts cs).keep kp)) (h : ∀ k S1, I k S1 → ∀ K1 : Ex → St → Prop, (∀ k' kp S', k' < k → I k' (S'.keep kp) → K1 .next S') → (∀ S', K .ret S' → K1 .ret S') → (∀ i S', K (.exit i) S' → K1 (.exit i) S') → ev a S1 K1) : ev (.loop a) S K :=
  ⟨I, m, kp, cs, h0, fun k S1 hk => h k S1 hk _ (fun k' kp S' h1 h2 => ⟨k', kp, h1, h2⟩) (fun _ h => h) (fun _ _ h => h)⟩
theorem evL_append : ∀ {a b : List GOp} {S : St} {L : St → Prop}, evL (a ++ b) S L ↔ evL a S fun S' => evL b S' L
  | [], _, _, _ => Iff.rfl
  | o :: a, b, S, L => by
    have e : (fun S' => evL (a ++ b) S' L) = fun S' => evL a S' fun S'' => evL b S'' L := funext fun S' => propext (evL_append (a := a) (b := b))
    simp only [List.cons_append, evL]
    rw [e]
/-- What is left of a list of operations: nothing that is taken apart by itself. -/
inductive kL (l : List GOp) (L : St → Prop) (S : St) : Prop
  | mk (h : evL l S L)
  | no (h : False)
inductive kF (l : List GOp) (L : St → Prop) (S F : St) (ts : List TypeId) : Prop
  | mk (h : evF l S F ts L)
  | no (h : False)
theorem kL_mk {l : List GOp} (h : evL l S L) : kL l L S := .mk h
theorem kF_mk {l : List GOp} {F : St} {ts : List TypeId} (h : evF l S F ts L) : kF l L S F ts := .mk h
theorem kL_eq (l : List GOp) (L : St → Prop) : kL l L = fun S => evL l S L := funext fun S => propext ⟨fun h => by cases h with | mk h => exact h | no h => exact h.elim, .mk⟩
theorem kF_eq (l : List GOp) (L : St → Prop) : kF l L = fun S F ts => evF l S F ts L := funext fun S => funext fun F => funext fun ts => propext ⟨fun h => by cases h with | mk h => exact h | no h => exact h.elim, .mk⟩
theorem toKL {l : List GOp} (h : kL l L S) : evL l S L := by
  cases h with
  | mk h => exact h
  | no h => exact h.elim
theorem toKF {l : List GOp} {ts : List TypeId} (h : kF l L S F ts) : evF l S F ts L := by
  cases h with
  | mk h => exact h
  | no h => exact h.elim
theorem eO {l : List GOp} (h : ∀ K1 : St → Prop, (∀ S', K .next S' → K1 S') → kL l K1 S) : ev (.ops l) S K := ⟨[], [], toKL (h _ (fun _ h => h))⟩
theorem eOc (cs : List Cst) {l : List GOp} (h : ∀ K1 : St → Prop, (∀ S', K .next S' → K1 S') → kL l K1 (S.casts cs)) : ev (.ops l) S K := ⟨[], cs, toKL (h _ (fun _ h => h))⟩
theorem eQ (cs : List Cst) (S1 : St) {t : OTr} {l : List GOp} (h1 : ∀ L : St → Prop, (∀ S' kp, (S'.keep kp).sorted = S1 → L S') → evTr t l (S.casts cs) L) (h2 : K .next S1) : ev (.ord t l) S K :=
  ⟨cs, S1, h1 _ (fun S' kp h => ⟨kp, h⟩), h2⟩
theorem evTr_flo {i : Nat} {t : OTr} {l : List GOp} {o : GOp} (ho : l[i]? = some o) (h : ∀ L1 : St → Prop, (∀ S', evTr t l S' L → L1 S') → evG o S L1) : evTr (.flo i t) l S L := by
  show oB l[i]? _
  rw [ho]; exact h _ (fun _ h => h)
theorem evTr_step {i : Nat} {t : OTr} {l : List GOp} {o : GOp} (ho : l[i]? = some o) (h : ∀ L1 : St → Prop, (∀ S', evTr t l S' L → L1 S') → evG o S L1) : evTr (.step i t) l S L := by
  show oB l[i]? _
  rw [ho]; exact h _ (fun _ h => h)
theorem eD (gs : List Sh) {n : Nat} {l : List GOp} (h : ∀ K1 : St → Prop, (∀ S', kL (l.drop n) (K .next) S' → K1 S') → kF (l.take n) K1 (S.frzAll gs) (S.frzAll gs) []) : ev (.drw n l) S K := ⟨gs, [], toKF (h _ (fun _ h => toKL h))⟩
/-- The front with both states handed on. -/
def evG2 : List GOp → St → St → List TypeId → (St → St → List TypeId → Prop) → Prop
  | [], S, F, ts, K => K S F ts
  | o :: l, S, F, ts, K => evF1 o S F ts fun S' F' ts' => evG2 l S' F' ts' K
where evF1 (o : GOp) (S F : St) (ts : List TypeId) (K : St → St → List TypeId → Prop) : Prop :=
    match o.g with
    | none => (match newV S o.op with
      | some p => oB p fun p => ts.contains p.1 = false ∧ K (S.del? o.d) ((F.newO (.box p.1 p.2)).put? o.d (.ptr F.n 0 0)) (p.1 :: ts)
      | none => (match newR o.op with
        | some q => (evA o.op S fun s => K (S.put? o.d s) (F.put? o.d s) ts) ∨ rowF S q fun es => ts.contains q.2.2.1 = false ∧ K (S.del? o.d) ((F.newO (.row q.2.2.1 q.2.2.2.1 es)).put? o.d (.own F.n)) (q.2.2.1 :: ts)
        | none => evA o.op S fun s => K (S.put? o.d s) (F.put? o.d s) ts))
    | some (t, b) => oB (S.opd (.tmp t)) fun s => match s with
      | .v (.bool bb) => (bb = b → evA o.op S fun s => K (S.put? o.d s) (F.put? o.d s) ts) ∧ (bb = !b → K (S.del? o.d) (F.del? o.d) ts)
      | _ => False
theorem evF_eq (o : GOp) (l : List GOp) (S F : St) (ts : List TypeId) (K1 : St → Prop) : evF (o :: l) S F ts K1 = evG2.evF1 o S F ts fun S' F' ts' => evF l S' F' ts' K1 := by
  conv => lhs; unfold evF
  rfl
theorem evF_append : ∀ (a b : List GOp) (S F : St) (ts : List TypeId) (K1 : St → Prop), evF (a ++ b) S F ts K1 = evG2 a S F ts fun S' F' ts' => evF b S' F' ts' K1
  | [], _, _, _, _, _ => rfl
  | o :: a, b, S, F, ts, K1 => by
    have e : (fun S' F' ts' => evF (a ++ b) S' F' ts' K1) = fun S' F' ts' => evG2 a S' F' ts' fun S' F' ts' => evF b S' F' ts' K1 := by
      funext S' F' ts'; exact evF_append a b S' F' ts' K1
    rw [List.cons_append, evF_eq, e]; rfl
structure TkN (n : Nat) : Prop
theorem eL {n : Nat} (_ : TkN n) {l : List GOp} (h : evL (l.take n) S (kL (l.drop n) L)) : evL l S L := by
  rw [kL_eq] at h
  rw [← List.take_append_drop n l, evL_append]
  exact h
theorem eF {n : Nat} (_ : TkN n) {l : List GOp} {F : St} {ts : List TypeId} (h : evG2 (l.take n) S F ts (kF (l.drop n) L)) : evF l S F ts L := by
  rw [kF_eq] at h
  rw [← List.take_append_drop n l, evF_append]
  exact h
end Go.Proofs.Ytijblpkdfmkcfaa
set_option linter.defProp false
namespace Go.Proofs.Ytijblpkdfmkcfaa
set_option linter.unusedSimpArgs false
set_option linter.unusedVariables false
open Go.RowKit Go.Maps

def shL0 := And.intro @evFn.eq_1 (And.intro @evL.eq_1 (And.intro @evL.eq_2 (And.intro @evG.eq_1 (And.intro @evF.eq_1 (And.intro @evF.eq_2 (And.intro @evG2.eq_1 (And.intro @evG2.eq_2 (And.intro @evG2.evF1.eq_1 (And.intro @evOp.eq_1 (And.intro @evOp.eq_2 (And.intro @evOp.eq_3 (And.intro @evOp.eq_4 (And.intro @evOp.eq_5 (And.intro @evOp.eq_6 (And.intro @evOp.eq_7 (And.intro @evOp.eq_8 (And.intro @evOp.eq_9 (And.intro @evOp.eq_10 (And.intro @evOp.eq_11 (And.intro @evOp.eq_12 (And.intro @evOp.eq_13 (And.intro @evOp.eq_14 (And.intro @evOp.eq_15 (And.intro @evOp.eq_16 (And.intro @evOp.eq_17 (And.intro @evOp.eq_18 (And.intro @evOp.eq_19 (And.intro @evOp.eq_20 (And.intro @evOp.eq_21 (And.intro @evOp.eq_22 (And.intro @evOp.eq_23 (And.intro @evOp.eq_24 (And.intro @evOp.eq_25 (And.intro @evOp.eq_26 (And.intro @evOp.eq_27 (And.intro @evOp.eq_28 (And.intro @evOp.eq_29 (And.intro @evOp.eq_30 (@evOp.eq_31)))))))))))))))))))))))))))))))))))))))
def shL1 := And.intro @evOp.eq_32 (And.intro @evOp.eq_33 (And.intro @evOp.eq_34 (And.intro @evOp.eq_35 (And.intro @evOp.eq_36 (And.intro @evOp.eq_37 (And.intro @evOp.eq_38 (And.intro @evCall.eq_1 (And.intro @evA.eq_1 (And.intro @evA.eq_2 (And.intro @evA.eq_3 (And.intro @evA.eq_4 (And.intro @evA.eq_5 (And.intro @evA.eq_6 (And.intro @evA.eq_7 (And.intro @evA.eq_8 (And.intro @evA.eq_9 (And.intro @evA.eq_10 (And.intro @evA.eq_11 (And.intro @evA.eq_12 (And.intro @evA.eq_13 (And.intro @evA.eq_14 (And.intro @evA.eq_15 (And.intro @evA.eq_16 (And.intro @evA.eq_17 (And.intro @evA.eq_18 (And.intro @evA.eq_19 (And.intro @evA.eq_20 (And.intro @evA.eq_21 (And.intro @evA.eq_22 (And.intro @evA.eq_23 (And.intro @evA.eq_24 (And.intro @evA.eq_25 (And.intro @evA.eq_26 (And.intro @evA.eq_27 (And.intro @evA.eq_28 (And.intro @newV.eq_1 (And.intro @newV.eq_2 (And.intro @newV.eq_3 (@newV.eq_4)))))))))))))))))))))))))))))))))))))))
def shL2 := And.intro @newV.eq_5 (And.intro @newV.eq_6 (And.intro @newV.eq_7 (And.intro @newV.eq_8 (And.intro @newV.eq_9 (And.intro @newV.eq_10 (And.intro @newV.eq_11 (And.intro @newV.eq_12 (And.intro @newV.eq_13 (And.intro @newV.eq_14 (And.intro @newV.eq_15 (And.intro @newV.eq_16 (And.intro @newV.eq_17 (And.intro @newV.eq_18 (And.intro @newV.eq_19 (And.intro @newV.eq_20 (And.intro @newV.eq_21 (And.intro @newV.eq_22 (And.intro @newV.eq_23 (And.intro @newV.eq_24 (And.intro @newV.eq_25 (And.intro @newV.eq_26 (And.intro @newV.eq_27 (And.intro @newV.eq_28 (And.intro @newV.eq_29 (And.intro @newV.eq_30 (And.intro @newV.eq_31 (And.intro @newV.eq_32 (And.intro @newV.eq_33 (And.intro @newV.eq_34 (And.intro @newV.eq_35 (And.intro @newV.eq_36 (And.intro @newV.eq_37 (And.intro @newV.eq_38 (And.intro @newR.eq_1 (And.intro @newR.eq_2 (And.intro @newR.eq_3 (And.intro @newR.eq_4 (And.intro @newR.eq_5 (@newR.eq_6)))))))))))))))))))))))))))))))))))))))
def shL3 := And.intro @newR.eq_7 (And.intro @newR.eq_8 (And.intro @newR.eq_9 (And.intro @newR.eq_10 (And.intro @newR.eq_11 (And.intro @newR.eq_12 (And.intro @newR.eq_13 (And.intro @newR.eq_14 (And.intro @newR.eq_15 (And.intro @newR.eq_16 (And.intro @newR.eq_17 (And.intro @newR.eq_18 (And.intro @newR.eq_19 (And.intro @newR.eq_20 (And.intro @newR.eq_21 (And.intro @newR.eq_22 (And.intro @newR.eq_23 (And.intro @newR.eq_24 (And.intro @newR.eq_25 (And.intro @newR.eq_26 (And.intro @newR.eq_27 (And.intro @newR.eq_28 (And.intro @newR.eq_29 (And.intro @newR.eq_30 (And.intro @newR.eq_31 (And.intro @newR.eq_32 (And.intro @newR.eq_33 (And.intro @newR.eq_34 (And.intro @newR.eq_35 (And.intro @newR.eq_36 (And.intro @newR.eq_37 (And.intro @newR.eq_38 (And.intro @rowF.eq_1 (And.intro @cut.eq_1 (And.intro @cut.eq_2 (And.intro @oB_some (And.intro @oB_none (And.intro @St.opd.eq_1 (And.intro @St.opd.eq_2 (@St.opd.eq_3)))))))))))))))))))))))))))))))))))))))
def shL4 := And.intro @St.opd.eq_4 (And.intro @St.res.eq_1 (And.intro @St.res.eq_2 (And.intro @St.res.eq_3 (And.intro @St.res.eq_4 (And.intro @St.res.eq_5 (And.intro @St.res.eq_6 (And.intro @St.res.eq_7 (And.intro @St.res.eq_8 (And.intro @St.res.eq_9 (And.intro @St.res.eq_10 (And.intro @St.res.eq_11 (And.intro @getA.eq_1 (And.intro @getA.eq_2 (And.intro @delA.eq_1 (And.intro @delA.eq_2 (And.intro @St.put.eq_1 (And.intro @St.put?.eq_1 (And.intro @St.put?.eq_2 (And.intro @St.del?.eq_1 (And.intro @St.del?.eq_2 (And.intro @St.setO.eq_1 (And.intro @St.newO.eq_1 (And.intro @St.args.eq_1 (And.intro @St.args.eq_2 (And.intro @St.arg.eq_1 (And.intro @St.arg.eq_2 (And.intro @St.arg.eq_3 (And.intro @St.arg.eq_4 (And.intro @St.arg.eq_5 (And.intro @St.arg.eq_6 (And.intro @St.arg.eq_7 (And.intro @St.arg.eq_8 (And.intro @St.arg.eq_9 (And.intro @St.arg.eq_10 (And.intro @St.arg.eq_11 (And.intro @St.arg1.eq_1 (And.intro @St.argL.eq_1 (And.intro @St.argL.eq_2 (@Sh.pure.eq_1)))))))))))))))))))))))))))))))))))))))
def shL5 := And.intro @Sh.pure.eq_2 (And.intro @Sh.pure.eq_3 (And.intro @Sh.pure.eq_4 (And.intro @Sh.pure.eq_5 (And.intro @Sh.pure.eq_6 (And.intro @Sh.pure.eq_7 (And.intro @Sh.pure.eq_8 (And.intro @Sh.pure.eq_9 (And.intro @Sh.pure.eq_10 (And.intro @Sh.pure.eq_11 (And.intro @Sh.one.eq_1 (And.intro @Sh.one.eq_2 (And.intro @Sh.one.eq_3 (And.intro @Sh.one.eq_4 (And.intro @Sh.one.eq_5 (And.intro @Sh.one.eq_6 (And.intro @Sh.one.eq_7 (And.intro @Sh.one.eq_8 (And.intro @Sh.one.eq_9 (And.intro @Sh.one.eq_10 (And.intro @Sh.one.eq_11 (And.intro @Sh.cells.eq_1 (And.intro @Sh.cells.eq_2 (And.intro @Sh.cells.eq_3 (And.intro @Sh.cells.eq_4 (And.intro @Sh.cells.eq_5 (And.intro @Sh.cells.eq_6 (And.intro @Sh.cells.eq_7 (And.intro @Sh.cells.eq_8 (And.intro @Sh.cells.eq_9 (And.intro @Sh.cells.eq_10 (And.intro @Sh.cells.eq_11 (And.intro @St.at.eq_1 (And.intro @St.at.eq_2 (And.intro @St.at.eq_3 (And.intro @St.frzOpds.eq_1 (And.intro @St.frzOpds.eq_2 (And.intro @SOp.pures.eq_1 (And.intro @SOp.pures.eq_2 (@SOp.pures.eq_3)))))))))))))))))))))))))))))))))))))))
def shL6 := And.intro @SOp.pures.eq_4 (And.intro @SOp.pures.eq_5 (And.intro @SOp.pures.eq_6 (And.intro @SOp.pures.eq_7 (And.intro @SOp.pures.eq_8 (And.intro @SOp.pures.eq_9 (And.intro @SOp.pures.eq_10 (And.intro @SOp.pures.eq_11 (And.intro @SOp.pures.eq_12 (And.intro @SOp.pures.eq_13 (And.intro @SOp.pures.eq_14 (And.intro @SOp.pures.eq_15 (And.intro @SOp.pures.eq_16 (And.intro @SOp.pures.eq_17 (And.intro @SOp.pures.eq_18 (And.intro @SOp.pures.eq_19 (And.intro @SOp.pures.eq_20 (And.intro @SOp.pures.eq_21 (And.intro @SOp.pures.eq_22 (And.intro @SOp.pures.eq_23 (And.intro @SOp.pures.eq_24 (And.intro @SOp.pures.eq_25 (And.intro @SOp.pures.eq_26 (And.intro @SOp.pures.eq_27 (And.intro @SOp.pures.eq_28 (And.intro @SOp.pures.eq_29 (And.intro @SOp.pures.eq_30 (And.intro @SOp.pures.eq_31 (And.intro @SOp.pures.eq_32 (And.intro @SOp.pures.eq_33 (And.intro @SOp.pures.eq_34 (And.intro @SOp.pures.eq_35 (And.intro @SOp.pures.eq_36 (And.intro @SOp.pures.eq_37 (And.intro @SOp.pures.eq_38 (And.intro @St.frzSh.eq_1 (And.intro @St.frzSh.eq_2 (And.intro @St.frzSh.eq_3 (And.intro @St.frzSh.eq_4 (@St.frzSh.eq_5)))))))))))))))))))))))))))))))))))))))
def shL7 := And.intro @St.frzSh.eq_6 (And.intro @St.frzSh.eq_7 (And.intro @St.frzSh.eq_8 (And.intro @St.frzSh.eq_9 (And.intro @St.frzSh.eq_10 (And.intro @St.frzSh.eq_11 (And.intro @St.frzRow.eq_1 (And.intro @St.frzCells.eq_1 (And.intro @St.frzCells.eq_2 (And.intro @St.frzCells.eq_3 (And.intro @St.frzCells.eq_4 (And.intro @St.frzCells.eq_5 (And.intro @St.frzCells.eq_6 (And.intro @St.frzCells.eq_7 (And.intro @St.frzCells.eq_8 (And.intro @St.frzCells.eq_9 (And.intro @St.frzCells.eq_10 (And.intro @St.frzCells.eq_11 (And.intro @St.frzCells.eq_12 (And.intro @St.frzBox.eq_1 (And.intro @fillS.eq_1 (And.intro @fillS.eq_2 (And.intro @St.elems.eq_1 (And.intro @St.elems.eq_2 (And.intro @St.optInt.eq_1 (And.intro @St.optInt.eq_2 (And.intro @slG.eq_1 (And.intro @slG.eq_2 (And.intro @slG.eq_3 (And.intro @ZSh.sh.eq_1 (And.intro @ZSh.sh.eq_2 (And.intro @ZSh.sh.eq_3 (And.intro @ZSh.sh.eq_4 (And.intro @ZSh.sh.eq_5 (And.intro @ZSh.sh.eq_6 (And.intro @ZSh.sh.eq_7 (And.intro @ZSh.sh.eq_8 (And.intro @ZAg.sh.eq_1 (And.intro @ZAg.sh.eq_2 (@pickO.eq_1)))))))))))))))))))))))))))))))))))))))
def shL8 := And.intro @pickO.eq_2 (And.intro @intBin.eq_1 (And.intro @intBin.eq_2 (And.intro @intBin.eq_3 (And.intro @intBin.eq_4 (And.intro @intBin.eq_5 (And.intro @intBin.eq_6 (And.intro @intBin.eq_7 (And.intro @intBin.eq_8 (And.intro @intBin.eq_9 (And.intro @intBin.eq_10 (And.intro @intBin.eq_11 (And.intro @intBin.eq_12 (And.intro @St.frzRets.eq_1 (And.intro @St.frzRets.eq_2 (And.intro @St.retv.eq_1 (And.intro @St.retv.eq_2 (And.intro @St.retL.eq_1 (And.intro @St.retL.eq_2 (And.intro @ret1.eq_1 (And.intro @ret1.eq_2 (And.intro @argT.eq_1 (And.intro @argT.eq_2 (And.intro @Go.Value.oneCell'.eq_1 (And.intro @Go.Value.oneCell'.eq_2 (And.intro @Go.Value.oneCell'.eq_3 (And.intro @List.map_cons.{0, 0} (And.intro @List.map_nil.{0, 0} (And.intro @List.all_cons.{0} (And.intro @List.all_nil.{0} (And.intro @List.take_succ_cons.{0} (And.intro @List.take_zero.{0} (And.intro @List.drop_succ_cons.{0} (And.intro @List.drop_zero.{0} (And.intro @List.append_nil.{0} (And.intro @List.nil_append.{0} (And.intro @List.cons_append.{0} (And.intro @List.length_cons.{0} (And.intro @List.length_nil.{0} (@List.set_cons_zero.{0})))))))))))))))))))))))))))))))))))))))
def shL9 := And.intro @List.set_cons_succ.{0} (And.intro @List.getElem?_cons_zero.{0} (And.intro @List.getElem?_cons_succ.{0} (And.intro @Option.map_some.{0, 0} (And.intro @Option.map_none.{0, 0} (And.intro @Option.bind_some.{0, 0} (And.intro @Option.bind_none.{0, 0} (And.intro @Option.isNone_some.{0} (And.intro @Option.isNone_none.{0} (And.intro @Option.isSome_some.{0} (And.intro @Bool.and_true (And.intro @Bool.true_and (And.intro @Bool.not_true (And.intro @Bool.not_false (And.intro @Bool.and_self (And.intro @decide_true (And.intro @decide_false (And.intro @Bool.false_eq_true (And.intro @Bool.true_eq_false (And.intro @keepT.eq_1 (And.intro @keepT.eq_2 (And.intro @St.keep.eq_1 (And.intro @St.keep.eq_2 (And.intro @St.keep.eq_3 (And.intro @refsT.eq_1 (And.intro @refsT.eq_2 (And.intro @refsO.eq_1 (And.intro @refsO.eq_2 (And.intro @refsO.eq_3 (And.intro @refsO.eq_4 (And.intro @refsO.eq_5 (And.intro @refsO.eq_6 (And.intro @refsO.eq_7 (And.intro @refsO.eq_8 (And.intro @refsO.eq_9 (And.intro @refsO.eq_10 (And.intro @refsL.eq_1 (And.intro @refsL.eq_2 (And.intro @refsC.eq_1 (@refsC.eq_2)))))))))))))))))))))))))))))))))))))))
def shL10 := And.intro @refsC.eq_3 (And.intro @refsC.eq_4 (And.intro @refsC.eq_5 (And.intro @refsC.eq_6 (And.intro @refsC.eq_7 (And.intro @refsC.eq_8 (And.intro @refsC.eq_9 (And.intro @refsC.eq_10 (And.intro @refsC.eq_11 (And.intro @refsOk.eq_1 (And.intro @refsOk.eq_2 (And.intro @refsOk.eq_3 (And.intro @refsOk.eq_4 (And.intro @refsOk.eq_5 (And.intro @refsOk.eq_6 (And.intro @refsOk.eq_7 (And.intro @refsOk.eq_8 (And.intro @refsOk.eq_9 (And.intro @refsOk.eq_10 (And.intro @refsOk.eq_11 (And.intro @renT.eq_1 (And.intro @renT.eq_2 (And.intro @renSh.eq_1 (And.intro @renSh.eq_2 (And.intro @renSh.eq_3 (And.intro @renSh.eq_4 (And.intro @renSh.eq_5 (And.intro @renSh.eq_6 (And.intro @renSh.eq_7 (And.intro @renSh.eq_8 (And.intro @renSh.eq_9 (And.intro @renSh.eq_10 (And.intro @renSh.eq_11 (And.intro @renC.eq_1 (And.intro @renC.eq_2 (And.intro @renC.eq_3 (And.intro @renC.eq_4 (And.intro @renC.eq_5 (And.intro @renC.eq_6 (@renC.eq_7)))))))))))))))))))))))))))))))))))))))
def shL11 := And.intro @renC.eq_8 (And.intro @renC.eq_9 (And.intro @renC.eq_10 (And.intro @renC.eq_11 (And.intro @renO.eq_1 (And.intro @renO.eq_2 (And.intro @renOb.eq_1 (And.intro @renOb.eq_2 (And.intro @renOb.eq_3 (And.intro @renOb.eq_4 (And.intro @renOb.eq_5 (And.intro @renOb.eq_6 (And.intro @renOb.eq_7 (And.intro @renOb.eq_8 (And.intro @renOb.eq_9 (And.intro @idxN.eq_1 (And.intro @idxN.eq_2 (And.intro @St.casts.eq_1 (And.intro @St.casts.eq_2 (And.intro @St.cast.eq_1 (And.intro @St.cast.eq_2 (And.intro @St.cast.eq_3 (And.intro @St.cast.eq_4 (And.intro @St.cast.eq_5 (And.intro @St.cast.eq_6 (And.intro @St.cast.eq_7 (And.intro @nilS.eq_1 (And.intro @nilS.eq_2 (And.intro @nilS.eq_3 (And.intro @Bool.true_or (And.intro @List.range_zero (And.intro @true_and (And.intro @and_true (And.intro @and_self (And.intro @false_implies (And.intro @true_implies (And.intro @Nat.zero_add (And.intro @Nat.add_zero (And.intro @Nat.le_refl (@List.contains_nil.{0})))))))))))))))))))))))))))))))))))))))
def shL12 := And.intro @List.contains_cons.{0} (And.intro @Bool.or_false (And.intro @Bool.or_true (And.intro @Bool.false_or (And.intro @St.frzAll.eq_1 (And.intro @St.frzAll.eq_2 (And.intro @decide_eq_true_eq (@beq_self_eq_true.{0})))))))
def shA := And.intro shL0 (And.intro shL1 (And.intro shL2 (And.intro shL3 (And.intro shL4 (And.intro shL5 (And.intro shL6 (And.intro shL7 (And.intro shL8 (And.intro shL9 (And.intro shL10 (And.intro shL11 shL12)))))))))))

/-! Steps of a walk; each is what its default argument makes of the goal. -/
theorem sh0 {p q : Prop} (k : q) (h : q → p := by intro k; simp only [shA, if_true, if_false, ite_true, ite_false, forall_const, ite_self, eq_self, reduceIte, reduceCtorEq, Nat.reduceEqDiff, Nat.reduceAdd, Nat.reduceLeDiff, Nat.reduceSub, Int.reduceToNat, Nat.reduceBEq, Nat.reduceMul, Nat.reduceLT, Int.reduceLE, Int.reduceLT, Nat.reduceMod, List.length_map, List.length_replicate, List.take_length, List.drop_zero, Int.toNat_natCast, List.getElem?_map, bne_self_eq_false, Int.reduceBEq, Int.reduceBNe]; exact k) : p := h k
theorem sh1 {F p q : Prop} (f : F) (k : q) (h : F → q → p := by intro f k; simp only [shA, if_true, if_false, ite_true, ite_false, forall_const, ite_self, eq_self, reduceIte, reduceCtorEq, Nat.reduceEqDiff, Nat.reduceAdd, Nat.reduceLeDiff, Nat.reduceSub, Int.reduceToNat, Nat.reduceBEq, Nat.reduceMul, Nat.reduceLT, Int.reduceLE, Int.reduceLT, Nat.reduceMod, List.length_map, List.length_replicate, List.take_length, List.drop_zero, Int.toNat_natCast, List.getElem?_map, bne_self_eq_false, Int.reduceBEq, Int.reduceBNe, f]; exact k) : p := h f k
theorem sg1 {F p q : Prop} (f : F) (k : q) (h : F → q → p := by intro f k; simp only [shA, if_true, if_false, ite_true, ite_false, forall_const, ite_self, eq_self, reduceIte, reduceCtorEq, Nat.reduceEqDiff, Nat.reduceAdd, Nat.reduceLeDiff, Nat.reduceSub, Int.reduceToNat, Nat.reduceBEq, Nat.reduceMul, Nat.reduceLT, Int.reduceLE, Int.reduceLT, Nat.reduceMod, List.length_map, List.length_replicate, List.take_length, List.drop_zero, Int.toNat_natCast, List.getElem?_map, bne_self_eq_false, Int.reduceBEq, Int.reduceBNe, ev, fin, fin2, f]; exact k) : p := h f k
theorem sf0 {p : Prop} (h : p := by (simp only [shA, if_true, if_false, ite_true, ite_false, forall_const, ite_self, eq_self, reduceIte, reduceCtorEq, Nat.reduceEqDiff, Nat.reduceAdd, Nat.reduceLeDiff, Nat.reduceSub, Int.reduceToNat, Nat.reduceBEq, Nat.reduceMul, Nat.reduceLT, Int.reduceLE, Int.reduceLT, Nat.reduceMod, List.length_map, List.length_replicate, List.take_length, List.drop_zero, Int.toNat_natCast, List.getElem?_map, bne_self_eq_false, Int.reduceBEq, Int.reduceBNe, ev, fin, fin2] <;> rfl)) : p := h
theorem sf1 {F p : Prop} (f : F) (h : F → p := by intro f; (simp only [shA, if_true, if_false, ite_true, ite_false, forall_const, ite_self, eq_self, reduceIte, reduceCtorEq, Nat.reduceEqDiff, Nat.reduceAdd, Nat.reduceLeDiff, Nat.reduceSub, Int.reduceToNat, Nat.reduceBEq, Nat.reduceMul, Nat.reduceLT, Int.reduceLE, Int.reduceLT, Nat.reduceMod, List.length_map, List.length_replicate, List.take_length, List.drop_zero, Int.toNat_natCast, List.getElem?_map, bne_self_eq_false, Int.reduceBEq, Int.reduceBNe, ev, fin, fin2, f] <;> rfl)) : p := h f
theorem sd {p q : Prop} (k : q) (h : q → p := by intro k; (repeat (refine ⟨by clear k; first | assumption | omega | decide | (simp; done) | (simp_all; done) | (simp; omega), ?_⟩)); exact k) : p := h k
theorem lp0 {p q : Prop} (k : q) (h : q → p := by intro k; simp only [St.casts, St.cast, nilS, St.put, St.newO, St.setO, delA, List.getElem?_cons_zero, List.getElem?_cons_succ, List.set_cons_zero, List.set_cons_succ, getA, Nat.reduceEqDiff, reduceCtorEq, keepT, renT, renSh, renC, renO, renOb, idxN, List.map_cons, List.map_nil, List.length_cons, List.length_nil, Nat.reduceAdd, Nat.zero_add, decide_true, St.keep, refsT, refsO, refsL, refsC, refsOk, decide_eq_true_eq, List.contains_cons, List.contains_nil, Bool.or_false, Bool.or_true, Bool.true_or, Bool.false_or, Bool.and_true, Bool.true_and, beq_self_eq_true, Nat.reduceBEq, reduceIte, Nat.blt_eq, Nat.reduceLT, decide_true, Nat.reduceLeDiff, Bool.false_eq_true, Bool.and_eq_true, and_self, true_and, and_true]; exact k) : p := h k
theorem sq0 {p q : Prop} (k : q) (h : q → p := by intro k; simp only [List.take_succ_cons, List.take_zero, St.frzAll, St.frzSh, St.frzRow, St.frzBox, St.frzCells, St.argL, St.arg1, St.res, Sh.pure, St.setO, getA, delA, keepT, St.keep, reduceIte, Nat.reduceEqDiff, reduceCtorEq, Option.bind_some, Option.map_some, List.contains_cons, List.contains_nil, Nat.reduceBEq, Bool.or_false, Bool.or_true, Bool.false_or, beq_self_eq_true, Bool.false_eq_true]; exact k) : p := h k
theorem sr0 {p q : Prop} (k : q) (h : q → p := by intro k; simp only [List.drop_succ_cons, List.drop_zero]; exact k) : p := h k
theorem hcS {p q : Prop} (h : p) (k : p → q := by intro h; simp only [decide_eq_true_eq, decide_eq_false_iff_not, Bool.not_eq_true', Bool.not_eq_false', Bool.not_eq_eq_eq_not, Bool.not_true, Bool.not_false, beq_iff_eq, bne_iff_ne, beq_eq_false_iff_ne, bne_eq_false_iff_eq, ne_eq, Int.not_le, Int.not_lt] at h; exact h) : q := k h
theorem sl0 {a b : St} (h : a = b := by first | (simp only [St.keep, keepT, getA, St.sorted, srtO, insO, reduceIte, Nat.reduceEqDiff, Nat.reduceLeDiff, reduceCtorEq]; done) | (simp only [St.keep, keepT, getA, St.sorted, srtO, insO, reduceIte, Nat.reduceEqDiff, Nat.reduceLeDiff, reduceCtorEq]; rfl) | rfl) : a = b := h
theorem evRngO_mk {kt x S d K i N f} (h1 : St.opd S x = some (.own i)) (h2 : getA S.O i = some (.map kt N f)) (h : ∀ q cnt, K (((S.setO i (.mpr q kt N f)).newO (.itm q kt (fun j => (f j).isSome) cnt none)).put? d (.own S.n))) : evRngO kt x S d K := ⟨i, N, f, h1, h2, h⟩
theorem evItm_mk (im : Nat) {S q kt k N f} (h1 : getA (St.O S) im = some (.mpr q kt N f)) (h : k f) : evItm S q kt k := ⟨im, N, f, h1, h⟩
/-! Several steps at once. -/
theorem tS0 {p q : Prop} (n : Nat) (k : q) (h : TkN n → q → p := by intro hn k; refine kL_mk ?_; refine eL hn ?_; refine sh0 ?_; exact k) : p := h ⟨⟩ k
theorem tC0 {p r q : Prop} (n : Nat) (k : q) (h : TkN n → r → p := by intro hn k; refine kL_mk ?_; refine eL hn ?_; refine sh0 ?_; exact k) (g : q → r := by intro k; (repeat (refine ⟨by clear k; first | assumption | omega | decide | (simp; done) | (simp_all; done) | (simp; omega), ?_⟩)); exact k) : p := h ⟨⟩ (g k)
theorem tL0 {p q : Prop} (k : q) (h : q → p := by intro k; refine kL_mk ?_; refine sh0 ?_; exact k) : p := h k
theorem tZ0 {p r q : Prop} (k : q) (h : r → p := by intro k; refine kL_mk ?_; refine sh0 ?_; exact k) (g : q → r := by intro k; (repeat (refine ⟨by clear k; first | assumption | omega | decide | (simp; done) | (simp_all; done) | (simp; omega), ?_⟩)); exact k) : p := h (g k)
theorem tS {F p q : Prop} (n : Nat) (f : F) (k : q) (h : TkN n → F → q → p := by intro hn f k; refine kL_mk ?_; refine eL hn ?_; refine sh1 f ?_; exact k) : p := h ⟨⟩ f k
theorem tC {F p r q : Prop} (n : Nat) (f : F) (k : q) (h : TkN n → F → r → p := by intro hn f k; refine kL_mk ?_; refine eL hn ?_; refine sh1 f ?_; exact k) (g : q → r := by intro k; (repeat (refine ⟨by clear k; first | assumption | omega | decide | (simp; done) | (simp_all; done) | (simp; omega), ?_⟩)); exact k) : p := h ⟨⟩ f (g k)
theorem tL {F p q : Prop} (f : F) (k : q) (h : F → q → p := by intro f k; refine kL_mk ?_; refine sh1 f ?_; exact k) : p := h f k
theorem tZ {F p r q : Prop} (f : F) (k : q) (h : F → r → p := by intro f k; refine kL_mk ?_; refine sh1 f ?_; exact k) (g : q → r := by intro k; (repeat (refine ⟨by clear k; first | assumption | omega | decide | (simp; done) | (simp_all; done) | (simp; omega), ?_⟩)); exact k) : p := h f (g k)
theorem fS {F p q : Prop} (n : Nat) (f : F) (k : q) (h : TkN n → F → q → p := by intro hn f k; refine kF_mk ?_; refine eF hn ?_; refine sh1 f ?_; exact k) : p := h ⟨⟩ f k
theorem fC {F p r q : Prop} (n : Nat) (f : F) (k : q) (h : TkN n → F → r → p := by intro hn f k; refine kF_mk ?_; refine eF hn ?_; refine sh1 f ?_; exact k) (g : q → r := by intro k; (repeat (refine ⟨by clear k; first | assumption | omega | decide | (simp; done) | (simp_all; done) | (simp; omega), ?_⟩)); exact k) : p := h ⟨⟩ f (g k)
theorem fL {F p q : Prop} (f : F) (k : q) (h : F → q → p := by intro f k; refine kF_mk ?_; refine sh1 f ?_; exact k) : p := h f k
theorem fZ {F p r q : Prop} (f : F) (k : q) (h : F → r → p := by intro f k; refine kF_mk ?_; refine sh1 f ?_; exact k) (g : q → r := by intro k; (repeat (refine ⟨by clear k; first | assumption | omega | decide | (simp; done) | (simp_all; done) | (simp; omega), ?_⟩)); exact k) : p := h f (g k)

end Go.Proofs.Ytijblpkdfmkcfaa
namespace Go.Proofs.Ytijblpkdfmkcfaa
set_option linter.unusedSimpArgs false
set_option linter.unusedVariables false
open Go.ChangeShapes Go.WideShapes Go.ChangeAt Go.RowKit Go.Deep

/-- All of a world's blocks. -/
def allHp (W : World) : Hp := fun k => W.heap[k]?
theorem allSub (W : World) (hG : GOk (allHp W) := by exact fun p hp => absurd hp (by simp [gTab])) : Sub (allHp W) W := ⟨fun _ _ h => h, hG⟩

section
variable {H : Type} {enc : TypeId × Value → H} {P : Program} {W : World} {base : Nat} {spare : Nat → Bool} {held : Bool} {α : Type} {R : Elt α} {k : Nat}

theorem cell_block {a : Addr} {u : Value} (h : W.cell? a = some u) : ∃ cells t fr, a.spot = none ∧ W.heap[a.block]? = some (.cells cells t fr) ∧ cells[a.off]? = some u := by
  unfold World.cell? at h
  split at h
  · rename_i c e fr hb
    split at h
    · cases h
    · rename_i hs
      exact ⟨c, e, fr, by simpa using hs, hb, h⟩
  · cases h

theorem slOpen_list (a : Addr) (n : Nat) (h : ∀ i, i < n → ∃ es x, es.length = k ∧ (∀ u ∈ es, u.oneCell' = true) ∧ R (allHp W) es x ∧ ∀ j u, es[j]? = some u → W.cell? (a.add (i * k + j)) = some u) :
    ∃ xs l, l.length = n ∧ FlatR k R (allHp W) xs l ∧ (∀ u ∈ xs, u.oneCell' = true) ∧ ∀ j u, xs[j]? = some u → W.cell? (a.add j) = some u := by
  induction n with
  | zero => exact ⟨[], [], rfl, FlatR.nil, by simp, fun j u hu => by simp at hu⟩
  | succ n ih =>
    obtain ⟨xs, l, h1, h2, h3, h4⟩ := ih (fun i hi => h i (by omega))
    obtain ⟨es, x, e1, e2, e3, e4⟩ := h n (by omega)
    refine ⟨xs ++ es, l ++ [x], by simp [h1], h2.append (FlatR.one e1 e3), fun u hu => by rcases List.mem_append.1 hu with h | h; exact h3 u h; exact e2 u h, fun j u hu => ?_⟩
    rcases Nat.lt_or_ge j xs.length with hj | hj
    · rw [List.getElem?_append_left hj] at hu; exact h4 j u hu
    · rw [List.getElem?_append_right hj] at hu
      have := e4 _ u hu
      rw [h2.1, h1] at this hj
      rw [show n * k + (j - n * k) = j from by omega] at this
      exact this

/-- An argument that is a slice. -/
theorem slOpen {t e : TypeId} {fuel : Nat} {cs : List Value} {x : DataW H × List MemPlace} (ht : P.underlying t = some (.slice e)) (hC : P.cellsOf e = k)
    (hR : ∀ n cs x, DataW.trod enc P W base spare held n e cs = some x → cs.length = k → (∀ u ∈ cs, u.oneCell' = true) ∧ ∃ v, R (allHp W) cs v)
    (h : DataW.trod enc P W base spare held fuel t cs = some x) : ∃ s : SlV, ∃ l, cs = [.slice s.a s.n s.c] ∧ SlR k R (allHp W) s.a s.n s.c l ∧ s.c ≤ maxLen := by
  rcases open_slice ht h with ⟨rfl, _⟩ | ⟨a, len, cap, m, n, D, Pl, rfl, hb, hl, hm, hmm, hx, hi⟩
  · exact ⟨⟨none, 0, 0⟩, [], rfl, SlR.nil R _, Nat.zero_le _⟩
  · have hml : len ≤ m := by rw [hmm]; split <;> omega
    obtain ⟨xs, l, h1, h2, h3, h4⟩ := slOpen_list (W := W) (R := R) (k := k) a len (fun i hil => by
      obtain ⟨cs', hc, ht'⟩ := hi i (by omega)
      rw [hC] at hc
      obtain ⟨_, hcl, hat⟩ := World.cells?_some hc
      obtain ⟨ho, v, hv⟩ := hR _ _ _ ht' hcl
      refine ⟨cs', v, hcl, ho, hv, fun j u hu => ?_⟩
      have hj : j < k := by have := (List.getElem?_eq_some_iff.1 hu).1; omega
      have := hat j hj
      rw [Go.Deep.add_add] at this
      rw [this, hu])
    refine ⟨⟨some a, len, cap⟩, l, rfl, ⟨xs, h1, hl, fun e => (by cases e), h2, h3, fun j u hu => ?_⟩, hm⟩
    obtain ⟨u0, hu0⟩ : ∃ u, xs[0]? = some u := ⟨xs[0]'(by have := (List.getElem?_eq_some_iff.1 hu).1; omega), by simp⟩
    obtain ⟨c0, t0, f0, g1, g2, g3⟩ := cell_block (h4 0 u0 hu0)
    obtain ⟨cells, t', fr, g4, g5, g6⟩ := cell_block (h4 j u hu)
    have ha : a.add 0 = a := by simp [Addr.add]
    rw [ha] at g1
    have hb : (a.add j).block = a.block := by unfold Addr.add; split <;> rfl
    have ho : (a.add j).off = a.off + j := by unfold Addr.add; split <;> simp_all
    rw [hb] at g5
    rw [ho] at g6
    exact ⟨a.block, a.off, cells, t', fr, by cases a; simp_all, g5, g6⟩
end
end Go.Proofs.Ytijblpkdfmkcfaa
namespace Go.Proofs.Ytijblpkdfmkcfaa
set_option linter.unusedSimpArgs false
set_option linter.unusedVariables false
open Go.RowKit Go.Maps

abbrev sI (n : Int) : Sh := .v (.int .i64 n)
abbrev sU (n : Int) : Sh := .v (.int .u32 n)
abbrev sB (b : Bool) : Sh := .v (.bool b)

structure WordV where
  val : Int
  ver : Int
  ref : Int
abbrev eWord (w : WordV) : List Sh := [sI w.val, sU w.ver, sU w.ref]
theorem wpList_append_nothing {w : World} {ops : Array Oper} {rest : List Oper} {o : Oper} {a : Act} {Q : Exit → Act → World → Prop} (hg : o.guard = none) (x y : Operand) (t e : TypeId) (i : TypeInfo)
    (hop : o.op = .call ⟨.builtin .append, #[x, y], #[t, t]⟩) (ht : Try.prog.underlying t = some (.slice e)) (hi : Try.prog.info? e = some i) (b a2 : Option Addr) (c2 : Nat) (hx : a.eval x = .slice b 0 0) (hy : a.eval y = .slice a2 0 c2)
    (hK : wpList Try.prog ops Q rest (a.put o.dst (.slice b 0 0)) w) : wpList Try.prog ops Q (o :: rest) a w := by
  refine wpList_plain hg fun K' hK' => ?_
  have hl : ∀ (x : Addr), (loadCells x 0).run Try.prog w = .ok #[] w := fun x => by simpa using run_loadCells_list (P := Try.prog) w x [] (by simp)
  have hrun : (Builtin.append_ #[t, t] o.type #[.slice b 0 0, .slice a2 0 c2]).run Try.prog w = .ok (.slice b 0 0) w := by
    cases b <;> cases a2 <;> simp [Builtin.append_, run_underlying ht, run_sizeOf hi, Builtin.lenOf, Builtin.firstCells, hl, storeCells]
  unfold Oper.wp
  simp [execOp, hop, resolve, hx, hy, invoke, builtin, hrun]
  exact hK' _ _ hK

/-- Handed over at once. -/
theorem OkRow.ok {f : FuncId} {args : List Sh} {e : TypeId} {k : Nat} {es : List (List Sh)} (h : OkRow f args e k es) : Ok f args (.sl k 0 es) := by
  intro w H vs hs hv
  refine Calls.mono (h w H vs hs hv) ?_
  rintro en w' ⟨v, xs, rfl, hg, hpos, hown, hR, hnil⟩
  by_cases h0 : es = []
  · subst h0
    obtain ⟨a, rfl⟩ := hnil rfl
    exact ret_mk (c := fun v : Value => v) _ H hg (.sl .nil rfl (Nat.le_refl _) (Nat.zero_le _) ⟨fun _ => rfl, fun _ _ => rfl⟩ (fun _ => rfl) (fun j u hu => by simp at hu))
  · have hp : 0 < es.length := by cases es with | nil => exact absurd rfl h0 | cons => simp
    obtain ⟨g, cap, cur, rfl, s2, s3, s4, s5, s6, s7⟩ := ownsRow_rep hown hR rfl hp
    have hg0 : H g = none := hs.none s2
    refine ret_mk (c := fun v : Value => v) _ (H.add g (.cells cur e (0, 0))) (hg.add s3 s2) (.sl (hR.mono (Hp.add_le hg0)) rfl s4 s5 ⟨fun e => (by cases e), fun _ e => absurd (List.eq_nil_of_length_eq_zero e) h0⟩ (fun e => (by cases e)) (fun j u hu => ⟨g, 0, cur, e, (0, 0), rfl, Hp.add_at _ _ _, ?_⟩))
    rw [← s7, List.getElem?_take] at hu
    split at hu
    · simpa using hu
    · cases hu

theorem eqsh_bool (a b : Bool) : EqSh 4 (.v (.bool a)) (.v (.bool b)) (a == b) := by
  intro H E w u1 u2 o1 o2 hs h1 h2
  cases h1; cases h2
  have hu := Try.underlying4
  have hq := run_equal_bool (P := Try.prog) w 4 a b hu
  constructor
  · simp [eqGuard, binOp, hq]
  · simp [eqGuard, binOp, hq]
end Go.Proofs.Ytijblpkdfmkcfaa
namespace Go.Proofs.Ytijblpkdfmkcfaa
set_option linter.unusedSimpArgs false
set_option linter.unusedVariables false
open Go.RowKit Go.Maps

theorem word_eql (a b : WordV) (w : World) : (binOp .eql 46 (.agg #[.int .i64 a.val, .int .u32 a.ver, .int .u32 a.ref]) (.agg #[.int .i64 b.val, .int .u32 b.ver, .int .u32 b.ref])).run Try.prog w = .ok (.bool (a.val == b.val && (a.ver == b.ver && a.ref == b.ref))) w := by
  have u2 := Try.underlying2
  have u3 := Try.underlying35
  have a2 := Try.isAgg2
  have a3 := Try.isAgg35
  have z2 := Try.sizeOf2
  have z3 := Try.sizeOf35
  have hS : Try.prog.underlying 46 = some (.struct (Try.prog.fieldsOf 46)) := by kernel_rfl
  have hp : Try.prog.stoodInHeld 46 = false := by kernel_rfl
  rw [run_eql_struct, show (10000 : Nat) = 9999 + 1 from rfl, run_equalIn_agg w 9999 46 _ _ hS hp]
  simp only [Program.fieldsOf, Try.underlying46]
  go_simp
  by_cases h1 : a.val = b.val <;> by_cases h2 : a.ver = b.ver <;> by_cases h3 : a.ref = b.ref <;> simp [h1, h2, h3]
theorem eqsh_word (a b : WordV) : EqSh 46 (.agg (eWord a)) (.agg (eWord b)) (a.val == b.val && (a.ver == b.ver && a.ref == b.ref)) := by
  intro H E w u1 u2 o1 o2 hs h1 h2
  have e : ∀ {x : WordV} {u : Value}, Rep H E (.agg (eWord x)) u → u = .agg #[.int .i64 x.val, .int .u32 x.ver, .int .u32 x.ref] := fun h => by
    cases h with
    | agg h _ =>
      cases h with
      | cons p1 h =>
        cases h with
        | cons p2 h =>
          cases h with
          | cons p3 h =>
            cases h
            cases p1; cases p2; cases p3
            rfl
  obtain rfl := e h1
  obtain rfl := e h2
  have hq := word_eql a b w
  have hg : Try.prog.eqGuardType Try.prog.depth 46 = false := by kernel_rfl
  refine ⟨by simpa [eqGuard, hg] using hq, ?_⟩
  simp only [binOp, Sem.run_bind] at hq
  cases hr : Sem.run Try.prog (Op.equal 46 (.agg #[.int .i64 a.val, .int .u32 a.ver, .int .u32 a.ref]) (.agg #[.int .i64 b.val, .int .u32 b.ver, .int .u32 b.ref])) w with
  | ok v w1 =>
    rw [hr] at hq
    simp at hq
    obtain ⟨rfl, rfl⟩ := hq
    simp [eqGuard, hg, binOp, hr]
  | halt x w1 => rw [hr] at hq; simp at hq
theorem eqsh_word_refl (a : WordV) : EqSh 46 (.agg (eWord a)) (.agg (eWord a)) true := by simpa using eqsh_word a a
end Go.Proofs.Ytijblpkdfmkcfaa
set_option linter.defProp false
namespace Go.Proofs.Ytijblpkdfmkcfaa
set_option linter.unusedSimpArgs false
set_option linter.unusedVariables false
open Go.RowKit Go.Maps

def purB : SOp → Bool
  | .mv _ | .ld .. | .fa .. | .fld .. | .ixa .. | .ixp .. | .bld .. | .bsl .. | .slc .. | .len _ | .lkp .. | .ext .. | .bin .. | .eqv .. | .not _ | .cnv .. | .call .. | .callv .. | .mkf .. | .mki .. | .pick .. | .mm .. | .nck _ | .gen .. => true
  | _ => false
def rdO : Operand → List Nat
  | .tmp t => [t]
  | _ => []
def GOp.reads (o : GOp) : List Nat := o.op.opds.flatMap rdO ++ (match o.g with | some (t, _) => [t] | none => [])
def noFrzC (S : St) : Sh → Bool
  | .own i => (match getA S.O i with | some (.frz _) => true | _ => false)
  | .v _ => true
  | .agg _ => true
  | .tup _ => true
  | .sl .. => true
  | .mp .. => true
  | .fn .. => true
  | .ifc .. => true
  | .fp .. => true
  | .any => true
  | .ptr .. => true
def noFrzS (S : St) : Sh → Bool
  | .own _ => false
  | .ptr .. => false
  | .agg cs => cs.all (noFrzC S)
  | .v _ => true
  | .tup _ => true
  | .sl .. => true
  | .mp .. => true
  | .fn .. => true
  | .ifc .. => true
  | .fp .. => true
  | .any => true
def noFrz (S : St) (x : Operand) : Bool := match S.opd x with
  | some s => noFrzS S s
  | none => true
def stepP (o : GOp) (S : St) (k : Sh → Prop) : Prop :=
  match o.g with
  | none => o.op.pures.all (noFrz S) = true ∧ evA o.op S k
  | some (t, b) => oB (S.opd (.tmp t)) fun s => match s with
    | .v (.bool bb) => (bb = b → o.op.pures.all (noFrz S) = true ∧ evA o.op S k) ∧ (bb = !b → k (.tup []))
    | .tup [] => k (.tup [])
    | _ => False
/-! ### States that say the same -/
structure Eqv (S S' : St) : Prop where
  o : S.O = S'.O
  n : S.n = S'.n
  t : ∀ t, getA S.T t = getA S'.T t
def vw (S : St) (i : Nat) : Option Ob := match getA S.O i with
  | some (.box ..) => none
  | o => o
structure Sees (S S' : St) (l : List Operand) : Prop where
  v : ∀ i, vw S i = vw S' i
  t : ∀ x ∈ l, ∀ t ∈ rdO x, getA S.T t = getA S'.T t
theorem vw_cases {S S' : St} {i : Nat} (h : vw S i = vw S' i) : getA S.O i = getA S'.O i ∨ ((getA S.O i = none ∨ ∃ t cs, getA S.O i = some (.box t cs)) ∧ (getA S'.O i = none ∨ ∃ t cs, getA S'.O i = some (.box t cs))) := by
  unfold vw at h
  cases e : getA S.O i with
  | none =>
    rw [e] at h
    cases e' : getA S'.O i with
    | none => exact .inl rfl
    | some o => rw [e'] at h; cases o <;> first | (cases h; done) | exact .inr ⟨.inl rfl, .inr ⟨_, _, rfl⟩⟩
  | some o =>
    rw [e] at h
    cases e' : getA S'.O i with
    | none => rw [e'] at h; cases o <;> first | (cases h; done) | exact .inr ⟨.inr ⟨_, _, rfl⟩, .inl rfl⟩
    | some o' =>
      rw [e'] at h
      cases o <;> cases o' <;> first | exact .inr ⟨.inr ⟨_, _, rfl⟩, .inr ⟨_, _, rfl⟩⟩ | (cases h; done) | (simp only at h; exact .inl h)
theorem res_eq {S S' : St} (h : ∀ i, vw S i = vw S' i) (x : Sh) : S.res x = S'.res x := by
  cases x with
  | own i =>
    show (match getA S.O i with | some (.frz x) => x | _ => .own i) = (match getA S'.O i with | some (.frz x) => x | _ => .own i)
    rcases vw_cases (h i) with e | ⟨e | ⟨_, _, e⟩, e' | ⟨_, _, e'⟩⟩
    · rw [e]
    all_goals rw [e, e']
  | ptr i a b =>
    show (match getA S.O i with | some (.frz (.fp e 0)) => Sh.fp e b | _ => .ptr i a b) = (match getA S'.O i with | some (.frz (.fp e 0)) => Sh.fp e b | _ => .ptr i a b)
    rcases vw_cases (h i) with e | ⟨e | ⟨_, _, e⟩, e' | ⟨_, _, e'⟩⟩
    · rw [e]
    all_goals rw [e, e']
  | _ => rfl
theorem Sees.opd {S S' : St} {l : List Operand} (h : Sees S S' l) {x : Operand} (hx : x ∈ l) : S.opd x = S'.opd x := by
  cases x with
  | tmp t =>
    show (getA S.T t).map S.res = (getA S'.T t).map S'.res
    rw [h.t _ hx t (by simp [rdO])]
    cases getA S'.T t with
    | none => rfl
    | some y => simp [res_eq h.v]
  | const v => rfl
  | func f => rfl
  | global g => rfl
theorem arg1_eq {S S' : St} (h : ∀ i, vw S i = vw S' i) (x : Sh) : S.arg1 x = S'.arg1 x := by unfold St.arg1; rw [res_eq h]
theorem argL_eq {S S' : St} (h : ∀ i, vw S i = vw S' i) : ∀ l, S.argL l = S'.argL l
  | [] => rfl
  | x :: l => by simp only [St.argL]; rw [arg1_eq h, argL_eq h l]
theorem arg_eq {S S' : St} (h : ∀ i, vw S i = vw S' i) (x : Sh) : S.arg x = S'.arg x := by
  cases x <;> first | rfl | (simp only [St.arg]; rw [argL_eq h]) | (simp only [St.arg]; rw [arg1_eq h])
theorem argf_eq {S S' : St} (h : ∀ i, vw S i = vw S' i) : S.arg = S'.arg := funext fun x => arg_eq h x
theorem args_eq {S S' : St} {l : List Operand} (h : Sees S S' l) : ∀ {xs : List Operand}, (∀ x ∈ xs, x ∈ l) → S.args xs = S'.args xs
  | [], _ => rfl
  | x :: xs, hx => by
    simp only [St.args]
    rw [h.opd (hx x (List.mem_cons_self ..)), argf_eq h.v, args_eq h (fun y hy => hx y (List.mem_cons_of_mem _ hy))]
theorem elems_eq {S S' : St} {l : List Operand} (h : Sees S S' l) (k : Nat) : ∀ {xs : List Operand}, (∀ x ∈ xs, x ∈ l) → S.elems k xs = S'.elems k xs
  | [], _ => rfl
  | x :: xs, hx => by
    simp only [St.elems]
    rw [h.opd (hx x (List.mem_cons_self ..)), argf_eq h.v, elems_eq h k (fun y hy => hx y (List.mem_cons_of_mem _ hy))]
theorem fill_eq {S S' : St} {l : List Operand} (h : Sees S S' l) : ∀ {ps : List (Nat × Nat × Operand)} (cs : List Sh), (∀ p ∈ ps, p.2.2 ∈ l) → fillS S cs ps = fillS S' cs ps
  | [], _, _ => rfl
  | (a, b, x) :: ps, cs, hx => by
    simp only [fillS]
    rw [h.opd (hx _ (List.mem_cons_self ..))]
    congr 1
    funext s
    split
    · exact fill_eq h _ (fun y hy => hx y (List.mem_cons_of_mem _ hy))
    · rfl
theorem optInt_eq {S S' : St} {l : List Operand} (h : Sees S S' l) (d : Int) {o : Option Operand} (ho : ∀ x ∈ o, x ∈ l) : S.optInt d o = S'.optInt d o := by
  cases o with
  | none => rfl
  | some x => simp only [St.optInt]; rw [h.opd (ho x rfl)]
theorem oB_mono {α : Type} {o : Option α} {k k' : α → Prop} (h : oB o k) (g : ∀ x, k x → k' x) : oB o k' := by
  cases o with
  | none => exact h
  | some x => exact g x h
theorem mem_reads {o : GOp} {x : Operand} {t : Nat} (hx : x ∈ o.op.opds) (ht : t ∈ rdO x) : t ∈ o.reads :=
  List.mem_append.2 (.inl (List.mem_flatMap.2 ⟨x, hx, ht⟩))

/-- What an operation that writes nothing comes to, hangs on what it reads. -/
theorem evA_see {op : SOp} {S S' : St} {k : Sh → Prop} (hp : purB op = true) (h : Sees S S' op.opds) (hl : ∀ x ag, op = .ld x ag → ∀ s, S.opd x = some s → S.at s = S'.at s) (he : evA op S k) : evA op S' k := by
  have O : ∀ {x}, x ∈ op.opds → S'.opd x = S.opd x := fun hx => (h.opd hx).symm
  cases op with
  | ld x ag =>
    simp only [evA] at he ⊢
    rw [O (by simp [SOp.opds])]
    obtain ⟨s, hs, he⟩ := oB_elim he
    rw [hs, oB_some, ← hl x ag rfl s hs]; exact he
  | ixa x i kk =>
    simp only [evA] at he ⊢
    rw [O (by simp [SOp.opds]), O (by simp [SOp.opds])]
    refine oB_mono he fun s he => oB_mono he fun j he => ?_
    split at he
    · exact he
    · rcases vw_cases (h.v _) with e | ⟨e | ⟨_, _, e⟩, _⟩
      · rw [e] at he; exact he
      all_goals (rw [e] at he; exact he.elim)
    · exact he.elim
  | len x =>
    simp only [evA] at he ⊢
    rw [O (by simp [SOp.opds])]
    refine oB_mono he fun s he => ?_
    cases s with
    | own q =>
      simp only at he ⊢
      rcases vw_cases (h.v q) with e | ⟨e | ⟨_, _, e⟩, _⟩
      · rw [← e]; exact he
      all_goals (rw [e] at he; exact he.elim)
    | _ => exact he
  | lkp kt m key z ok =>
    simp only [evA] at he ⊢
    rw [O (by simp [SOp.opds]), O (by simp [SOp.opds])]
    refine oB_mono he fun s he => oB_mono he fun j he => ?_
    split at he
    · exact he
    · rcases vw_cases (h.v _) with e | ⟨e | ⟨_, _, e⟩, _⟩
      · rw [e] at he; exact he
      all_goals (rw [e] at he; exact he.elim)
    · exact he.elim
  | mv x => simp only [evA] at he ⊢; rw [O (by simp [SOp.opds])]; exact he
  | fa x off => simp only [evA] at he ⊢; rw [O (by simp [SOp.opds])]; exact he
  | fld x off ag => simp only [evA] at he ⊢; rw [O (by simp [SOp.opds])]; exact he
  | ixp x i kk n => simp only [evA] at he ⊢; rw [O (by simp [SOp.opds]), O (by simp [SOp.opds])]; exact he
  | bld zs ps => simp only [evA] at he ⊢; rw [← fill_eq h _ (fun p hp => List.mem_map.2 ⟨p, hp, rfl⟩)]; exact he
  | bsl kk xs => simp only [evA] at he ⊢; rw [← elems_eq h kk (xs := xs) (fun x hx => hx)]; exact he
  | slc kk x lo hi mx =>
    simp only [evA] at he ⊢
    rw [O (by simp [SOp.opds])]
    refine oB_mono he fun s he => ?_
    cases s with
    | sl k2 g es =>
      simp only at he ⊢
      refine ⟨he.1, ?_⟩
      have he := he.2
      rw [← optInt_eq h 0 (fun y hy => by subst hy; simp [SOp.opds])]
      refine oB_mono he fun l he => ?_
      rw [← optInt_eq h _ (fun y hy => by subst hy; simp [SOp.opds])]
      refine oB_mono he fun q he => ⟨he.1, he.2.1, he.2.2.1, ?_⟩
      have he := he.2.2.2
      cases mx with
      | none => exact he
      | some o => simp only at he ⊢; rw [O (by simp [SOp.opds])]; exact he
    | _ => exact he
  | ext x i => simp only [evA] at he ⊢; rw [O (by simp [SOp.opds])]; exact he
  | bin op x y => simp only [evA] at he ⊢; rw [O (by simp [SOp.opds]), O (by simp [SOp.opds])]; exact he
  | eqv neg t x y => simp only [evA] at he ⊢; rw [O (by simp [SOp.opds]), O (by simp [SOp.opds])]; exact he
  | not x => simp only [evA] at he ⊢; rw [O (by simp [SOp.opds])]; exact he
  | cnv kk x => simp only [evA] at he ⊢; rw [O (by simp [SOp.opds])]; exact he
  | call f xs => simp only [evA] at he ⊢; rw [← args_eq h (xs := xs) (fun x hx => hx)]; exact he
  | gen op xs => simp only [evA] at he ⊢; rw [← args_eq h (xs := xs) (fun x hx => hx)]; exact he
  | callv x xs => simp only [evA] at he ⊢; rw [O (by simp [SOp.opds]), ← args_eq h (fun x hx => by simp [SOp.opds, hx])]; exact he
  | mkf f a b => simp only [evA] at he ⊢; rw [← args_eq h (fun x hx => by simp [SOp.opds, hx]), ← args_eq h (fun x hx => by simp [SOp.opds, hx])]; exact he
  | mki t x => simp only [evA] at he ⊢; rw [O (by simp [SOp.opds]), ← argf_eq h.v]; exact he
  | pick c a b => simp only [evA] at he ⊢; rw [O (by simp [SOp.opds]), O (x := a) (by simp [SOp.opds]), O (x := b) (by simp [SOp.opds])]; exact he
  | mm mx x y => simp only [evA] at he ⊢; rw [O (by simp [SOp.opds]), O (by simp [SOp.opds])]; exact he
  | nck x => simp only [evA] at he ⊢; rw [O (by simp [SOp.opds])]; exact he
  | _ => cases hp
/-! ### Runs -/
theorem own_of {S S' : St} {l : List Operand} (h : Sees S S' l) (i : Nat) : noFrzC S (.own i) = noFrzC S' (.own i) := by
  show (match getA S.O i with | some (.frz _) => true | _ => false) = (match getA S'.O i with | some (.frz _) => true | _ => false)
  rcases vw_cases (h.v i) with e | ⟨e | ⟨_, _, e⟩, e' | ⟨_, _, e'⟩⟩
  · rw [e]
  all_goals rw [e, e']
theorem noFrz_see {S S' : St} {l : List Operand} (h : Sees S S' l) {x : Operand} (hx : x ∈ l) : noFrz S x = noFrz S' x := by
  unfold noFrz
  rw [h.opd hx]
  cases S'.opd x with
  | none => rfl
  | some s =>
    cases s with
    | agg cs =>
      show cs.all (noFrzC S) = cs.all (noFrzC S')
      congr 1
      funext y
      cases y <;> first | rfl | exact own_of h _
    | _ => rfl
theorem pures_opds {op : SOp} (hp : purB op = true) : ∀ x ∈ op.pures, x ∈ op.opds := by
  intro x hx
  cases op <;> first | (cases hp; done) | (cases hx; done) | (simp only [SOp.pures, SOp.opds] at hx ⊢; first | exact hx | (simp_all; done))
theorem pures_see {S S' : St} {op : SOp} (hp : purB op = true) (h : Sees S S' op.opds) : op.pures.all (noFrz S) = op.pures.all (noFrz S') := by
  have : ∀ l : List Operand, (∀ x ∈ l, x ∈ op.opds) → l.all (noFrz S) = l.all (noFrz S') := by
    intro l
    induction l with
    | nil => intro _; rfl
    | cons x l ih => intro hl; simp only [List.all_cons]; rw [noFrz_see h (hl x (List.mem_cons_self ..)), ih (fun y hy => hl y (List.mem_cons_of_mem _ hy))]
  exact this _ (pures_opds hp)
/-- What one operation of values sees. -/
structure SeesG (S S' : St) (o : GOp) : Prop where
  v : ∀ i, vw S i = vw S' i
  t : ∀ t ∈ o.reads, getA S.T t = getA S'.T t
  l : ∀ x ag, o.op = .ld x ag → ∀ s, S.opd x = some s → S.at s = S'.at s
theorem SeesG.op {S S' : St} {o : GOp} (h : SeesG S S' o) : Sees S S' o.op.opds := ⟨h.v, fun x hx t ht => h.t t (mem_reads hx ht)⟩
theorem stepP_see {o : GOp} {S S' : St} {k : Sh → Prop} (hp : purB o.op = true) (h : SeesG S S' o) (he : stepP o S k) : stepP o S' k := by
  have run : (o.op.pures.all (noFrz S) = true ∧ evA o.op S k) → (o.op.pures.all (noFrz S') = true ∧ evA o.op S' k) := fun q => ⟨by rw [← pures_see hp h.op]; exact q.1, evA_see hp h.op h.l q.2⟩
  unfold stepP at he ⊢
  split at he
  · exact run he
  · rename_i t b hg
    have e : S'.opd (.tmp t) = S.opd (.tmp t) := by
      show (getA S'.T t).map S'.res = (getA S.T t).map S.res
      rw [h.t t (List.mem_append.2 (.inr (by rw [hg]; simp)))]
      cases getA S'.T t with
      | none => rfl
      | some y => simp [res_eq h.v]
    rw [e]
    refine oB_mono he fun s he => ?_
    split at he
    · exact ⟨fun q => run (he.1 q), he.2⟩
    · exact he
    · exact he.elim
inductive Runs : List GOp → St → St → Prop
  | nil {S} : Runs [] S S
  | cons {o l S s S1} : purB o.op = true → (∀ k : Sh → Prop, k s → stepP o S k) → Runs l (S.put? o.d s) S1 → Runs (o :: l) S S1
theorem put_O (S : St) (d : Option Nat) (s : Sh) : (S.put? d s).O = S.O := by cases d <;> rfl
theorem put_n (S : St) (d : Option Nat) (s : Sh) : (S.put? d s).n = S.n := by cases d <;> rfl
theorem put_T (S : St) (d : Option Nat) (s : Sh) (t : Nat) : getA (S.put? d s).T t = if d = some t then some s else getA S.T t := by
  cases d with
  | none => rfl
  | some d =>
    show getA ((d, s) :: delA S.T d) t = _
    rw [getA_put]
    by_cases e : d = t
    · rw [if_pos e, if_pos (by rw [e])]
    · rw [if_neg e, if_neg (by simpa using e)]
theorem put_set (S : St) (d : Option Nat) (s : Sh) (i : Nat) (o : Ob) : (S.put? d s).setO i o = (S.setO i o).put? d s := by cases d <;> rfl
theorem Eqv.refl (S : St) : Eqv S S := ⟨rfl, rfl, fun _ => rfl⟩
theorem Eqv.trans {A B C : St} (h : Eqv A B) (k : Eqv B C) : Eqv A C := ⟨h.o.trans k.o, h.n.trans k.n, fun t => (h.t t).trans (k.t t)⟩
theorem Eqv.symm {A B : St} (h : Eqv A B) : Eqv B A := ⟨h.o.symm, h.n.symm, fun t => (h.t t).symm⟩
theorem Eqv.put {A B : St} (h : Eqv A B) (d : Option Nat) (s : Sh) : Eqv (A.put? d s) (B.put? d s) :=
  ⟨by rw [put_O, put_O]; exact h.o, by rw [put_n, put_n]; exact h.n, fun t => by rw [put_T, put_T]; split; rfl; exact h.t t⟩
theorem Eqv.vw {A B : St} (h : Eqv A B) (i : Nat) : vw A i = vw B i := by unfold Go.Proofs.Ytijblpkdfmkcfaa.vw; rw [h.o]
theorem at_O {A B : St} (h : A.O = B.O) (s : Sh) : A.at s = B.at s := by
  cases s <;> first | rfl | (unfold St.at; rw [h])
theorem Eqv.see {A B : St} (h : Eqv A B) (o : GOp) : SeesG A B o := ⟨h.vw, fun t _ => h.t t, fun _ _ _ _ _ => at_O h.o _⟩
theorem Eqv.opd {A B : St} (h : Eqv A B) (x : Operand) : A.opd x = B.opd x := (show Sees A B [x] from ⟨h.vw, fun _ _ t _ => h.t t⟩).opd (List.mem_singleton.2 rfl)
theorem put_see {S : St} {o : GOp} {d : Option Nat} (hd : ∀ t ∈ o.reads, d ≠ some t) (s : Sh) : SeesG S (S.put? d s) o :=
  ⟨fun i => by unfold vw; rw [put_O], fun t ht => by rw [put_T, if_neg (hd t ht)], fun _ _ _ _ _ => at_O (put_O _ _ _).symm _⟩
theorem SeesG.symm {S S' : St} {o : GOp} (h : SeesG S S' o) (hO : S.O = S'.O) : SeesG S' S o :=
  ⟨fun i => (h.v i).symm, fun t ht => (h.t t ht).symm, fun _ _ _ _ _ => at_O hO.symm _⟩
theorem Runs.eqv : ∀ {l : List GOp} {A B A1 : St}, Runs l A A1 → Eqv A B → ∃ B1, Runs l B B1 ∧ Eqv A1 B1
  | _, _, B, _, .nil, h => ⟨B, .nil, h⟩
  | _, _, B, _, .cons (o := o) (s := s) hp h1 h2, h => by
    obtain ⟨B1, h3, h4⟩ := h2.eqv (h.put o.d s)
    exact ⟨B1, .cons hp (fun k hk => stepP_see hp (h.see o) (h1 k hk)) h3, h4⟩
def indepB (p q : GOp) : Bool := (match p.d with | some d => !q.reads.contains d | none => true) && (match q.d with | some d => !p.reads.contains d | none => true) && !(p.d == q.d)
theorem indep_spec {p q : GOp} (h : indepB p q = true) : (∀ t ∈ q.reads, p.d ≠ some t) ∧ (∀ t ∈ p.reads, q.d ≠ some t) ∧ p.d ≠ q.d := by
  unfold indepB at h
  simp only [Bool.and_eq_true, Bool.not_eq_true', beq_eq_false_iff_ne] at h
  obtain ⟨⟨h1, h2⟩, h3⟩ := h
  refine ⟨fun t ht e => ?_, fun t ht e => ?_, h3⟩
  · rw [e] at h1; simp only [Bool.not_eq_true'] at h1
    rw [List.contains_eq_mem] at h1; simp [ht] at h1
  · rw [e] at h2; simp only [Bool.not_eq_true'] at h2
    rw [List.contains_eq_mem] at h2; simp [ht] at h2
/-- An operation of values may well come first. -/
theorem Runs.first {o : GOp} : ∀ {A B : List GOp} {S S1 : St}, Runs (A ++ o :: B) S S1 → A.all (fun a => indepB a o) = true → ∃ s S2, purB o.op = true ∧ (∀ k : Sh → Prop, k s → stepP o S k) ∧ Runs (A ++ B) (S.put? o.d s) S2 ∧ Eqv S1 S2
  | [], B, S, S1, h, _ => by
    cases h with
    | cons hp h1 h2 => exact ⟨_, S1, hp, h1, h2, Eqv.refl _⟩
  | a :: A, B, S, S1, h, hi => by
    simp only [List.all_cons, Bool.and_eq_true] at hi
    obtain ⟨i1, i2, i3⟩ := indep_spec hi.1
    cases h with
    | cons hp h1 h2 =>
      rename_i sa
      obtain ⟨s, S2, hpo, h3, h4, h5⟩ := Runs.first (A := A) h2 hi.2
      have hsw : Eqv ((S.put? a.d sa).put? o.d s) ((S.put? o.d s).put? a.d sa) :=
        ⟨by simp only [put_O], by simp only [put_n], fun t => by
          simp only [put_T]
          by_cases e1 : o.d = some t
          · rw [if_pos e1, if_neg (fun e => i3 (e.trans e1.symm)), if_pos e1]
          · rw [if_neg e1, if_neg e1]⟩
      obtain ⟨S3, h6, h7⟩ := h4.eqv hsw
      refine ⟨s, S3, hpo, fun k hk => ?_, ?_, h5.trans h7⟩
      · exact stepP_see hpo ((put_see i1 sa).symm (put_O _ _ _).symm) (h3 k hk)
      · exact .cons hp (fun k hk => stepP_see hp (put_see i2 s) (h1 k hk)) h6
theorem Runs.O : ∀ {l : List GOp} {S S1 : St}, Runs l S S1 → S1.O = S.O ∧ S1.n = S.n
  | _, _, _, .nil => ⟨rfl, rfl⟩
  | _, _, _, .cons _ _ h => ⟨h.O.1.trans (put_O _ _ _), h.O.2.trans (put_n _ _ _)⟩
theorem Runs.T : ∀ {l : List GOp} {S S1 : St} {t : Nat}, Runs l S S1 → (∀ o ∈ l, o.d ≠ some t) → getA S1.T t = getA S.T t
  | _, _, _, _, .nil, _ => rfl
  | _, _, _, _, .cons _ _ h, hd => (h.T (fun o ho => hd o (List.mem_cons_of_mem _ ho))).trans (by rw [put_T, if_neg (hd _ (List.mem_cons_self ..))])
theorem opd_T {A B : St} (hO : A.O = B.O) {x : Operand} (hT : ∀ t ∈ rdO x, getA A.T t = getA B.T t) : A.opd x = B.opd x := (show Sees A B [x] from ⟨fun i => by unfold vw; rw [hO], fun y hy t ht => hT t (by rw [List.mem_singleton.1 hy] at ht; exact ht)⟩).opd (List.mem_singleton.2 rfl)
/-- No later operation writes what an earlier one reads. -/
def lateB : List GOp → Bool
  | [] => true
  | o :: l => (o :: l).all (fun q => match q.d with | some d => !o.reads.contains d | none => true) && lateB l
theorem late_spec {o : GOp} {l : List GOp} (h : lateB (o :: l) = true) : (∀ q ∈ o :: l, ∀ t ∈ o.reads, q.d ≠ some t) ∧ lateB l = true := by
  unfold lateB at h
  simp only [Bool.and_eq_true] at h
  refine ⟨fun q hq t ht e => ?_, h.2⟩
  have := (List.all_eq_true.1 h.1) q hq
  rw [e] at this
  simp only [Bool.not_eq_true'] at this
  rw [List.contains_eq_mem] at this; simp [ht] at this
theorem vw_set {S : St} {i : Nat} {t t' : TypeId} {cs cs' : List Sh} (h : getA S.O i = some (.box t cs)) (j : Nat) : vw S j = vw (S.setO i (.box t' cs')) j := by
  unfold vw
  show _ = (match getA ((i, Ob.box t' cs') :: delA S.O i) j with | some (.box ..) => none | o => o)
  rw [getA_put]
  by_cases e : i = j
  · subst e; rw [if_pos rfl, h]
  · rw [if_neg e]
theorem at_set {S : St} {i : Nat} {o : Ob} {s : Sh} (h : ∀ a b, s ≠ .ptr i a b) : S.at s = (S.setO i o).at s := by
  cases s with
  | ptr j a b =>
    have e : i ≠ j := fun e => h a b (by rw [e])
    have : getA (S.setO i o).O j = getA S.O j := by
      show getA ((i, o) :: delA S.O i) j = _
      rw [getA_put, if_neg e]
    show (match getA S.O j with | some (.box _ cs) => some (cs, b) | some (.row _ _ es) => (es[a]?).map fun e => (e, b) | some (.obx _ cs) => some (cs, a + b) | _ => none) = (match getA (S.setO i o).O j with | some (.box _ cs) => some (cs, b) | some (.row _ _ es) => (es[a]?).map fun e => (e, b) | some (.obx _ cs) => some (cs, a + b) | _ => none)
    rw [this]
  | _ => rfl
/-- .. and may well come behind what is written to a variable that it does not load. -/
theorem Runs.behind {i : Nat} {t t' : TypeId} {cs cs' : List Sh} : ∀ {l : List GOp} {S S1 : St}, Runs l S S1 → lateB l = true → getA S.O i = some (.box t cs) →
    (∀ o ∈ l, ∀ x ag, o.op = .ld x ag → ∀ j a b, S1.opd x = some (.ptr j a b) → j ≠ i) → Runs l (S.setO i (.box t' cs')) (S1.setO i (.box t' cs'))
  | _, _, _, .nil, _, _, _ => .nil
  | _, S, S1, .cons (o := o) (l := l) (s := s) hp h1 h2, hl, hi, hld => by
    obtain ⟨l1, l2⟩ := late_spec hl
    have hr := h2.behind (t' := t') (cs' := cs') l2 (by rw [put_O]; exact hi) (fun q hq => hld q (List.mem_cons_of_mem _ hq))
    rw [put_set] at hr
    refine .cons hp (fun k hk => stepP_see hp ⟨fun j => vw_set hi j, fun t _ => rfl, fun x ag e s hs => at_set fun a b e2 => ?_⟩ (h1 k hk)) hr
    subst e2
    have : S1.opd x = S.opd x := opd_T (h2.O.1.trans (put_O _ _ _)) fun t ht => by
      have hm : t ∈ o.reads := mem_reads (by rw [e]; simp [SOp.opds]) ht
      exact (h2.T (fun q hq => l1 q (List.mem_cons_of_mem _ hq) t hm)).trans (by rw [put_T, if_neg (l1 o (List.mem_cons_self ..) t hm)])
    exact hld o (List.mem_cons_self ..) x ag e i a b (this.trans hs) rfl

end Go.Proofs.Ytijblpkdfmkcfaa
namespace Go.Proofs.Ytijblpkdfmkcfaa
set_option linter.unusedSimpArgs false
set_option linter.unusedVariables false
open Go.ChangeShapes Go.WideShapes Go.ChangeAt Go.RowKit Go.Deep

inductive CellK where
  | int (k : IntKind)
  | bool

def CellK.fits : CellK → Value → Prop
  | .int k, v => ∃ n, v = .int k n ∧ (Lit.int k n).wf = true
  | .bool, v => ∃ b, v = .bool b
def Fits : List CellK → List Value → Prop
  | [], [] => True
  | k :: ks, v :: vs => k.fits v ∧ Fits ks vs
  | _, _ => False

theorem Fits.length : ∀ {ks : List CellK} {vs : List Value}, Fits ks vs → vs.length = ks.length
  | [], [], _ => rfl
  | _ :: _, _ :: _, h => by simp [Fits.length h.2]
theorem Fits.append : ∀ {ks : List CellK} {vs : List Value} {ks' : List CellK} {vs' : List Value}, Fits ks vs → Fits ks' vs' → Fits (ks ++ ks') (vs ++ vs')
  | [], [], _, _, _, h => h
  | _ :: _, _ :: _, _, _, h, h' => ⟨h.1, Fits.append h.2 h'⟩
theorem Fits.one : ∀ {ks : List CellK} {vs : List Value}, Fits ks vs → ∀ u ∈ vs, u.oneCell' = true
  | [], [], _ => by simp
  | k :: _, v :: _, h => by
    intro u hu
    rcases List.mem_cons.1 hu with rfl | hu
    · cases k with
      | int k => obtain ⟨n, rfl, _⟩ := h.1; rfl
      | bool => obtain ⟨b, rfl⟩ := h.1; rfl
    · exact Fits.one h.2 u hu

theorem Fits.int {k : IntKind} {ks : List CellK} : ∀ {vs : List Value}, Fits (.int k :: ks) vs → ∃ n vs', vs = .int k n :: vs' ∧ k.min ≤ n ∧ n ≤ k.max ∧ Fits ks vs'
  | v :: vs, ⟨⟨n, h, w⟩, h'⟩ => by
    simp only [Lit.wf, Bool.and_eq_true, decide_eq_true_eq] at w
    exact ⟨n, vs, by rw [h], w.1, w.2, h'⟩
theorem Fits.bool {ks : List CellK} : ∀ {vs : List Value}, Fits (.bool :: ks) vs → ∃ b vs', vs = .bool b :: vs' ∧ Fits ks vs'
  | v :: vs, ⟨⟨b, h⟩, h'⟩ => ⟨b, vs, by rw [h], h'⟩
theorem Fits.nil : ∀ {vs : List Value}, Fits [] vs → vs = []
  | [], _ => rfl

section
variable {H : Type} {enc : TypeId × Value → H} {P : Program} {W : World} {base : Nat} {spare : Nat → Bool} {held : Bool}

theorem args_stay {W' : World} (hl : laidOutB P = true) (hb : Below W.heap.size W W') {sp : Nat → Bool} : ∀ {ts : List TypeId} {vs : List Value} {ds : List (DataW H)} {ps : List MemPlace}, (ts.all fun t => P.readableRec t && decide (t < P.types.size)) = true →
    DataW.TrodAll enc P W 0 (fun _ => true) true ts vs ds ps → (∀ x ∈ ps, x.block < W.heap.size ∧ sp x.block = true) → DataW.TrodAll enc P W' 0 sp true ts vs ds ps
  | [], _, _, _, _, h, _ => by
    obtain ⟨rfl, rfl, rfl⟩ := trodAll_nil h
    exact rfl
  | t :: ts, _, _, _, ht, h, hp => by
    obtain ⟨v, vs, d, ds, p, q, rfl, rfl, rfl, h1, h2⟩ := trodAll_cons h
    simp only [List.all_cons, Bool.and_eq_true, decide_eq_true_eq] at ht
    exact ⟨p, q, WideElems.Trod_stays hl ht.1.1 ht.1.2 h1 (fun x hx => hb.same (hp x (by simp [hx])).1) (fun x hx => (hp x (by simp [hx])).2),
      args_stay hl hb ht.2 h2 (fun x hx => hp x (by simp [hx])), rfl⟩

theorem trodAll_len {w : World} : ∀ {ts : List TypeId} {vs : List Value} {ds : List (DataW H)} {ps : List MemPlace}, DataW.TrodAll enc P w base spare held ts vs ds ps → ds.length = ts.length
  | [], _, _, _, h => by
    obtain ⟨rfl, rfl, rfl⟩ := trodAll_nil h
    rfl
  | _ :: _, _, _, _, h => by
    obtain ⟨v, vs, d, ds, p, q, rfl, rfl, rfl, h1, h2⟩ := trodAll_cons h
    simp [trodAll_len h2]

/-- THE FRAME. -/
theorem lifted_of {C : Checked} {os : Os} {f : FuncId} {fn : Func} {s : ChangeSpec} {conds : List PathCond} {tb : TypeId}
    (own : ownKnob C.prog.godebug = none) (started : os.Started) (noInit : C.prog.inits.idxOf? f = none) (hfn : C.prog.funcs[f]? = some fn)
    (witness : ∃ (w : World) (tape : Tape) (i : Input), w.os = os ∧ (w.forCall tape i).Shaped C.prog ∧ i.vars = [] ∧ Input.okWide C.prog (w.forCall tape i) .any w.heap.size f i ∧
      s.pre6 enc C.prog fn conds false (w.forCall tape i).memory i.args ∧ ({} : Assume).holds C.prog (lone (Frame.enter C.prog f i.args .normal) [] (w.forCall tape i)))
    (hl : laidOutB C.prog = true) (hp : (fn.params.toList.all fun t => C.prog.readableRec t && decide (t < C.prog.types.size)) = true)
    (hr : fn.resultTypes = #[tb]) (htb : C.prog.underlying tb = some .bool) (hv : s.vars = [])
    (hs : ∀ ds, ds.length = fn.params.toList.length → (s.fn H ds).results = [.lit (.bool true)] ∧ (s.fn H ds).args = ds ∧ (s.fn H ds).vars = [])
    (walk : ∀ (W : World) (base : Nat) (args : Array Value) (ds : List (DataW H)) (p : List MemPlace),
      (∀ (j : Nat) t v, fn.params[j]? = some t → args[j]? = some v → Value.okWide C.prog W .any base t v) →
      DataW.TrodAll enc C.prog W 0 (fun _ => true) true fn.params.toList args.toList ds p → RetV C.prog f args W (.bool true)) :
    ReturnsInHanded {} C os f .any (s.pre6 enc C.prog fn conds false) (s.post enc C.prog fn false true false false) := by
  refine returnsInHanded_of_change (C := C) own started noInit hfn witness ?_
  intro W base args ds gs before hval hW hcnd _
  have hW' := hW
  obtain ⟨p, q, hA, hV, rfl, hfz, hnd⟩ := hW
  rw [hv] at hV
  obtain ⟨rfl, rfl⟩ := trodVars_none hV
  have hlen := trodAll_len hA
  obtain ⟨e1, e2, e3⟩ := hs ds hlen
  refine (walk W base args ds p hval hA).mono fun e W' ⟨he, hb⟩ => ?_
  subst he
  refine ⟨_, rfl, ds, [], p ++ [], [], p, [], hW', ?_, ?_, ?_, hb.frame _, fun h => by cases h⟩
  · rw [List.append_nil, e1, hr]
    exact trodAll_mk1 (shut_bool htb _)
  · rw [List.append_nil, e2]
    exact args_stay hl hb hp hA (fun x hx => ⟨hW'.lt x (by simp [hx]), by simpa using hW'.lt x (by simp [hx])⟩)
  · rw [List.append_nil, e3, hv]
    exact rfl
end
end Go.Proofs.Ytijblpkdfmkcfaa
namespace Go.Proofs.Ytijblpkdfmkcfaa
set_option linter.unusedSimpArgs false
set_option linter.unusedVariables false
open Go.ChangeShapes Go.WideShapes Go.ChangeAt Go.RowKit Go.Deep

theorem own : ownKnob Try.prog.godebug = Option.none := by kernel_rfl
theorem laidOut : laidOutB Try.prog = true := by kernel_rfl
end Go.Proofs.Ytijblpkdfmkcfaa
namespace Go.Proofs.Ytijblpkdfmkcfaa
set_option linter.unusedSimpArgs false
set_option linter.unusedVariables false
open Go.ChangeShapes Go.WideShapes Go.ChangeAt Go.RowKit Go.Deep Go.Maps

/-- Cells that read as x, by enc. -/
def EncR {α : Type} (enc : α → List Sh) (Q : α → Prop) : Elt α := fun H cs x => RepL H E0 (enc x) cs ∧ (enc x).all Sh.one = true ∧ Q x

theorem flat_rep {α : Type} {enc : α → List Sh} {Q : α → Prop} {k : Nat} {H : Hp} : ∀ (l : List α) (xs : List Value), FlatR k (EncR enc Q) H xs l → RepEs H k (l.map enc) xs ∧ ∀ x ∈ l, Q x
  | [], xs, h => by
    obtain ⟨h1, _⟩ := h
    obtain rfl : xs = [] := List.eq_nil_of_length_eq_zero (by simpa using h1)
    exact ⟨.nil, fun x hx => by cases hx⟩
  | x :: l, xs, h => by
    obtain ⟨h1, h2⟩ := h
    simp only [List.length_cons, Nat.add_mul, Nat.one_mul] at h1
    have h0 := h2 0 x rfl
    simp only [Nat.zero_mul, List.drop_zero] at h0
    have ht : FlatR k (EncR enc Q) H (xs.drop k) l := ⟨by rw [List.length_drop]; omega, fun i y hy => by
      have := h2 (i + 1) y (by simpa using hy)
      rw [List.drop_drop, show k + i * k = (i + 1) * k from by rw [Nat.add_mul]; omega]
      exact this⟩
    obtain ⟨r1, r2⟩ := flat_rep l _ ht
    refine ⟨?_, fun y hy => ?_⟩
    · have := RepEs.cons h0.1 (by rw [List.length_take]; omega) h0.2.1 r1
      rw [List.take_append_drop] at this
      exact this
    · rcases List.mem_cons.1 hy with rfl | hy
      · exact h0.2.2
      · exact r2 y hy

theorem slice_rep {α : Type} {enc : α → List Sh} {Q : α → Prop} {k : Nat} {H : Hp} {a : Option Addr} {n c : Nat} {l : List α} (h : SlR k (EncR enc Q) H a n c l) (hc : c ≤ maxLen) : Rep H E0 (.sl k 2 (l.map enc)) (.slice a n c) ∧ ∀ x ∈ l, Q x := by
  obtain ⟨xs, h1, h2, h3, h4, _, h6⟩ := h
  obtain ⟨r1, r2⟩ := flat_rep l xs h4
  exact ⟨.sl r1 (by rw [List.length_map]; exact h1) h2 hc ⟨(fun e => absurd e (by decide)), (fun e => absurd e (by decide))⟩ h3 h6, r2⟩
/-- A law that is told true, as the frame wants it. -/
theorem retv_of_ok {f : FuncId} {args : List Sh} {vs : List Value} {W : World} {b : Bool} (h : Ok f args (.v (.bool b))) (hv : RepL (allHp W) E0 args vs) (hG : GOk (allHp W) := by exact fun p hp => absurd hp (by simp [gTab])) : RetV Try.prog f vs.toArray W (.bool b) := by
  refine Calls.mono (h W (allHp W) vs (allSub W hG) hv) ?_
  rintro e w' ⟨v, H', rfl, hg, hr⟩
  cases hr
  exact retv_mk hg.below
end Go.Proofs.Ytijblpkdfmkcfaa
namespace Go.Proofs.Ytijblpkdfmkcfaa
set_option linter.unusedSimpArgs false
set_option linter.unusedVariables false
open Go.ChangeShapes Go.WideShapes Go.ChangeAt Go.RowKit Go.Deep Go.Maps

/-- The shape of a plain type: numbers, bools, slices, structs and arrays (as chains). -/
inductive Pl where
  | int (k : IntKind)
  | bool
  | sl (k : Nat) (e : Pl)
  | nil
  | cons (h t : Pl)
inductive Dt where
  | i (n : Int)
  | b (b : Bool)
  | l (xs : List Dt)
  | nil
  | cons (h t : Dt)
def shP : Pl → Dt → List Sh
  | .int k, .i n => [.v (.int k n)]
  | .bool, .b b => [.v (.bool b)]
  | .sl k e, .l xs => [.sl k 2 (xs.map fun x => shP e x)]
  | .cons h t, .cons a b => shP h a ++ shP t b
  | _, _ => []
def OkD : Pl → Dt → Prop
  | .int k, .i n => k.min ≤ n ∧ n ≤ k.max
  | .bool, .b _ => True
  | .sl _ e, .l xs => ∀ x ∈ xs, OkD e x
  | .nil, .nil => True
  | .cons h t, .cons a b => OkD h a ∧ OkD t b
  | _, _ => False
def planFs (P : Program) (g : TypeId → Option Pl) : List Field → Nat → Option Pl
  | [], _ => some .nil
  | f :: fs, acc => if f.offset = acc then (g f.type).bind fun p => (planFs P g fs (acc + P.cellsOf f.type)).map (.cons p ·) else none
def fsEnd (P : Program) : List Field → Nat → Nat
  | [], acc => acc
  | f :: fs, acc => fsEnd P fs (acc + P.cellsOf f.type)
def repP (p : Pl) : Nat → Pl
  | 0 => .nil
  | n + 1 => .cons p (repP p n)
def planOf (P : Program) : Nat → TypeId → Option Pl
  | 0 => fun _ => none
  | m + 1 => fun t => match P.underlying t with
    | some (.int k) => some (.int k)
    | some .bool => some .bool
    | some (.slice e) => (planOf P m e).map (.sl (P.cellsOf e))
    | some (.array n e) => if n * P.cellsOf e = P.cellsOf t then (planOf P m e).map (repP · n) else none
    | some (.struct fs) => if fsEnd P fs.toList 0 = P.cellsOf t then planFs P (planOf P m) fs.toList 0 else none
    | _ => none

section
variable {H : Type} {enc : TypeId × Value → H} {P : Program} {W : World} {base : Nat} {spare : Nat → Bool} {held : Bool}

def GoodP (W : World) (pl : Pl) (vs : List Value) : Prop := ∃ d, OkD pl d ∧ RepL (allHp W) E0 (shP pl d) vs ∧ (shP pl d).all Sh.one = true
theorem goodP_app {p q : Pl} {us vs : List Value} (h1 : GoodP W p us) (h2 : GoodP W q vs) : GoodP W (.cons p q) (us ++ vs) := by
  obtain ⟨a, a1, a2, a3⟩ := h1
  obtain ⟨b, b1, b2, b3⟩ := h2
  exact ⟨.cons a b, ⟨a1, b1⟩, a2.append b2, by simp only [shP, List.all_append, a3, b3, Bool.and_self]⟩
theorem goodP_nil : GoodP W .nil [] := ⟨.nil, trivial, .nil, rfl⟩
theorem planFs_good {m : Nat} {g : TypeId → Option Pl} {cs : List Value} (hg : ∀ t p vs x, g t = some p → DataW.trod enc P W base spare held m t vs = some x → GoodP W p vs) :
    ∀ (fs : List Field) (acc : Nat) (p : Pl) (xs : List (DataW H × List MemPlace)), planFs P g fs acc = some p → xs.length = fs.length →
      (∀ (i : Nat) (f : Field), fs[i]? = some f → DataW.trod enc P W base spare held m f.type ((cs.drop f.offset).take (P.cellsOf f.type)) = xs[i]?) → cs.length = fsEnd P fs acc → GoodP W p (cs.drop acc)
  | [], acc, p, xs, h, _, _, hl => by
    simp only [planFs, Option.some.injEq] at h
    subst h
    rw [List.drop_of_length_le (by simp [fsEnd] at hl; omega)]
    exact goodP_nil
  | f :: fs, acc, p, xs, h, hx, hi, hl => by
    unfold planFs at h
    split at h
    · rename_i ho
      cases hk : g f.type with
      | none => rw [hk] at h; cases h
      | some p1 =>
        rw [hk] at h
        simp only [Option.bind_some] at h
        cases hr : planFs P g fs (acc + P.cellsOf f.type) with
        | none => rw [hr] at h; cases h
        | some p2 =>
          rw [hr] at h
          simp only [Option.map_some, Option.some.injEq] at h
          subst h
          match xs, hx with
          | x :: xs, hx =>
            have h0 := hi 0 f rfl
            rw [ho] at h0
            have f1 := hg _ _ _ _ hk h0
            have f2 := planFs_good hg fs (acc + P.cellsOf f.type) p2 xs hr (by simpa using hx) (fun i f' hf => by have := hi (i + 1) f' (by simpa using hf); simpa using this) (by simpa [fsEnd] using hl)
            have e : cs.drop acc = (cs.drop acc).take (P.cellsOf f.type) ++ cs.drop (acc + P.cellsOf f.type) := by rw [← List.drop_drop, List.take_append_drop]
            rw [e]
            exact goodP_app f1 f2
    · cases h
theorem repP_good {p : Pl} {k : Nat} : ∀ (n : Nat) (cs : List Value), cs.length = n * k → (∀ i, i < n → GoodP W p ((cs.drop (i * k)).take k)) → GoodP W (repP p n) cs
  | 0, cs, hl, _ => by
    obtain rfl : cs = [] := List.eq_nil_of_length_eq_zero (by simpa using hl)
    exact goodP_nil
  | n + 1, cs, hl, h => by
    have f1 := h 0 (by omega)
    rw [Nat.zero_mul, List.drop_zero] at f1
    have f2 := repP_good (k := k) n (cs.drop k) (by rw [List.length_drop, hl, Nat.add_mul]; omega) (fun i hi => by
      have := h (i + 1) (by omega)
      rw [List.drop_drop, show k + i * k = (i + 1) * k from by rw [Nat.add_mul]; omega]
      exact this)
    have e : cs = cs.take k ++ cs.drop k := by rw [List.take_append_drop]
    rw [e]
    exact goodP_app f1 f2

theorem planOf_good : ∀ (m' : Nat) (t : TypeId) (p : Pl) (m : Nat) (vs : List Value) (x : DataW H × List MemPlace), planOf P m' t = some p → DataW.trod enc P W base spare held m t vs = some x → GoodP W p vs
  | 0, _, _, _, _, _, h, _ => by simp [planOf] at h
  | m' + 1, t, p, m, vs, x, h, hx => by
    unfold planOf at h
    split at h
    · rename_i k hu
      cases h
      obtain ⟨n, rfl, _, hw⟩ := DataW.trod_int hu hx
      simp only [Lit.wf, Bool.and_eq_true, decide_eq_true_eq] at hw
      exact ⟨.i n, hw, .cons (.v rfl) .nil, rfl⟩
    · rename_i hu
      cases h
      obtain ⟨b, rfl, _⟩ := DataW.trod_bool hu hx
      exact ⟨.b b, trivial, .cons (.v rfl) .nil, rfl⟩
    · rename_i e hu
      cases hr : planOf P m' e with
      | none => rw [hr] at h; cases h
      | some q =>
        rw [hr] at h
        simp only [Option.map_some, Option.some.injEq] at h
        subst h
        obtain ⟨s, l, rfl, hs, hc⟩ := slOpen (R := EncR (shP q) (OkD q)) hu rfl (fun n cs x hx hl => by
          obtain ⟨d, d1, d2, d3⟩ := planOf_good m' e q n cs x hr hx
          exact ⟨d2.one d3, d, d2, d3, d1⟩) hx
        obtain ⟨r1, r2⟩ := slice_rep hs hc
        exact ⟨.l l, r2, .cons r1 .nil, rfl⟩
    · rename_i n e hu
      split at h
      · rename_i hc
        cases hr : planOf P m' e with
        | none => rw [hr] at h; cases h
        | some q =>
          rw [hr] at h
          simp only [Option.map_some, Option.some.injEq] at h
          subst h
          obtain ⟨xs, m2, rfl, _, hl, hxl, hf⟩ := DataW.trod_array hu hx
          exact repP_good (k := P.cellsOf e) n vs (by rw [hl, hc]) (fun i hi => by
            have := hf i hi
            rw [List.getElem?_eq_getElem (by omega)] at this
            exact planOf_good m' e q m2 _ _ hr this)
      · cases h
    · rename_i fs hu
      split at h
      · rename_i hc
        obtain ⟨xs, n, rfl, _, hl, hxl, hf⟩ := DataW.trod_struct hu hx
        have := planFs_good (cs := vs) (fun t p vs x h h' => planOf_good m' t p n vs x h h') fs.toList 0 p xs h (by simpa using hxl) (fun i f hi => hf i f (by simpa using hi)) (by rw [hl, hc])
        simpa using this
      · cases h
    · cases h

/-- An argument of one cell. -/
theorem argCell {t : TypeId} {v : Value} {d : DataW H} {ps : List MemPlace} {m : Nat} {p : Pl} (h1 : v.oneCell' = true) (hk : planOf P m t = some p)
    (hd : DataW.Trod enc P W base spare held t v d ps) : ∃ q, OkD p q ∧ RepL (allHp W) E0 (shP p q) [v] := by
  obtain ⟨fuel, hf⟩ := hd
  obtain ⟨q, q1, q2, _⟩ := planOf_good m t p fuel _ _ hk hf
  have e : v.cells = #[v] := by cases v <;> simp_all [Value.cells, Value.oneCell']
  rw [e] at q2
  exact ⟨q, q1, q2⟩
theorem okWide_one {t : TypeId} {dsc : TypeDesc} {v : Value} {r : Reach} {b0 : Nat} (hu : P.underlying t = some dsc) (hs : dsc = .bool ∨ (∃ k, dsc = .int k) ∨ ∃ e, dsc = .slice e) (hval : Value.okWide P W r b0 t v) : v.oneCell' = true := by
  rcases hs with rfl | ⟨k, rfl⟩ | ⟨e, rfl⟩
  · obtain ⟨b, rfl⟩ := okWide_bool hu hval; rfl
  · obtain ⟨n, rfl⟩ := okWide_int hu hval; rfl
  · obtain ⟨a, n, c, rfl⟩ := okWide_slice hu hval; rfl
end
end Go.Proofs.Ytijblpkdfmkcfaa

/-
  The shadow machine: whole functions.
-/
import Derived.Test.YtfcjkchpldfamaaShO
import Derived.Deep.LoopGhost
namespace Go.Proofs.Ytfcjkchpldfamaa
set_option linter.unusedSimpArgs false
set_option linter.unusedVariables false
open Go.RowKit Go.Maps

inductive CM (N : Nat) : Code → SC → Prop
  | skip : CM N .skip .skip
  | ops {id ops gl} : GMs N ops ops.toList gl → CM N (.region id ops false) (.ops gl)
  | ord {id ops t gl} : GMs N ops ops.toList gl → Region.noSelect ops = true → otChk ops gl [] t = true → CM N (.region id ops true) (.ord t gl)
  | drw {id ops n fl gl} : GMs N ops ops.toList gl → agChk ops n fl = true → agDst ops n N = true → frontB ops n gl = true → floatB fl gl = true → CM N (.region id ops true) (.drw n gl)
  | seq {a b x y} : CM N a x → CM N b y → CM N (.seq a b) (.seq x y)
  | cond {c a b x y} : CM N a x → CM N b y → CM N (.cond c a b) (.cond c x y)
  | block {id a x} : CM N a x → CM N (.block id a) (.block id x)
  | loop {a x} : CM N a x → CM N (.loop a) (.loop x)
  | exit {id} : CM N (.exit id) (.exit id)
  | ret : CM N .ret .ret

def QK (N : Nat) (w0 : World) (H0 : Hp) (K : Ex → St → Prop) : Exit → Act → World → Prop
  | .normal, a, w => End N w0 H0 (K .next) a w
  | .exit id, a, w => End N w0 H0 (K (.exit id)) a w
  | .ret, a, w => End N w0 H0 (K .ret) a w
  | _, _, _ => False

theorem GMs.len {N : Nat} {ops : Array Oper} : ∀ {l : List Oper} {gl : List GOp}, GMs N ops l gl → l.length = gl.length
  | _, _, .nil => rfl
  | _, _, .cons _ t => by simp [t.len]
theorem GMs.take {N : Nat} {ops : Array Oper} : ∀ {l : List Oper} {gl : List GOp} (n : Nat), GMs N ops l gl → GMs N ops (l.take n) (gl.take n)
  | _, _, 0, _ => by simp; exact .nil
  | _, _, n + 1, .nil => by simp; exact .nil
  | _, _, n + 1, .cons h t => by simp; exact .cons h (t.take n)
theorem GMs.drop {N : Nat} {ops : Array Oper} : ∀ {l : List Oper} {gl : List GOp} (n : Nat), GMs N ops l gl → GMs N ops (l.drop n) (gl.drop n)
  | _, _, 0, h => by simpa using h
  | _, _, n + 1, .nil => by simp; exact .nil
  | _, _, n + 1, .cons h t => by simp; exact t.drop n

section
variable {N : Nat} {w0 w w' : World} {H0 H H' : Hp} {S : St} {E : Env} {a : Act} {K : Ex → St → Prop}

theorem Sim.frzAll : ∀ (l : List Sh) {S : St} {H : Hp}, Sim N w0 H0 S E a w H → ∃ H', Le H H' ∧ Sim N w0 H0 (S.frzAll l) E a w H'
  | [], S, H, h => ⟨H, Le.refl _, h⟩
  | x :: l, S, H, h => by
    obtain ⟨H1, l1, h1⟩ := h.frzSh x
    obtain ⟨H2, l2, h2⟩ := Sim.frzAll l h1
    exact ⟨H2, l1.trans l2, h2⟩

theorem keepT_spec {α : Type} {l : List (Nat × α)} : ∀ {ks : List Nat} {t : Nat} {x : α}, getA (keepT l ks) t = some x → getA l t = some x ∧ ks.contains t = true
  | k :: ks, t, x, h => by
    unfold keepT at h
    split at h
    · rename_i y hy
      simp only [getA] at h
      split at h
      · rename_i e; cases h; subst e; exact ⟨hy, by simp⟩
      · obtain ⟨a, b⟩ := keepT_spec h; exact ⟨a, by simp only [List.contains_cons, Bool.or_eq_true]; exact .inr b⟩
    · obtain ⟨a, b⟩ := keepT_spec h; exact ⟨a, by simp only [List.contains_cons, Bool.or_eq_true]; exact .inr b⟩
theorem keepT_get {α : Type} {ks : List Nat} {l : List (Nat × α)} {t : Nat} {x : α} (h : getA (keepT l ks) t = some x) : getA l t = some x := (keepT_spec h).1
theorem keepT_mem {α : Type} {ks : List Nat} {l : List (Nat × α)} {t : Nat} {x : α} (h : getA (keepT l ks) t = some x) : ks.contains t = true := (keepT_spec h).2
def Env.restr (E : Env) (ids : List Nat) : Env := fun i => if ids.contains i = true then E i else none
theorem refsC_rep {H : Hp} {E : Env} {ids : List Nat} {x : Sh} {u : Value} (h : Rep H E x u) (hc : refsC ids x = true) : Rep H (E.restr ids) x u := by
  cases h with
  | @own E i u k b h h1 => exact .own (show E.restr ids i = some (u, k, b) from (if_pos hc).trans h) h1
  | @ptr E i idx off u k b h => exact .ptr (show E.restr ids i = some (u, k, some b) from (if_pos hc).trans h)
  | agg => cases hc
  | tup => cases hc
  | v h => exact .v h
  | sl a b c d e f g => exact .sl a b c d e f g
  | mpn h => exact .mpn h
  | mp a b c d e => exact .mp a b c d e
  | fn a b => exact .fn a b
  | ifc a => exact .ifc a
  | fp a b c => exact .fp a b c
  | any a => exact .any a
theorem refsL_rep {H : Hp} {E : Env} {ids : List Nat} : ∀ {cs : List Sh} {vs : List Value}, RepL H E cs vs → refsL ids cs = true → RepL H (E.restr ids) cs vs
  | _, _, .nil, _ => .nil
  | _, _, .cons h t, hc => by simp only [refsL, Bool.and_eq_true] at hc; exact .cons (refsC_rep h hc.1) (refsL_rep t hc.2)
theorem refsOk_rep {H : Hp} {E : Env} {ids : List Nat} {x : Sh} {u : Value} (h : Rep H E x u) (hc : refsOk ids x = true) : Rep H (E.restr ids) x u := by
  cases x with
  | agg cs => cases h with | agg h h1 => exact .agg (refsL_rep h hc) h1
  | tup => cases hc
  | _ => exact refsC_rep h hc
theorem refsT_get {ids : List Nat} : ∀ {l : List (Nat × Sh)} {t : Nat} {x : Sh}, refsT ids l = true → getA l t = some x → refsOk ids x = true
  | (k, y) :: l, t, x, h, hg => by
    simp only [refsT, Bool.and_eq_true] at h
    simp only [getA] at hg
    split at hg
    · cases hg; exact h.1
    · exact refsT_get h.2 hg
theorem refsO_get {ids : List Nat} : ∀ {l : List (Nat × Ob)} {i : Nat} {t : TypeId} {cs : List Sh}, refsO ids l = true → getA l i = some (.box t cs) → refsL ids cs = true
  | (k, .box _ cs') :: l, i, t, cs, h, hg => by
    simp only [refsO, Bool.and_eq_true] at h
    simp only [getA] at hg
    split at hg
    · cases hg; exact h.1
    · exact refsO_get h.2 hg
  | (k, .row ..) :: l, i, t, cs, h, hg => by
    simp only [refsO] at h
    simp only [getA] at hg
    split at hg
    · cases hg
    · exact refsO_get h hg
  | (k, .map ..) :: l, i, t, cs, h, hg => by
    simp only [refsO] at h
    simp only [getA] at hg
    split at hg
    · cases hg
    · exact refsO_get h hg
  | (k, .iter ..) :: l, i, t, cs, h, hg => by
    simp only [refsO] at h
    simp only [getA] at hg
    split at hg
    · cases hg
    · exact refsO_get h hg
  | (k, .frz _) :: l, i, t, cs, h, hg => by
    simp only [refsO] at h
    simp only [getA] at hg
    split at hg
    · cases hg
    · exact refsO_get h hg
theorem idxN_get : ∀ {ids : List Nat} {i : Nat}, ids.contains i = true → ids[idxN ids i]? = some i
  | k :: l, i, h => by
    unfold idxN
    split
    · rename_i e; subst e; rfl
    · rename_i e
      simp only [List.contains_cons, Bool.or_eq_true, beq_iff_eq] at h
      rw [List.getElem?_cons_succ]
      exact idxN_get (h.resolve_left (fun h => e h.symm))
def Env.ren (E : Env) (ids : List Nat) : Env := fun j => (ids[j]?).bind E
theorem Env.ren_at {E : Env} {ids : List Nat} {i : Nat} (h : ids.contains i = true) : E.ren ids (idxN ids i) = E i := by
  unfold Env.ren; rw [idxN_get h]; rfl
theorem renC_rep {H : Hp} {E : Env} {ids : List Nat} {x : Sh} {u : Value} (h : Rep H E x u) (hc : refsC ids x = true) : Rep H (E.ren ids) (renC ids x) u := by
  cases h with
  | @own E i u k b h h1 => exact .own (show E.ren ids (idxN ids i) = some (u, k, b) from (Env.ren_at hc).trans h) h1
  | @ptr E i idx off u k b h => exact .ptr (show E.ren ids (idxN ids i) = some (u, k, some b) from (Env.ren_at hc).trans h)
  | agg => cases hc
  | tup => cases hc
  | v h => exact .v h
  | sl a b c d e f g => exact .sl a b c d e f g
  | mpn h => exact .mpn h
  | mp a b c d e => exact .mp a b c d e
  | fn a b => exact .fn a b
  | ifc a => exact .ifc a
  | fp a b c => exact .fp a b c
  | any a => exact .any a
theorem renC_one (ids : List Nat) (x : Sh) : (renC ids x).one = x.one := by cases x <;> rfl
theorem renL_one (ids : List Nat) (cs : List Sh) (h : cs.all Sh.one = true) : (cs.map (renC ids)).all Sh.one = true := by
  rw [List.all_map]
  rw [List.all_eq_true] at h ⊢
  intro x hx
  simp only [Function.comp, renC_one]
  exact h x hx
theorem renL_rep {H : Hp} {E : Env} {ids : List Nat} : ∀ {cs : List Sh} {vs : List Value}, RepL H E cs vs → refsL ids cs = true → RepL H (E.ren ids) (cs.map (renC ids)) vs
  | _, _, .nil, _ => .nil
  | _, _, .cons h t, hc => by simp only [refsL, Bool.and_eq_true] at hc; exact .cons (renC_rep h hc.1) (renL_rep t hc.2)
theorem renSh_rep {H : Hp} {E : Env} {ids : List Nat} {x : Sh} {u : Value} (h : Rep H E x u) (hc : refsOk ids x = true) : Rep H (E.ren ids) (renSh ids x) u := by
  cases x with
  | agg cs => cases h with | agg h h1 => exact .agg (renL_rep h hc) (renL_one ids cs h1)
  | tup => cases hc
  | _ => exact renC_rep h hc
theorem renT_get {ids : List Nat} : ∀ {l : List (Nat × Sh)} {t : Nat} {y : Sh}, getA (renT ids l) t = some y → ∃ x, getA l t = some x ∧ y = renSh ids x
  | (k, x) :: l, t, y, h => by
    simp only [renT, getA] at h ⊢
    split at h
    · rename_i e; rw [if_pos e]; cases h; exact ⟨x, rfl, rfl⟩
    · rename_i e; rw [if_neg e]; exact renT_get h
theorem renO_get {ids : List Nat} : ∀ {l : List (Nat × Ob)} {j : Nat} {o' : Ob}, getA (renO ids l) j = some o' → ∃ i o, getA l i = some o ∧ idxN ids i = j ∧ o' = renOb ids o
  | (k, x) :: l, j, o', h => by
    simp only [renO, getA] at h
    split at h
    · rename_i e; cases h; exact ⟨k, x, by simp [getA], e, rfl⟩
    · rename_i e
      obtain ⟨i, o, h1, h2, h3⟩ := renO_get h
      refine ⟨i, o, ?_, h2, h3⟩
      simp only [getA]
      rw [if_neg (fun e' => e (by rw [e']; exact h2))]
      exact h1
theorem renOb_live (ids : List Nat) (o : Ob) : (renOb ids o).live = o.live := by cases o <;> rfl
theorem Sim.keep (h : Sim N w0 H0 S E a w H) (kp : Option (List Nat × Option (List Nat × Nat))) : ∃ E', Sim N w0 H0 (S.keep kp) E' a w H := by
  have small : ∀ ks, Sim N w0 H0 ⟨keepT S.T ks, S.O, S.n⟩ E a w H := fun ks => h.less (fun t x hx => keepT_get hx) (fun _ _ h => h) rfl
  match kp with
  | none => exact ⟨E, h⟩
  | some (ks, none) => exact ⟨E, small ks⟩
  | some (ks, some (ids, n)) =>
    simp only [St.keep]
    split
    · rename_i hc
      simp only [Bool.and_eq_true, decide_eq_true_eq] at hc
      obtain ⟨c1, c2, c3⟩ := hc
      have hpre : ∀ j, lives ⟨renT ids (keepT S.T ks), renO ids (keepT S.O ids), n⟩ j → ∃ i, idxN ids i = j ∧ ids.contains i = true ∧ lives S i := by
        rintro j ⟨o', ho', hl⟩
        obtain ⟨i, o, h1, h2, rfl⟩ := renO_get ho'
        rw [renOb_live] at hl
        exact ⟨i, h2, keepT_mem h1, o, keepT_get h1, hl⟩
      refine ⟨E.ren ids, h.grow, fun t y hy => ?_, fun j o' ho' => ?_, ?_, fun i hi => ?_, h.sz, h.df⟩
      · obtain ⟨x, hx, rfl⟩ := renT_get hy
        exact renSh_rep (h.tm t x (keepT_get hx)) (refsT_get c1 hx)
      · obtain ⟨i, o, h1, rfl, rfl⟩ := renO_get ho'
        have hi := keepT_mem h1
        have hE : E.ren ids (idxN ids i) = E i := Env.ren_at hi
        have hob := h.ob i o (keepT_get h1)
        cases o with
        | box t cs => obtain ⟨b, vs, h1', h2, h3, h4, h5, h6⟩ := hob; exact ⟨b, vs, hE.trans h1', h2, h3, h4, renL_rep h5 (refsO_get c2 h1), renL_one ids cs h6⟩
        | row e k es => obtain ⟨u, ob, xs, h1, h⟩ := hob; exact ⟨u, ob, xs, hE.trans h1, h⟩
        | map kt N f => obtain ⟨b, o, F, h1, h⟩ := hob; exact ⟨b, o, F, hE.trans h1, h⟩
        | iter f left cnt cur => obtain ⟨r, ob, h1, h⟩ := hob; exact ⟨r, ob, hE.trans h1, h⟩
        | frz x => obtain ⟨u, k, b, h1, h⟩ := hob; exact ⟨u, k, b, hE.trans h1, h⟩
      · intro i j hij hi hj b u k u' k' e1 e2
        obtain ⟨i0, rfl, ci, li⟩ := hpre i hi
        obtain ⟨j0, rfl, cj, lj⟩ := hpre j hj
        rw [Env.ren_at ci] at e1
        rw [Env.ren_at cj] at e2
        exact h.ap i0 j0 (fun e => hij (by rw [e])) li lj b u k u' k' e1 e2
      · show E.ren ids i = none
        unfold Env.ren
        rw [List.getElem?_eq_none (by simp only at hi; omega)]
        rfl
    · exact ⟨E, small ks⟩

theorem getA_insO (i : Nat) (o : Ob) : ∀ (l : List (Nat × Ob)) (j : Nat), getA (insO i o l) j = if i = j then some o else getA l j
  | [], j => by simp [insO, getA]
  | (k, p) :: l, j => by
    unfold insO
    split
    · simp [getA]
    · rename_i hk
      simp only [getA, getA_insO i o l j]
      by_cases e1 : k = j
      · have : ¬ i = j := by omega
        simp [e1, this]
      · simp [e1]
theorem getA_srtO : ∀ (l : List (Nat × Ob)) (j : Nat), getA (srtO l) j = getA l j
  | [], _ => rfl
  | (i, o) :: l, j => by simp only [srtO, getA_insO, getA_srtO l j, getA]
theorem Sim.sorted (h : Sim N w0 H0 S E a w H) : Sim N w0 H0 S.sorted E a w H := h.less (fun _ _ h => h) (fun i o ho => by simpa [St.sorted, getA_srtO] using ho) rfl

theorem QK_panic {c a d v w} : QK N w0 H0 K (.panic c) (Act.put a (some d) v) w → QK N w0 H0 K (.panic c) a w := fun h => h.elim

theorem ev_sound (hm : Try.prog.follows .mixedOrders = true) : ∀ {c : Code} {sc : SC} {S : St} {E : Env} {a : Act} {w : World} {H : Hp} {K : Ex → St → Prop}, CM N c sc → ev sc S K → Sim N w0 H0 S E a w H → c.wp Try.prog (QK N w0 H0 K) a w := by
  intro c sc S E a w H K hc
  induction hc generalizing S E a w H K with
  | skip => intro h hS; exact wp_skip ⟨_, _, _, h, hS⟩
  | exit => intro h hS; exact wp_exit ⟨_, _, _, h, hS⟩
  | ret => intro h hS; exact wp_ret ⟨_, _, _, h, hS⟩
  | ops hg => intro h hS; obtain ⟨cs, h⟩ := h; obtain ⟨E1, hS⟩ := hS.casts cs; exact wp_region_list (evL_sound hg h hS fun _ _ h => h)
  | @ord id ops t gl hg h1 h2 =>
    intro h hS
    obtain ⟨cs, S1, h, hk⟩ := h
    obtain ⟨E1, hS⟩ := hS.casts cs
    refine wp_region_any hm ?_
    have hS2 : Sim N w0 H0 (S.casts cs) E1 a w.drew H := hS.grown (Grow.refl hS.sub).drew
    refine evTr_sound (K := fun S' => ∃ kp, (S'.keep kp).sorted = S1) h1 (fun c a d v w h => h.elim) hg ops.size t [] _ (S.casts cs) E1 a _ H ?_ (by simp) (fun i hi => by simp [hi]) (fun i hi => by simp at hi) h2 h hS2 ?_
    · unfold leftN
      rw [Array.toList_replicate, List.countP_replicate]; simp
    · rintro a' w' ⟨S', E', H', ⟨kp, rfl⟩, hS'⟩
      obtain ⟨E3, hS3⟩ := hS'.keep kp
      exact ⟨_, E3, H', hk, hS3.sorted⟩
  | @drw id ops n fl gl hg h1 h2 h3 h4 =>
    intro h hS
    obtain ⟨gs, cs, h⟩ := h
    obtain ⟨E, hS⟩ := hS.casts cs
    obtain ⟨H1, _, hS1⟩ := hS.frzAll gs
    have hf := agChk_spec h1
    have hle := hf.le
    refine wp_region_ag n fl H1 hm h1 (by rw [hS1.sz]; exact h2) (fun c a d v w => QK_panic) hS1.sub ?_
    refine evF_sound (N := N) (w0 := w0) (H0 := H0) (E := E) (S0 := (S.casts cs).frzAll gs) (K := fun S' => evL (gl.drop n) S' (K .next)) (glA := gl) hf hS1 h3 h4 (ops.toList.take n) (gl.take n) [] ((S.casts cs).frzAll gs) ((S.casts cs).frzAll gs) [] (hg.take n) (by simp; omega)
      (fun j hj => by simp at hj; rw [List.getElem?_take, if_pos (by omega)]; simp) (fun j hj => by simp at hj; rw [List.getElem?_take, if_pos (by omega)]; simp) ⟨rfl, fun t x hx => ?_⟩ ?_ (fun i o h => .inl h) h ?_
    · by_cases hn : noDst ops n t = true
      · exact .inl ⟨hn, hx⟩
      · refine .inr (.inr ?_)
        unfold noDst at hn
        simp only [List.all_eq_true, Classical.not_forall] at hn
        obtain ⟨o, ho, hne⟩ := hn
        obtain ⟨i, hi⟩ := List.mem_iff_getElem?.1 ho
        rw [List.getElem?_take] at hi
        split at hi
        · rename_i hin
          exact ⟨i, o, by simp, hin, by simpa using hi, by simpa using hne⟩
        · cases hi
    · intro W H' hg' os2 Rs2 hk
      exact hk a E (ELe.refl _) (hS1.grown hg')
    · rintro W H' a' hg' ⟨S', E', H'', hk, hS'⟩
      exact evL_sound (hg.drop n) hk hS' fun _ _ h => h
  | seq _ _ ih1 ih2 =>
    intro h hS
    refine wp_seq (wp_mono (ih1 h hS) ?_)
    intro e a' w' hq
    cases e with
    | normal => obtain ⟨S', E', H', ⟨ks, hk⟩, hS'⟩ := hq; obtain ⟨E2, hS2⟩ := hS'.keep ks; exact ih2 hk hS2
    | exit id => exact hq
    | ret => exact hq
    | goto l => exact hq
    | panic c => exact hq
    | outgrown => exact hq
  | cond _ _ ih1 ih2 =>
    intro h hS
    obtain ⟨s, hs, h⟩ := oB_elim h
    have hR := hS.opd hs
    cases s with
    | v q =>
      cases q with
      | bool t =>
        generalize hqq : a.eval _ = qq at hR
        cases hR
        refine wp_cond hqq ?_
        cases t with
        | true => exact ih1 (h.1 rfl) hS
        | false => exact ih2 (h.2 rfl) hS
      | _ => exact h.elim
    | _ => exact h.elim
  | @block id _ _ _ ih =>
    intro h hS
    refine wp_block (wp_mono (ih h hS) ?_)
    intro e a' w' hq
    cases e with
    | normal => exact hq
    | exit j =>
      obtain ⟨S', E', H', hk, hS'⟩ := hq
      simp only [Exit.inBlock]
      simp only at hk
      split at hk
      · rename_i e; rw [if_pos e]; exact ⟨S', E', H', hk, hS'⟩
      · rename_i e; rw [if_neg e]; exact ⟨S', E', H', hk, hS'⟩
    | ret => exact hq
    | goto l => exact hq
    | panic c => exact hq
    | outgrown => exact hq
  | loop _ ih =>
    intro h hS
    obtain ⟨I, m, kp, cs, h0, hI⟩ := h
    obtain ⟨E2, hS⟩ := hS.casts cs
    obtain ⟨E3, hS3⟩ := hS.keep kp
    refine wp_loop_ghost (fun k a w => ∃ S1 E1 H1, I k S1 ∧ Sim N w0 H0 S1 E1 a w H1) m ⟨_, E3, H, h0, hS3⟩ ?_
    rintro k a w ⟨S1, E1, H1, hk, hS1⟩
    refine wp_mono (ih (hI k S1 hk) hS1) ?_
    intro e a' w' hq
    cases e with
    | normal => obtain ⟨S', E', H', ⟨k', kp, hk', hI'⟩, hS'⟩ := hq; obtain ⟨E2, hS2⟩ := hS'.keep kp; exact ⟨k', hk', _, E2, H', hI', hS2⟩
    | exit id => exact hq
    | ret => exact hq
    | goto l => exact hq
    | panic c => exact hq
    | outgrown => exact hq

inductive RVM : ResultVar → RV → Prop
  | tmp {t} : RVM (.tmp t) (.tmp t)
  | celA {t ty d i} : Try.prog.underlying ty = some d → aggB d = true → Try.prog.info? ty = some i → RVM (.cell t ty) (.cel t (some i.size))
  | cel1 {t ty d} : Try.prog.underlying ty = some d → aggB d = false → RVM (.cell t ty) (.cel t none)
inductive RVMs : List ResultVar → List RV → Prop
  | nil : RVMs [] []
  | cons {x y l l'} : RVM x y → RVMs l l' → RVMs (x :: l) (y :: l')

def resOf (tmps : Array Value) : ResultVar → Sem Value
  | .tmp t => pure (tmps.getD t undef)
  | .cell a t => do loadVar t (← asAddr (tmps.getD a undef))

theorem retv_run (hS : Sim N w0 H0 S E a w H) {x y s} (hx : RVM x y) (h : S.retv y = some s) : ∃ v, (resOf a.tmps x).run Try.prog w = .ok v w ∧ Rep H E s v := by
  cases hx with
  | @tmp t => have h' : S.opd (.tmp t) = some s := h; exact ⟨a.eval (.tmp t), rfl, hS.opd h'⟩
  | @celA t ty d i h1 h2 h3 =>
    simp only [St.retv, Option.bind_eq_some_iff] at h
    obtain ⟨p, hp, ⟨cs, off⟩, hat, h⟩ := h
    simp only at h
    split at h
    · rename_i hl
      cases h
      obtain ⟨b, o', vs, hv, hR, h1c, hat⟩ := at_rep hS.ob hS.sub (hS.opd hp) hat
      have hv' : a.tmps.getD t undef = .pointer (some ⟨b, o' + off, none⟩) := hv
      have := (run_load_at (P := Try.prog) (off := off) h1 hat).1 i h2 h3 (by rw [← hR.length]; exact hl)
      refine ⟨_, by simp only [resOf, hv']; simpa [Instr.loadAt, Instr.sureAddr, asAddr] using this, .agg ((hR.drop off).take _) ?_⟩
      rw [List.all_eq_true] at h1c ⊢
      intro x hx
      exact h1c x (List.mem_of_mem_drop (List.mem_of_mem_take hx))
    · cases h
  | @cel1 t ty d h1 h2 =>
    simp only [St.retv, Option.bind_eq_some_iff] at h
    obtain ⟨p, hp, ⟨cs, off⟩, hat, h⟩ := h
    obtain ⟨b, o', vs, hv, hR, h1c, hat⟩ := at_rep hS.ob hS.sub (hS.opd hp) hat
    have hv' : a.tmps.getD t undef = .pointer (some ⟨b, o' + off, none⟩) := hv
    obtain ⟨u, hu, hr⟩ := hR.get h
    have := (run_load_at (P := Try.prog) (off := off) h1 hat).2 u h2 hu
    exact ⟨u, by simp only [resOf, hv']; simpa [Instr.loadAt, Instr.sureAddr, asAddr] using this, hr⟩

theorem retL_run (hS : Sim N w0 H0 S E a w H) : ∀ {xs ys l}, RVMs xs ys → S.retL ys = some l → ∃ vs, (xs.mapM (resOf a.tmps)).run Try.prog w = .ok vs w ∧ RepL H E0 l vs
  | _, _, l, .nil, h => by simp only [St.retL, Option.some.injEq] at h; subst h; exact ⟨[], by simp, .nil⟩
  | _, _, l, .cons hx hxs, h => by
    simp only [St.retL, Option.bind_eq_some_iff, Option.map_eq_some_iff] at h
    obtain ⟨y, ⟨z, hz, hy⟩, l', hl, rfl⟩ := h
    obtain ⟨v, hv, hr⟩ := retv_run hS hx hz
    obtain ⟨vs, hvs, hrs⟩ := retL_run hS hxs hl
    exact ⟨v :: vs, by simp [List.mapM_cons, hv, hvs], .cons (arg_rep hS.ob hr hy) hrs⟩

theorem Sim.frzRets : ∀ (l : List RV) {S : St} {H : Hp}, Sim N w0 H0 S E a w H → ∃ H', Le H H' ∧ Sim N w0 H0 (S.frzRets l) E a w H'
  | [], S, H, h => ⟨H, Le.refl _, h⟩
  | x :: l, S, H, h => by
    unfold St.frzRets
    split
    · rename_i s _
      obtain ⟨H1, l1, h1⟩ := h.frzSh s
      obtain ⟨H2, l2, h2⟩ := Sim.frzRets l h1
      exact ⟨H2, l1.trans l2, h2⟩
    · exact Sim.frzRets l h

theorem results_run (hS : Sim N w0 H0 S E a w H) {fn : Func} {rvs l} (hr : RVMs fn.results.toList rvs) (h : S.retL rvs = some l) : ∃ v, (results fn a.tmps).run Try.prog w = .ok v w ∧ Rep H E0 (ret1 l) v := by
  obtain ⟨vs, hvs, hrs⟩ := retL_run hS hr h
  have hrun : (fn.results.mapM (resOf a.tmps)).run Try.prog w = .ok vs.toArray w := by
    rw [Array.mapM_eq_mapM_toList]; simp [hvs]
  have he : results fn a.tmps = ((fn.results.mapM (resOf a.tmps)) >>= fun vs => pure (if h : vs.size = 1 then vs[0] else .tuple vs)) := by
    have e : (fun x : ResultVar => match x with
      | .tmp t => (pure (a.tmps.getD t undef) : Sem Value)
      | .cell b t => do loadVar t (← asAddr (a.tmps.getD b undef))) = resOf a.tmps := by funext x; cases x <;> rfl
    rw [← e]; rfl
  rw [he, Sem.run_bind, hrun]
  simp only [Result.andThen_ok, Sem.run_pure]
  refine ⟨_, rfl, ?_⟩
  cases hrs with
  | nil => exact .tup .nil
  | cons h1 t =>
    cases t with
    | nil => exact h1
    | cons h2 t => exact .tup (.cons h1 (.cons h2 t))

theorem argT_get : ∀ (args : List Sh) (vs : List Value) (i t : Nat) (x : Sh), RepL H E args vs → getA (argT i args) t = some x → ∃ u, vs[t - i]? = some u ∧ i ≤ t ∧ Rep H E x u
  | [], _, i, t, x, _, h => by cases h
  | y :: args, _, i, t, x, .cons h1 hr, h => by
    simp only [argT, getA] at h
    split at h
    · rename_i e; cases h; subst e; exact ⟨_, by simp, Nat.le_refl _, h1⟩
    · obtain ⟨u, hu, hi, hr⟩ := argT_get args _ (i + 1) t x hr h
      exact ⟨u, by rw [show t - i = (t - (i + 1)) + 1 by omega]; simpa using hu, by omega, hr⟩

/-- A function that the shadow machine tells. -/
theorem ok_of_ev {f : FuncId} {fn : Func} {c : Code} {sc : SC} {rvs : List RV} {args : List Sh} {r : Sh} (hf : Try.prog.funcs[f]? = some fn) (hb : fn.body = some c) (hm : Try.prog.follows .mixedOrders = true) (hc : CM fn.ntmps c sc) (hr : RVMs fn.results.toList rvs)
    (hn : args.length ≤ fn.ntmps) (h : evFn sc rvs args r) : Ok f args r := by
  intro w H vs hs hv
  have hl := hv.length
  refine calls_of_wp hf hb ?_
  have hS : Sim fn.ntmps w H ⟨argT 0 args, [], 0⟩ E0 { tmps := vs.toArray ++ Array.replicate (fn.ntmps - vs.toArray.size) undef, defers := [] } w H := by
    refine ⟨Grow.refl hs, fun t x hx => ?_, (fun i o h => by cases h), (by rintro i j _ ⟨_, h, _⟩; cases h), (fun i _ => rfl), (by simp; omega), rfl⟩
    obtain ⟨u, hu, _, hR⟩ := argT_get args vs 0 t x hv hx
    have ht : t < vs.length := by have := (List.getElem?_eq_some_iff.1 hu).1; simpa using this
    have e : (vs.toArray ++ Array.replicate (fn.ntmps - vs.toArray.size) undef)[t]? = some u := by
      rw [Array.getElem?_append_left (by simpa using ht)]; simpa using hu
    have e2 : ({ tmps := vs.toArray ++ Array.replicate (fn.ntmps - vs.toArray.size) undef, defers := [] } : Act).eval (.tmp t) = u := by
      simp only [Act.eval, Array.getD_eq_getD_getElem?, e, Option.getD_some]
    rw [e2]; exact hR
  refine wp_mono (ev_sound (K := fin rvs r) hm hc h hS) ?_
  intro e a' w' hq
  have fin' : End fn.ntmps w H (fun S => oB ((S.frzRets rvs).retL rvs) fun l => ret1 l = r) a' w' → a'.defers = [] ∧ ∃ v, (results fn a'.tmps).run Try.prog w' = .ok v w' ∧ RetPost w H (fun v : Value => v) (fun v H' => Rep H' E0 r v) (.returned v) w' := by
    rintro ⟨S', E', H', hk, hS'⟩
    obtain ⟨H2, _, hS2⟩ := hS'.frzRets rvs
    obtain ⟨l, hl, rfl⟩ := oB_elim hk
    obtain ⟨v, hv1, hv2⟩ := results_run hS2 hr hl
    exact ⟨hS2.df, v, hv1, ret_mk (c := fun v : Value => v) v H2 hS2.grow hv2⟩
  cases e with
  | normal => exact fin' hq
  | ret => exact fin' hq
  | exit id => obtain ⟨_, _, _, h, _⟩ := hq; exact h.elim
  | goto l => exact hq.elim
  | panic c => exact hq.elim
  | outgrown => exact hq.elim
/-- A function that the shadow machine tells. -/
theorem ok_of_ev2 {f : FuncId} {fn : Func} {c : Code} {sc : SC} {rvs : List RV} {args : List Sh} {r : Sh} (hf : Try.prog.funcs[f]? = some fn) (hb : fn.body = some c) (hm : Try.prog.follows .mixedOrders = true) (hc : CM fn.ntmps c sc) (hr : RVMs fn.results.toList rvs)
    (hn : args.length ≤ fn.ntmps) (h : evFn2 sc rvs args r) : Ok f args r := by
  intro w H vs hs hv
  have hl := hv.length
  refine calls_of_wp hf hb ?_
  have hS : Sim fn.ntmps w H ⟨argT 0 args, [], 0⟩ E0 { tmps := vs.toArray ++ Array.replicate (fn.ntmps - vs.toArray.size) undef, defers := [] } w H := by
    refine ⟨Grow.refl hs, fun t x hx => ?_, (fun i o h => by cases h), (by rintro i j _ ⟨_, h, _⟩; cases h), (fun i _ => rfl), (by simp; omega), rfl⟩
    obtain ⟨u, hu, _, hR⟩ := argT_get args vs 0 t x hv hx
    have ht : t < vs.length := by have := (List.getElem?_eq_some_iff.1 hu).1; simpa using this
    have e : (vs.toArray ++ Array.replicate (fn.ntmps - vs.toArray.size) undef)[t]? = some u := by
      rw [Array.getElem?_append_left (by simpa using ht)]; simpa using hu
    have e2 : ({ tmps := vs.toArray ++ Array.replicate (fn.ntmps - vs.toArray.size) undef, defers := [] } : Act).eval (.tmp t) = u := by
      simp only [Act.eval, Array.getD_eq_getD_getElem?, e, Option.getD_some]
    rw [e2]; exact hR
  refine wp_mono (ev_sound (K := fin2 rvs r) hm hc h hS) ?_
  intro e a' w' hq
  have fin' : End fn.ntmps w H (fun S => oB ((S.frzRets rvs).retL rvs) fun l => RepLe (ret1 l) r) a' w' → a'.defers = [] ∧ ∃ v, (results fn a'.tmps).run Try.prog w' = .ok v w' ∧ RetPost w H (fun v : Value => v) (fun v H' => Rep H' E0 r v) (.returned v) w' := by
    rintro ⟨S', E', H', hk, hS'⟩
    obtain ⟨H2, _, hS2⟩ := hS'.frzRets rvs
    obtain ⟨l, hl, hle⟩ := oB_elim hk
    obtain ⟨v, hv1, hv2⟩ := results_run hS2 hr hl
    exact ⟨hS2.df, v, hv1, ret_mk (c := fun v : Value => v) v H2 hS2.grow (hle _ _ hv2)⟩
  cases e with
  | normal => exact fin' hq
  | ret => exact fin' hq
  | exit id => obtain ⟨_, _, _, h, _⟩ := hq; exact h.elim
  | goto l => exact hq.elim
  | panic c => exact hq.elim
  | outgrown => exact hq.elim
end
end Go.Proofs.Ytfcjkchpldfamaa

/-
  The shadow machine: going through a map that nobody writes any more.
-/
import Derived.Test.YtfcjkchpldfamaaShC
namespace Go.Proofs.Ytfcjkchpldfamaa
set_option linter.unusedSimpArgs false
set_option linter.unusedVariables false
open Go.RowKit Go.Maps

theorem ranges_any {Hd : Type} {P : Program} {k : TypeId} {R : Value → Option (DataW Hd × List MemPlace)} {w w' : World} {b r n : Nat} {D : DataW Hd} {left : Lit → Bool} {cnt : Nat} (h : w.ranges P k R b r n D left cnt)
    (hb : w'.heap[b]? = w.heap[b]?) (hr : w'.heap[r]? = w.heap[r]?) : w'.ranges P k R b r n D left cnt := by
  obtain ⟨es, clock, since, seen, c0, h1, h2, h3, h4, h5, h6⟩ := h
  exact ⟨es, clock, since, seen, c0, hb.trans h1, h2, h3, h4, hr.trans h5, h6⟩
theorem ranges_ob {Hd : Type} {P : Program} {k : TypeId} {R : Value → Option (DataW Hd × List MemPlace)} {w : World} {b r n : Nat} {D : DataW Hd} {left : Lit → Bool} {cnt : Nat} (h : w.ranges P k R b r n D left cnt) :
    ∃ ob, w.heap[r]? = some ob := by
  obtain ⟨es, clock, since, seen, c0, h1, h2, h3, h4, h5, h6⟩ := h
  exact ⟨_, h5⟩

theorem DF.get {D : DataW Value} {F : Int → Option Value} (hd : DF D F) {x : Int} {v : Value} (hat : ∀ zd, D.atKey (.int .i64 x) zd = .held v) : F x = some v := by
  obtain ⟨es, rfl, hris, hm⟩ := hd
  have hap := apart_of_rising hris
  have hh := Maps.has_true_of_atKey hat
  obtain ⟨p, hp, hsk⟩ := List.any_eq_true.1 (show es.any (fun p => p.1.sameKey (.int .i64 x)) = true from hh)
  have e1 : p.1 = .int .i64 x := WideAt.sameKey_eq hsk
  obtain ⟨k, u, rfl, hk⟩ := (hm p).1 hp
  cases e1
  have e2 := hat .nil
  rw [WideAt.atKey_mem (k := .int .i64 x) (d := .held u) .nil (by simp [WideAt.IsKeyLit]) hap hp] at e2
  simp only [DataW.held.injEq] at e2
  subst e2
  exact hk
theorem DF.has {D : DataW Value} {F : Int → Option Value} (hd : DF D F) (x : Int) : Maps.has D (.int .i64 x) = (F x).isSome := by
  obtain ⟨es, rfl, hris, hm⟩ := hd
  cases hF : F x with
  | some v =>
    have hp := (hm (.int .i64 x, .held v)).2 ⟨x, v, rfl, hF⟩
    show es.any (fun p => p.1.sameKey (.int .i64 x)) = true
    exact List.any_eq_true.2 ⟨_, hp, by simp [Lit.sameKey]⟩
  | none =>
    cases hh : Maps.has (.map es) (.int .i64 x) with
    | false => rfl
    | true =>
      obtain ⟨p, hp, hsk⟩ := List.any_eq_true.1 (show es.any (fun p => p.1.sameKey (.int .i64 x)) = true from hh)
      have e1 : p.1 = .int .i64 x := WideAt.sameKey_eq hsk
      obtain ⟨k, u, rfl, hk⟩ := (hm p).1 hp
      cases e1
      rw [hF] at hk; cases hk

theorem run_objI {P : Program} {w : World} {r : Nat} {x s c} {se : Array Nat} (h : w.heap[r]? = some (.mapIter x s se c)) : (getObj r).run P w = .ok (.mapIter x s se c) w := by
  simp [getObj, Sem.run, h]
theorem run_objM {P : Program} {w : World} {r : Nat} {es c} (h : w.heap[r]? = some (.map es c)) : (getObj r).run P w = .ok (.map es c) w := by
  simp [getObj, Sem.run, h]
theorem wf_i64 {j : Int} (h : (Lit.int .i64 j).wf = true) : -9223372036854775808 ≤ j ∧ j ≤ 9223372036854775807 := by
  simp [Lit.wf] at h
  exact ⟨h.1, h.2⟩
theorem entry_any {P : Program} {w w' : World} {r b : Nat} {ob om : Obj} {v : Value} (h : w.heap[r]? = some ob) (hb : w.heap[b]? = some om) (h' : w'.heap[r]? = some ob) (hb' : w'.heap[b]? = some om)
    (hob : ∃ s se c, ob = .mapIter (some b) s se c) (hom : ∃ es c, om = .map es c) (hv : (Instr.entry (.pointer (some ⟨r, 0, none⟩))).run P w = .ok v w) : (Instr.entry (.pointer (some ⟨r, 0, none⟩))).run P w' = .ok v w' := by
  obtain ⟨s, se, c, rfl⟩ := hob
  obtain ⟨es, cl, rfl⟩ := hom
  simp only [Instr.entry, Sem.run_bind, run_objI h, run_objI h', Result.andThen_ok] at hv ⊢
  cases hse : se.back? with
  | none => rw [hse] at hv; simp at hv
  | some st =>
    rw [hse] at hv
    simp only [Sem.run_bind, run_objM hb, run_objM hb', Result.andThen_ok] at hv ⊢
    split at hv
    · simp at hv
    · rename_i hc
      rw [if_neg hc]
      cases hf : Array.find? (fun x => x.born == st) es with
      | none => rw [hf] at hv; simp at hv
      | some e => rw [hf] at hv; simp at hv ⊢; exact hv

/-- Whether a map has entries. -/
theorem MapOf.empty {kt : TypeId} {o : Obj} {n : Nat} {f : Int → Option Value} (h : MapOf kt o n f) (hk : Try.prog.underlying kt = some (.int .i64)) : ∃ es clock, o = .map es clock ∧ (es.size = 0 ↔ ∀ i, f i = none) := by
  obtain ⟨D, ⟨es, clock, rfl, F, _, hD⟩, hf⟩ := h
  refine ⟨es, clock, rfl, fun h0 i => ?_, fun hn => ?_⟩
  · obtain rfl : es = #[] := by simpa using h0
    have h1 := hf i
    rw [hD] at h1
    have h2 : (DataW.map ((([] : List MapEntry).map (Go.WideElems.rg Try.prog kt anyElem)).foldr DataW.insert []) : DataW Value).atKey (.int .i64 i) .nil = .nil := WideAt.atKey_none _ (by simp)
    cases e : f i with
    | none => rfl
    | some v => rw [e] at h1; rw [show (#[] : Array MapEntry).toList = [] from rfl, h2] at h1; cases h1
  · refine Classical.byContradiction fun h0 => ?_
    have K := int_keyed (P := Try.prog) hk
    obtain ⟨e0, hm⟩ : ∃ e0, e0 ∈ es.toList := ⟨es[0]'(by omega), by simp⟩
    obtain ⟨y0, hy0⟩ := F.reads e0 hm
    have hkey := Go.WideElems.rd_key hy0
    obtain ⟨z, hz, hyz⟩ := Go.WideElems.rd_val hy0
    have hat := (Go.WideShapes.atKey_sorted (es.toList.map (Go.WideElems.rg Try.prog kt anyElem)) (Maps.fit_rising K F) y0.1 (K.key hkey)).2 (Go.WideElems.rg Try.prog kt anyElem e0) (List.mem_map.2 ⟨e0, hm, rfl⟩) (by rw [Go.WideElems.rg_of hy0]) .nil
    rw [Go.WideElems.rg_of hy0, ← hD] at hat
    have hkk : ∃ a, y0.1 = .int .i64 a := by
      have h := hkey
      unfold keyOf at h
      cases hq : e0.key <;> rw [hq] at h <;> simp [hk, mapKey] at h
      rename_i kd a
      cases kd <;> simp at h
      exact ⟨a, h.2.symm⟩
    obtain ⟨a, ha⟩ := hkk
    rw [ha, hf a, hn a] at hat
    simp only [anyElem, Option.some.injEq] at hz
    rw [hyz, ← hz] at hat
    cases hat

section
variable {N : Nat} {w0 w w' : World} {H0 H H' : Hp} {S : St} {E : Env} {a : Act} {o : Oper} {K : St → Prop}

/-- len of a map. -/
theorem told_lenm (hS : Sim N w0 H0 S E a w H) (hd : ∀ t, o.dst = some t → t < N) {t kt e x kt' f} (ho : o.op = .call ⟨.builtin .len, #[x], #[t]⟩) (ht : Try.prog.underlying t = some (.map kt e)) (hkt : Try.prog.underlying kt = some (.int .i64)) (hx : S.opd x = some (.mp kt' f))
    (k0 : (∀ i, f i = none) → K (S.put? o.dst (.v (.int .i64 0)))) (k1 : ∀ n : Nat, 0 < n → (∃ i, f i ≠ none) → K (S.put? o.dst (.v (.int .i64 n)))) (hkk : Try.prog.underlying kt' = some (.int .i64)) : Told N w0 H0 o K a w := by
  have hX := hS.opds [x] x (by simp) _ hx
  generalize hq : a.eval x = q at hX
  cases hX with
  | mpn h0 =>
    exact told_value' (S' := S) (E' := E) (H' := H) (v := .int .i64 0) (w' := w) (s := .v (.int .i64 0)) (by simp [execOp, ho, resolve, hq, invoke, builtin, Maps.len_nil ht]) hd hS (.v rfl) (k0 h0)
  | @mp _ _ _ b om M F hb hm hN hi hr =>
    obtain ⟨es, clock, rfl, hes⟩ := hm.empty hkk
    have hw := hS.sub b _ hb
    have hrun : (Builtin.len_ #[t] o.type #[.map (some b)]).run Try.prog w = .ok (.int .i64 es.size) w := by
      simp [Builtin.len_, run_underlying ht, MapKept.run_getObj_map hw, goInt, Result.andThen]
    refine told_value' (S' := S) (E' := E) (H' := H) (v := .int .i64 es.size) (w' := w) (s := .v (.int .i64 es.size)) (by simp [execOp, ho, resolve, hq, invoke, builtin, hrun]) hd hS (.v rfl) ?_
    by_cases h0 : es.size = 0
    · rw [h0]; exact k0 fun i => (hi i).2 (hes.1 h0 i)
    · refine k1 _ (by omega) ?_
      refine Classical.byContradiction fun hn => h0 (hes.2 fun i => ?_)
      exact (hi i).1 (Classical.byContradiction fun hne => hn ⟨i, hne⟩)

theorem told_rng (hS : Sim N w0 H0 S E a w H) (hd : ∀ t, o.dst = some t → t < N) {t kt e x f} (ho : o.op = .range t x) (ht : Try.prog.underlying t = some (.map kt e)) (hkt : Try.prog.underlying kt = some (.int .i64)) (hx : S.opd x = some (.mp kt f))
    (hk : ∀ cnt, K ((S.newO (.iter f (fun i => (f i).isSome) cnt none)).put? o.dst (.own S.n))) : Told N w0 H0 o K a w := by
  have hX := hS.opds [x] x (by simp) _ hx
  generalize hq : a.eval x = q at hX
  cases hX with
  | mpn h0 =>
    have hrun := run_range_nilMap (P := Try.prog) w t kt e ht
    refine told_new hS hd (ob := .iter f (fun i => (f i).isSome) 0 none) (p := (.pointer (some ⟨w.heap.size, 0, none⟩), 0, some w.heap.size)) (row := none) (w' := w.alloc (.mapIter none 0 #[] 0)) (by simp [execOp, ho, hq, hrun]) ⟨rfl, rfl, rfl, by simp, fun k hk _ => Below.heap_alloc w _ k hk⟩ (fun b hb => by cases hb)
      ⟨w.heap.size, _, Env.set_self _ _ _, hS.grow.below.size, hS.sub.none (Nat.le_refl _), heap_alloc_new w _, .inl ⟨_, _, _, rfl, fun j => by simp [h0]⟩, fun j s e => by cases e⟩ rfl (fun b hb => by cases hb; exact .inl (Nat.le_refl _)) (hk 0)
  | @mp _ _ _ b om M F hb hm hN hi hr =>
    obtain ⟨D, hown, hdf⟩ := hm.df (hS.sub b om hb) hkt
    obtain ⟨w', hrun, hrg, hg, hsz⟩ := hown.range (int_keyed (P := Try.prog) hkt) ht
    obtain ⟨ob, hob⟩ := ranges_ob hrg
    have hbl : b < w.heap.size := hS.sub.lt hb
    have hb' : w'.heap[b]? = some om := (hg.block b hbl (by simp)).trans (hS.sub b om hb)
    refine told_new hS hd (ob := .iter f (fun i => (f i).isSome) (size D) none) (p := (.pointer (some ⟨w.heap.size, 0, none⟩), 0, some w.heap.size)) (row := none) (w' := w') (by simp [execOp, ho, hq, hrun]) hg (fun b hb => by cases hb)
      ⟨w.heap.size, ob, Env.set_self _ _ _, hS.grow.below.size, hS.sub.none (Nat.le_refl _), hob, .inr ⟨b, om, kt, M, D, _, F, hb, hkt, fun w2 q1 q2 => ranges_any hrg (q1.trans hb'.symm) (q2.trans hob.symm), hdf, hi, hr, fun j => ?_⟩, fun j s e => by cases e⟩ rfl (fun b hb => by cases hb; exact .inl (Nat.le_refl _)) (hk _)
    rw [hdf.has]
    have := hi j
    cases h1 : f j <;> cases h2 : F j <;> simp_all

theorem told_nxt (hS : Sim N w0 H0 S E a w H) (hd : ∀ t, o.dst = some t → t < N) {x ri f left cnt cur} (ho : o.op = .next x false) (hx : S.opd x = some (.own ri)) (hg : getA S.O ri = some (.iter f left cnt cur))
    (hk1 : (∀ j, left j = false) → K (S.put? o.dst (.tup [.v (.bool false)])))
    (hk2 : ∀ j s c', left j = true → f j = some s → -9223372036854775808 ≤ j → j ≤ 9223372036854775807 → c' < cnt → K ((S.setO ri (.iter f (fun z => left z && z != j) c' (some (j, s)))).put? o.dst (.tup [.v (.bool true), .v (.int .i64 j), s]))) : Told N w0 H0 o K a w := by
  have hX := hS.opds [x] x (by simp) _ hx
  obtain ⟨r, ob, e1, e2, e3, e4, e5, e6⟩ := hS.ob _ _ hg
  have hXu : a.eval x = .pointer (some ⟨r, 0, none⟩) := by
    generalize a.eval x = qx at hX
    cases hX with
    | own hE _ => rw [hE] at e1; cases e1; rfl
  rcases e5 with ⟨p1, p2, p3, rfl, h0⟩ | ⟨b, om, kt, M, D, lft, F, h1, hkt, hall, hdf, hi, hr, hl⟩
  · have hrun : (Instr.next (.pointer (some ⟨r, 0, none⟩)) false o.type).run Try.prog w = .ok (.tuple #[.bool false]) w := by
      simp [Instr.next, run_objI e4]
    exact told_value' (v := .tuple #[.bool false]) (w' := w) (by simp [execOp, ho, hXu, hrun]) hd hS (.tup (.cons (.v rfl) .nil)) (hk1 h0)
  · have hrg := hall w (hS.sub b om h1) e4
    rcases hrg.next (int_keyed (P := Try.prog) hkt) o.type with ⟨_, hl0, hrun⟩ | ⟨key, v, kl, y, w', cnt', q1, q2, q3, q4, hrun, hrg', q5, q6, q7, hent⟩
    · exact told_value' (v := .tuple #[.bool false]) (w' := w) (by simp [execOp, ho, hXu, hrun]) hd hS (.tup (.cons (.v rfl) .nil)) (hk1 fun j => (hl j).symm.trans (hl0 _))
    · obtain ⟨j, rfl, rfl, hwf⟩ := Maps.keyOf_int_inv hkt q1
      simp only [anyElem, Option.some.injEq] at q3
      subst q3
      have hF := hdf.get q4
      cases hfj : f j with
      | none => rw [(hi j).1 hfj] at hF; cases hF
      | some s =>
        have hrep := hr j s v hfj hF
        obtain ⟨ob', hob'⟩ := ranges_ob hrg'
        have hbr : b ≠ r := fun e => by subst e; rw [e3] at h1; cases h1
        have hbl : b < w.heap.size := hS.sub.lt h1
        have hb' : w'.heap[b]? = some om := (q6.block b hbl (by simpa using hbr)).trans (hS.sub b om h1)
        have hit : ∃ s se c, ob' = .mapIter (some b) s se c := by
          obtain ⟨es, clock, since, seen, c0, _, _, _, _, g5, _⟩ := hrg'
          rw [hob'] at g5; cases g5; exact ⟨_, _, _, rfl⟩
        have hom : ∃ es c, om = .map es c := by
          obtain ⟨es, clock, since, seen, c0, g1, _⟩ := hrg'
          rw [hb'] at g1; cases g1; exact ⟨_, _, rfl⟩
        have hU := hS.upd (o' := .iter f (fun z => left z && z != j) cnt' (some (j, s))) ⟨_, hg, rfl⟩ e1 (fun k hk hne => q6.block k hk (fun e => hne (Option.some.inj e))) q6.size q6.os q6.tape q6.output
          ⟨r, ob', e1, e2, e3, hob', .inr ⟨b, om, kt, M, D, _, F, h1, hkt, fun w2 g1 g2 => ranges_any hrg' (g1.trans hb'.symm) (g2.trans hob'.symm), hdf, hi, hr, fun z => ?_⟩, fun j' s' e => ?_⟩ rfl
        · exact told_value' (v := .tuple #[.bool true, .int .i64 j, v]) (by simp [execOp, ho, hXu, hrun]) hd hU (.tup (.cons (.v rfl) (.cons (.v rfl) (.cons (hrep.mono (fun _ _ h => h) (E0_le _)) .nil)))) (hk2 j s cnt' ((hl j).symm.trans q2) hfj (wf_i64 hwf).1 (wf_i64 hwf).2 q5)
        · show (lft (.int .i64 z) && !(Lit.int .i64 z).sameKey (.int .i64 j)) = (left z && z != j)
          rw [hl z]
          by_cases e : z = j <;> simp [Lit.sameKey, bne, e]
        · cases e
          exact ⟨v, fun w2 g1 g2 => entry_any hob' hb' g2 (g1 b om h1) hit hom hent, hrep⟩

theorem told_ent (hS : Sim N w0 H0 S E a w H) (hd : ∀ t, o.dst = some t → t < N) {x ri f left cnt j s} (ho : o.op = .entry x) (hx : S.opd x = some (.own ri)) (hg : getA S.O ri = some (.iter f left cnt (some (j, s))))
    (hk : K (S.put? o.dst (.tup [.v (.int .i64 j), s]))) : Told N w0 H0 o K a w := by
  have hX := hS.opds [x] x (by simp) _ hx
  obtain ⟨r, ob, e1, e2, e3, e4, e5, e6⟩ := hS.ob _ _ hg
  have hXu : a.eval x = .pointer (some ⟨r, 0, none⟩) := by
    generalize a.eval x = qx at hX
    cases hX with
    | own hE _ => rw [hE] at e1; cases e1; rfl
  obtain ⟨v, h1, h2⟩ := e6 j s rfl
  have hrun := h1 w hS.sub e4
  exact told_value' (v := .tuple #[.int .i64 j, v]) (w' := w) (by simp [execOp, ho, hXu, hrun]) hd hS (.tup (.cons (.v rfl) (.cons (h2.mono (fun _ _ h => h) (E0_le _)) .nil))) hk
theorem nilS_rep {H : Hp} {E : Env} {x : Sh} {u : Value} (h : nilS x = true) (hr : Rep H E x u) : ∃ a, u = .slice a 0 0 ∧ ∀ k, Rep H E0 (.sl k 0 []) u := by
  have hk : ∀ a k, Rep H E0 (.sl k 0 []) (.slice a 0 0) := fun a k => .sl .nil rfl (Nat.le_refl _) (Nat.zero_le _) ⟨fun _ => rfl, fun _ _ => rfl⟩ (fun _ => rfl) (fun j u hu => by simp at hu)
  unfold nilS at h
  split at h
  · cases hr; exact ⟨_, rfl, hk _⟩
  · cases hr with
    | sl h1 h2 h3 h4 h5 h6 h7 =>
      simp only [List.length_nil] at h2
      subst h2
      have := h5.2 rfl rfl
      subst this
      exact ⟨_, rfl, hk _⟩
  · cases h
theorem Sim.cast (h : Sim N w0 H0 S E a w H) (c : Cst) : ∃ E', Sim N w0 H0 (S.cast c) E' a w H := by
  have row : ∀ (e : TypeId) (k : Nat) (u : Value), 0 < k → (∃ a, u = .slice a 0 0) → ∃ E', ELe E E' ∧ E' S.n = some (u, k, none) ∧ Sim N w0 H0 (S.newO (.row e k [])) E' a w H := fun e k u hk hu =>
    ⟨E.set S.n (u, k, none), Env.set_le _ (h.fr _ (Nat.le_refl _)), Env.set_self _ _ _, h.new (p := (u, k, none)) ⟨u, none, [], Env.set_self _ _ _, hk, .nil, .inl ⟨rfl, rfl, hu⟩⟩ (fun b hb => by cases hb)⟩
  have putT : ∀ {S1 : St} {E1 : Env} {t : Nat} {x : Sh}, Sim N w0 H0 S1 E1 a w H → Rep H E1 x (a.eval (.tmp t)) → Sim N w0 H0 (S1.put t x) E1 a w H := fun {S1 E1 t x} h1 hx =>
    ⟨h1.grow, fun t' y hy => by
      simp only [St.put, getA_put] at hy
      split at hy
      · rename_i e; cases hy; subst e; exact hx
      · exact h1.tm t' y hy, h1.ob, h1.ap, h1.fr, h1.sz, h1.df⟩
  have setB : ∀ {S1 : St} {E1 : Env} {i c : Nat} {bt : TypeId} {cs : List Sh} {y : Sh}, Sim N w0 H0 S1 E1 a w H → getA S1.O i = some (.box bt cs) → y.one = true → (∀ vs b, E1 i = some (.pointer (some ⟨b, 0, none⟩), 0, some b) → w.heap[b]? = some (.cells vs.toArray bt (0, 0)) → RepL H E1 cs vs → RepL H E1 (cs.set c y) vs) → Sim N w0 H0 (S1.setO i (.box bt (cs.set c y))) E1 a w H := fun {S1 E1 i c bt cs y} h1 hg hy hr => by
    have hget : ∀ j o, getA (S1.setO i (.box bt (cs.set c y))).O j = some o → (j = i ∧ o = .box bt (cs.set c y)) ∨ (i ≠ j ∧ getA S1.O j = some o) := fun j o hj => by
      simp only [St.setO, getA_put] at hj
      split at hj
      · rename_i e; cases hj; exact .inl ⟨e.symm, rfl⟩
      · rename_i e; exact .inr ⟨e, hj⟩
    have hlv : ∀ j, lives (S1.setO i (.box bt (cs.set c y))) j → lives S1 j := by
      rintro j ⟨o, ho, hl⟩
      rcases hget j o ho with ⟨rfl, rfl⟩ | ⟨_, hj⟩
      · exact ⟨_, hg, rfl⟩
      · exact ⟨o, hj, hl⟩
    refine ⟨h1.grow, h1.tm, fun j o hj => ?_, fun i' j' hij hi hj => h1.ap i' j' hij (hlv _ hi) (hlv _ hj), h1.fr, h1.sz, h1.df⟩
    rcases hget j o hj with ⟨rfl, rfl⟩ | ⟨_, hj⟩
    · obtain ⟨b, vs, e1, e2, e3, e4, e5, e6⟩ := h1.ob _ _ hg
      refine ⟨b, vs, e1, e2, e3, e4, hr vs b e1 e4 e5, ?_⟩
      rw [List.all_eq_true] at e6 ⊢
      intro z hz
      rcases List.mem_or_eq_of_mem_set hz with hz | rfl
      · exact e6 z hz
      · exact hy
    · exact h1.ob j o hj
  have setL : ∀ {E1 : Env} {cs : List Sh} {vs : List Value} {c : Nat} {y : Sh}, RepL H E1 cs vs → (∀ u, vs[c]? = some u → Rep H E1 y u) → RepL H E1 (cs.set c y) vs := by
    intro E1 cs
    induction cs with
    | nil => intro vs c y h _; simpa using h
    | cons z cs ih =>
      intro vs c y h hy
      cases h with
      | cons h t =>
        cases c with
        | zero => exact .cons (hy _ rfl) t
        | succ c => exact .cons h (ih t (fun u hu => hy u (by simpa using hu)))
  cases c with
  | slot t e k =>
    simp only [St.cast]
    split
    · rename_i x hx
      split
      · rename_i hc
        simp only [Bool.and_eq_true, decide_eq_true_eq] at hc
        obtain ⟨a0, ha, hk⟩ := nilS_rep hc.1 (h.tm t x hx)
        cases e with
        | none => exact ⟨E, putT h ((hk k).mono (fun _ _ h => h) (E0_le E))⟩
        | some e =>
          obtain ⟨E', hle, hE, hS⟩ := row e k _ hc.2 ⟨a0, ha⟩
          exact ⟨E', putT hS (.own hE (by rw [ha]; rfl))⟩
      · exact ⟨E, h⟩
    · exact ⟨E, h⟩
  | cell i c e k =>
    simp only [St.cast]
    split
    · rename_i bt cs hg
      split
      · rename_i x hx
        split
        · rename_i hc
          simp only [Bool.and_eq_true, decide_eq_true_eq] at hc
          obtain ⟨b, vs, e1, e2, e3, e4, e5, e6⟩ := h.ob _ _ hg
          obtain ⟨u, hu, hru⟩ := e5.get hx
          obtain ⟨a0, ha, hk⟩ := nilS_rep hc.1 hru
          cases e with
          | none =>
            refine ⟨E, setB h hg rfl (fun vs' b' _ _ hv => setL hv fun u' hu' => ?_)⟩
            obtain ⟨u2, hu2, hr2⟩ := hv.get hx
            rw [hu'] at hu2; cases hu2
            obtain ⟨_, _, hk'⟩ := nilS_rep hc.1 hr2
            exact (hk' k).mono (fun _ _ h => h) (E0_le E)
          | some e =>
            obtain ⟨E', hle, hE, hS⟩ := row e k u hc.2 ⟨a0, ha⟩
            have hin : i ≠ S.n := fun e' => by rw [e', h.fr _ (Nat.le_refl _)] at e1; cases e1
            have hg' : getA (S.newO (.row e k [])).O i = some (.box bt cs) := by
              simp only [St.newO, getA]
              rw [if_neg (fun e' => hin e'.symm)]; exact hg
            refine ⟨E', setB hS hg' rfl (fun vs' b' f1 f2 hv => setL hv fun u' hu' => ?_)⟩
            have := hle _ _ e1
            rw [f1] at this
            simp only [Option.some.injEq, Prod.mk.injEq] at this
            obtain ⟨_, _, rfl⟩ := this
            rw [f2] at e4
            simp only [Option.some.injEq, Obj.cells.injEq] at e4
            have e7 : vs' = vs := by have := e4.1; simpa using congrArg Array.toList this
            subst e7
            rw [hu] at hu'; cases hu'
            exact .own hE (by rw [ha]; rfl)
        · exact ⟨E, h⟩
      · exact ⟨E, h⟩
    · exact ⟨E, h⟩
  | any t =>
    simp only [St.cast]
    split
    · rename_i x hx
      split
      · rename_i h1
        exact ⟨E, putT h (.any ((h.tm t x hx).oneCell h1))⟩
      · exact ⟨E, h⟩
    · exact ⟨E, h⟩
  | anyc t c =>
    simp only [St.cast]
    split
    · rename_i cs hx
      have hr := h.tm t _ hx
      generalize hq : a.eval (.tmp t) = q at hr
      cases hr with
      | agg hL h1 =>
        refine ⟨E, putT h (hq ▸ .agg (setL hL fun u hu => ?_) ?_)⟩
        · exact .any (hL.one h1 u (List.mem_of_getElem? hu))
        · rw [List.all_eq_true] at h1 ⊢
          intro z hz
          rcases List.mem_or_eq_of_mem_set hz with hz | rfl
          · exact h1 z hz
          · rfl
    · exact ⟨E, h⟩

theorem Sim.casts : ∀ (l : List Cst) {S : St} {E : Env}, Sim N w0 H0 S E a w H → ∃ E', Sim N w0 H0 (S.casts l) E' a w H
  | [], _, E, h => ⟨E, h⟩
  | c :: l, _, _, h => by
    obtain ⟨E1, h1⟩ := h.cast c
    exact Sim.casts l h1

end
end Go.Proofs.Ytfcjkchpldfamaa

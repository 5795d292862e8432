/-
  The shadow machine: going through a map that nobody writes any more.
-/
import Derived.Test.YtlbhfpcbbembgaaShC
namespace Go.Proofs.Ytlbhfpcbbembgaa
set_option linter.unusedSimpArgs false
set_option linter.unusedVariables false
open Go.RowKit Go.Maps

theorem ranges_any {Hd : Type} {P : Program} {k : TypeId} {R : Value → Option (DataW Hd × List MemPlace)} {w w' : World} {b r n : Nat} {D : DataW Hd} {left : Lit → Bool} {cnt : Nat} (h : w.ranges P k R b r n D left cnt)
    (hb : w'.heap[b]? = w.heap[b]?) (hr : w'.heap[r]? = w.heap[r]?) : w'.ranges P k R b r n D left cnt := by
  obtain ⟨es, clock, since, seen, c0, h1, h2, h3, h4, h5, h6⟩ := h
  exact ⟨es, clock, since, seen, c0, hb.trans h1, h2, h3, h4, hr.trans h5, h6⟩
theorem ranges_ob {Hd : Type} {P : Program} {k : TypeId} {R : Value → Option (DataW Hd × List MemPlace)} {w : World} {b r n : Nat} {D : DataW Hd} {left : Lit → Bool} {cnt : Nat} (h : w.ranges P k R b r n D left cnt) :
    ∃ ob, w.heap[r]? = some ob := by
  obtain ⟨es, clock, since, seen, c0, h1, h2, h3, h4, h5, h6⟩ := h
  exact ⟨_, h5⟩

theorem DF.get {D : DataW Value} {F : Int → Option Value} (hd : DF D F) {x : Int} {v : Value} (hat : ∀ zd, D.atKey (.int .i64 x) zd = .held v) : F x = some v := by
  obtain ⟨es, rfl, hris, hm⟩ := hd
  have hap := apart_of_rising hris
  have hh := Maps.has_true_of_atKey hat
  obtain ⟨p, hp, hsk⟩ := List.any_eq_true.1 (show es.any (fun p => p.1.sameKey (.int .i64 x)) = true from hh)
  have e1 : p.1 = .int .i64 x := WideAt.sameKey_eq hsk
  obtain ⟨k, u, rfl, hk⟩ := (hm p).1 hp
  cases e1
  have e2 := hat .nil
  rw [WideAt.atKey_mem (k := .int .i64 x) (d := .held u) .nil (by simp [WideAt.IsKeyLit]) hap hp] at e2
  simp only [DataW.held.injEq] at e2
  subst e2
  exact hk
theorem DF.has {D : DataW Value} {F : Int → Option Value} (hd : DF D F) (x : Int) : Maps.has D (.int .i64 x) = (F x).isSome := by
  obtain ⟨es, rfl, hris, hm⟩ := hd
  cases hF : F x with
  | some v =>
    have hp := (hm (.int .i64 x, .held v)).2 ⟨x, v, rfl, hF⟩
    show es.any (fun p => p.1.sameKey (.int .i64 x)) = true
    exact List.any_eq_true.2 ⟨_, hp, by simp [Lit.sameKey]⟩
  | none =>
    cases hh : Maps.has (.map es) (.int .i64 x) with
    | false => rfl
    | true =>
      obtain ⟨p, hp, hsk⟩ := List.any_eq_true.1 (show es.any (fun p => p.1.sameKey (.int .i64 x)) = true from hh)
      have e1 : p.1 = .int .i64 x := WideAt.sameKey_eq hsk
      obtain ⟨k, u, rfl, hk⟩ := (hm p).1 hp
      cases e1
      rw [hF] at hk; cases hk

theorem run_objI {P : Program} {w : World} {r : Nat} {x s c} {se : Array Nat} (h : w.heap[r]? = some (.mapIter x s se c)) : (getObj r).run P w = .ok (.mapIter x s se c) w := by
  simp [getObj, Sem.run, h]
theorem run_objM {P : Program} {w : World} {r : Nat} {es c} (h : w.heap[r]? = some (.map es c)) : (getObj r).run P w = .ok (.map es c) w := by
  simp [getObj, Sem.run, h]
theorem wf_i64 {j : Int} (h : (Lit.int .i64 j).wf = true) : -9223372036854775808 ≤ j ∧ j ≤ 9223372036854775807 := by
  simp [Lit.wf] at h
  exact ⟨h.1, h.2⟩
theorem entry_any {P : Program} {w w' : World} {r b : Nat} {ob om : Obj} {v : Value} (h : w.heap[r]? = some ob) (hb : w.heap[b]? = some om) (h' : w'.heap[r]? = some ob) (hb' : w'.heap[b]? = some om)
    (hob : ∃ s se c, ob = .mapIter (some b) s se c) (hom : ∃ es c, om = .map es c) (hv : (Instr.entry (.pointer (some ⟨r, 0, none⟩))).run P w = .ok v w) : (Instr.entry (.pointer (some ⟨r, 0, none⟩))).run P w' = .ok v w' := by
  obtain ⟨s, se, c, rfl⟩ := hob
  obtain ⟨es, cl, rfl⟩ := hom
  simp only [Instr.entry, Sem.run_bind, run_objI h, run_objI h', Result.andThen_ok] at hv ⊢
  cases hse : se.back? with
  | none => rw [hse] at hv; simp at hv
  | some st =>
    rw [hse] at hv
    simp only [Sem.run_bind, run_objM hb, run_objM hb', Result.andThen_ok] at hv ⊢
    split at hv
    · simp at hv
    · rename_i hc
      rw [if_neg hc]
      cases hf : Array.find? (fun x => x.born == st) es with
      | none => rw [hf] at hv; simp at hv
      | some e => rw [hf] at hv; simp at hv ⊢; exact hv

section
variable {N : Nat} {w0 w w' : World} {H0 H H' : Hp} {S : St} {E : Env} {a : Act} {o : Oper} {K : St → Prop}

theorem told_rng (hS : Sim N w0 H0 S E a w H) (hd : ∀ t, o.dst = some t → t < N) {t kt e x f} (ho : o.op = .range t x) (ht : Try.prog.underlying t = some (.map kt e)) (hkt : Try.prog.underlying kt = some (.int .i64)) (hx : S.opd x = some (.mp kt f))
    (hk : ∀ cnt, K ((S.newO (.iter f (fun i => (f i).isSome) cnt none)).put? o.dst (.own S.n))) : Told N w0 H0 o K a w := by
  have hX := hS.opds [x] x (by simp) _ hx
  generalize hq : a.eval x = q at hX
  cases hX with
  | mpn h0 =>
    have hrun := run_range_nilMap (P := Try.prog) w t kt e ht
    refine told_new hS hd (ob := .iter f (fun i => (f i).isSome) 0 none) (p := (.pointer (some ⟨w.heap.size, 0, none⟩), 0, some w.heap.size)) (row := none) (w' := w.alloc (.mapIter none 0 #[] 0)) (by simp [execOp, ho, hq, hrun]) ⟨rfl, rfl, rfl, by simp, fun k hk _ => Below.heap_alloc w _ k hk⟩ (fun b hb => by cases hb)
      ⟨w.heap.size, _, Env.set_self _ _ _, hS.grow.below.size, hS.sub.none (Nat.le_refl _), heap_alloc_new w _, .inl ⟨_, _, _, rfl, fun j => by simp [h0]⟩, fun j s e => by cases e⟩ rfl (fun b hb => by cases hb; exact .inl (Nat.le_refl _)) (hk 0)
  | @mp _ _ _ b om M F hb hm hN hi hr =>
    obtain ⟨D, hown, hdf⟩ := hm.df (hS.sub b om hb) hkt
    obtain ⟨w', hrun, hrg, hg, hsz⟩ := hown.range (int_keyed (P := Try.prog) hkt) ht
    obtain ⟨ob, hob⟩ := ranges_ob hrg
    have hbl : b < w.heap.size := hS.sub.lt hb
    have hb' : w'.heap[b]? = some om := (hg.block b hbl (by simp)).trans (hS.sub b om hb)
    refine told_new hS hd (ob := .iter f (fun i => (f i).isSome) (size D) none) (p := (.pointer (some ⟨w.heap.size, 0, none⟩), 0, some w.heap.size)) (row := none) (w' := w') (by simp [execOp, ho, hq, hrun]) hg (fun b hb => by cases hb)
      ⟨w.heap.size, ob, Env.set_self _ _ _, hS.grow.below.size, hS.sub.none (Nat.le_refl _), hob, .inr ⟨b, om, kt, M, D, _, F, hb, hkt, fun w2 q1 q2 => ranges_any hrg (q1.trans hb'.symm) (q2.trans hob.symm), hdf, hi, hr, fun j => ?_⟩, fun j s e => by cases e⟩ rfl (fun b hb => by cases hb; exact .inl (Nat.le_refl _)) (hk _)
    rw [hdf.has]
    have := hi j
    cases h1 : f j <;> cases h2 : F j <;> simp_all

theorem told_nxt (hS : Sim N w0 H0 S E a w H) (hd : ∀ t, o.dst = some t → t < N) {x ri f left cnt cur} (ho : o.op = .next x false) (hx : S.opd x = some (.own ri)) (hg : getA S.O ri = some (.iter f left cnt cur))
    (hk1 : (∀ j, left j = false) → K (S.put? o.dst (.tup [.v (.bool false)])))
    (hk2 : ∀ j s c', left j = true → f j = some s → -9223372036854775808 ≤ j → j ≤ 9223372036854775807 → c' < cnt → K ((S.setO ri (.iter f (fun z => left z && z != j) c' (some (j, s)))).put? o.dst (.tup [.v (.bool true), .v (.int .i64 j), s]))) : Told N w0 H0 o K a w := by
  have hX := hS.opds [x] x (by simp) _ hx
  obtain ⟨r, ob, e1, e2, e3, e4, e5, e6⟩ := hS.ob _ _ hg
  have hXu : a.eval x = .pointer (some ⟨r, 0, none⟩) := by
    generalize a.eval x = qx at hX
    cases hX with
    | own hE _ => rw [hE] at e1; cases e1; rfl
  rcases e5 with ⟨p1, p2, p3, rfl, h0⟩ | ⟨b, om, kt, M, D, lft, F, h1, hkt, hall, hdf, hi, hr, hl⟩
  · have hrun : (Instr.next (.pointer (some ⟨r, 0, none⟩)) false o.type).run Try.prog w = .ok (.tuple #[.bool false]) w := by
      simp [Instr.next, run_objI e4]
    exact told_value' (v := .tuple #[.bool false]) (w' := w) (by simp [execOp, ho, hXu, hrun]) hd hS (.tup (.cons (.v rfl) .nil)) (hk1 h0)
  · have hrg := hall w (hS.sub b om h1) e4
    rcases hrg.next (int_keyed (P := Try.prog) hkt) o.type with ⟨_, hl0, hrun⟩ | ⟨key, v, kl, y, w', cnt', q1, q2, q3, q4, hrun, hrg', q5, q6, q7, hent⟩
    · exact told_value' (v := .tuple #[.bool false]) (w' := w) (by simp [execOp, ho, hXu, hrun]) hd hS (.tup (.cons (.v rfl) .nil)) (hk1 fun j => (hl j).symm.trans (hl0 _))
    · obtain ⟨j, rfl, rfl, hwf⟩ := Maps.keyOf_int_inv hkt q1
      simp only [anyElem, Option.some.injEq] at q3
      subst q3
      have hF := hdf.get q4
      cases hfj : f j with
      | none => rw [(hi j).1 hfj] at hF; cases hF
      | some s =>
        have hrep := hr j s v hfj hF
        obtain ⟨ob', hob'⟩ := ranges_ob hrg'
        have hbr : b ≠ r := fun e => by subst e; rw [e3] at h1; cases h1
        have hbl : b < w.heap.size := hS.sub.lt h1
        have hb' : w'.heap[b]? = some om := (q6.block b hbl (by simpa using hbr)).trans (hS.sub b om h1)
        have hit : ∃ s se c, ob' = .mapIter (some b) s se c := by
          obtain ⟨es, clock, since, seen, c0, _, _, _, _, g5, _⟩ := hrg'
          rw [hob'] at g5; cases g5; exact ⟨_, _, _, rfl⟩
        have hom : ∃ es c, om = .map es c := by
          obtain ⟨es, clock, since, seen, c0, g1, _⟩ := hrg'
          rw [hb'] at g1; cases g1; exact ⟨_, _, rfl⟩
        have hU := hS.upd (o' := .iter f (fun z => left z && z != j) cnt' (some (j, s))) ⟨_, hg, rfl⟩ e1 (fun k hk hne => q6.block k hk (fun e => hne (Option.some.inj e))) q6.size q6.os q6.tape q6.output
          ⟨r, ob', e1, e2, e3, hob', .inr ⟨b, om, kt, M, D, _, F, h1, hkt, fun w2 g1 g2 => ranges_any hrg' (g1.trans hb'.symm) (g2.trans hob'.symm), hdf, hi, hr, fun z => ?_⟩, fun j' s' e => ?_⟩ rfl
        · exact told_value' (v := .tuple #[.bool true, .int .i64 j, v]) (by simp [execOp, ho, hXu, hrun]) hd hU (.tup (.cons (.v rfl) (.cons (.v rfl) (.cons (hrep.mono (fun _ _ h => h) (E0_le _)) .nil)))) (hk2 j s cnt' ((hl j).symm.trans q2) hfj (wf_i64 hwf).1 (wf_i64 hwf).2 q5)
        · show (lft (.int .i64 z) && !(Lit.int .i64 z).sameKey (.int .i64 j)) = (left z && z != j)
          rw [hl z]
          by_cases e : z = j <;> simp [Lit.sameKey, bne, e]
        · cases e
          exact ⟨v, fun w2 g1 g2 => entry_any hob' hb' g2 (g1 b om h1) hit hom hent, hrep⟩

theorem told_ent (hS : Sim N w0 H0 S E a w H) (hd : ∀ t, o.dst = some t → t < N) {x ri f left cnt j s} (ho : o.op = .entry x) (hx : S.opd x = some (.own ri)) (hg : getA S.O ri = some (.iter f left cnt (some (j, s))))
    (hk : K (S.put? o.dst (.tup [.v (.int .i64 j), s]))) : Told N w0 H0 o K a w := by
  have hX := hS.opds [x] x (by simp) _ hx
  obtain ⟨r, ob, e1, e2, e3, e4, e5, e6⟩ := hS.ob _ _ hg
  have hXu : a.eval x = .pointer (some ⟨r, 0, none⟩) := by
    generalize a.eval x = qx at hX
    cases hX with
    | own hE _ => rw [hE] at e1; cases e1; rfl
  obtain ⟨v, h1, h2⟩ := e6 j s rfl
  have hrun := h1 w hS.sub e4
  exact told_value' (v := .tuple #[.int .i64 j, v]) (w' := w) (by simp [execOp, ho, hXu, hrun]) hd hS (.tup (.cons (.v rfl) (.cons (h2.mono (fun _ _ h => h) (E0_le _)) .nil))) hk
end
end Go.Proofs.Ytlbhfpcbbembgaa

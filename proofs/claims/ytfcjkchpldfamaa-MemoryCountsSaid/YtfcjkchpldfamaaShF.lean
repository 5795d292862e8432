/-
  The shadow machine: the front of a region that draws its order.
-/
import Derived.Test.YtfcjkchpldfamaaShE
namespace Go.Proofs.Ytfcjkchpldfamaa
set_option linter.unusedSimpArgs false
set_option linter.unusedVariables false
open Go.RowKit Go.Maps

section
variable {N : Nat} {w0 w w' : World} {H0 H H' : Hp} {S : St} {E : Env} {a : Act} {o : Oper} {K : St → Prop} {ops : Array Oper} {Q : Exit → Act → World → Prop}
variable {n : Nat} {fl : List Nat} {a0 : Act} {W0 : World} {HF : Hp} {Γ : List Rel} {S0 F : St} {ts : List TypeId}

/-- A float comes to its value in whatever world. -/
theorem float_val {op : Op} {so : SOp} {k : Sh → Prop} (ho : o.op = op) (hm : OpM op so) (hfl : so.flo = true) (h : evA so S k) :
    ∃ s, k s ∧ ∀ (a : Act) (H : Hp), OpdOk S E H a so.opds → ∃ v, (∀ w', (execOp a.eval o).run Try.prog w' = .ok (.value v) w') ∧ Rep H E s v := by
  cases hm with
  | mv => obtain ⟨s, hs, hk⟩ := oB_elim h; exact ⟨s, hk, fun a H h3 => ⟨a.eval _, fun w' => by simp [execOp, ho], h3.get (by simp [SOp.opds]) hs⟩⟩
  | asg => obtain ⟨s, hs, hk⟩ := oB_elim h; exact ⟨s, hk, fun a H h3 => ⟨a.eval _, fun w' => by simp [execOp, ho], h3.get (by simp [SOp.opds]) hs⟩⟩
  | @ext x i =>
    obtain ⟨s, hs, h⟩ := oB_elim h
    cases s with
    | tup cs =>
      obtain ⟨r, hr, h⟩ := oB_elim h
      refine ⟨r, h, fun a H h3 => ?_⟩
      have hR := h3.get (by simp [SOp.opds]) hs
      generalize hq : a.eval x = q at hR
      cases hR with
      | tup hL =>
        obtain ⟨u, hu, hr⟩ := hL.get hr
        exact ⟨u, fun w' => by simp [execOp, ho, hq, Instr.extract, hu], hr⟩
    | _ => exact h.elim
  | @nck x =>
    obtain ⟨s, hs, h⟩ := oB_elim h
    have run : ((∃ i idx o, s = .ptr i idx o) ∨ (∃ e o, s = .fp e o) ∨ (∃ f a b, s = .fn (.func f) a b)) → ∀ (a : Act) (H : Hp), OpdOk S E H a (SOp.nck x).opds → ∃ v, (∀ w', (execOp a.eval o).run Try.prog w' = .ok (.value v) w') ∧ Rep H E s v := fun hc a H h3 => by
      have hR := h3.get (by simp [SOp.opds]) hs
      refine ⟨a.eval x, fun w' => ?_, hR⟩
      generalize hq : a.eval x = q at hR
      rcases hc with ⟨i, idx, o', rfl⟩ | ⟨e, o', rfl⟩ | ⟨f, b, c, rfl⟩ <;> cases hR <;> simp [execOp, ho, hq]
    cases s with
    | ptr i idx o' => exact ⟨_, h, run (.inl ⟨_, _, _, rfl⟩)⟩
    | fp e o' => exact ⟨_, h, run (.inr (.inl ⟨_, _, rfl⟩))⟩
    | fn f a b => cases f with
      | func f => exact ⟨_, h, run (.inr (.inr ⟨_, _, _, rfl⟩))⟩
      | _ => exact h.elim
    | _ => exact h.elim
  | _ => cases hfl

def FinI (N : Nat) (w0 : World) (H0 : Hp) (ops : Array Oper) (Q : Exit → Act → World → Prop) (n : Nat) (a0 : Act) (W0 : World) (HF : Hp) (E : Env) (Γ : List Rel) (F : St) : Prop :=
  ∀ W H, Grow W0 HF W H → ∀ os2 Rs2, (∀ a' E', ELe E E' → Sim N w0 H0 F E' a' W H → FinL Try.prog ops Q n W H os2 Rs2 a') → FinL Try.prog ops Q n W H (ops.toList.take Γ.length ++ os2) (Γ ++ Rs2) a0
def NewTys (S0 F : St) (ts : List TypeId) : Prop := ∀ i o, getA F.O i = some o → getA S0.O i = some o ∨ ∃ t, t ∈ ts ∧ ((∃ cs, o = .box t cs) ∨ ∃ k es, o = .row t k es)

theorem fin_step (h : FinI N w0 H0 ops Q n a0 W0 HF E Γ F) (ho : ops[Γ.length]? = some o) {R : Rel} {F' : St}
    (hstep : ∀ W H a' E' v, Grow W0 HF W H → ELe E E' → Sim N w0 H0 F E' a' W H → R v W H → ∃ E'', ELe E E'' ∧ Sim N w0 H0 F' E'' (a'.put o.dst v) W H) : FinI N w0 H0 ops Q n a0 W0 HF E (Γ ++ [R]) F' := by
  intro W H hg os2 Rs2 hk
  have e : ops.toList.take (Γ ++ [R]).length = ops.toList.take Γ.length ++ [o] := by
    rw [List.length_append, List.length_singleton, List.take_add_one]
    simp [ho]
  rw [e, List.append_assoc, List.append_assoc]
  refine h W H hg _ _ (fun a' E' hE hS => ?_)
  intro v hv
  obtain ⟨E'', hE'', hS''⟩ := hstep W H a' E' v hg hE hS hv
  exact hk _ _ hE'' hS''

theorem slots_put (hsl : Slots ops n Γ S0 S E) (ho : ops[Γ.length]? = some o) (s : Sh) : Slots ops n (Γ ++ [shRel E s]) S0 (S.put? o.dst s) E := by
  refine ⟨by cases o.dst <;> exact hsl.1, fun t x hx => ?_⟩
  have hlen : (Γ ++ [shRel E s]).length = Γ.length + 1 := by simp
  have old : getA S.T t = some x → o.dst ≠ some t → SlotAt ops n (Γ ++ [shRel E s]) S0 E t x := fun hx hne => by
    rcases hsl.2 t x hx with h | ⟨i, oi, h1, h2, h3, h4⟩ | ⟨i, oi, h1, h2, h3, h4⟩
    · exact Or.inl h
    · exact Or.inr (.inl ⟨i, oi, by omega, h2, h3, by rw [List.getElem?_append_left h1]; exact h4⟩)
    · refine Or.inr (.inr ⟨i, oi, ?_, h2, h3, h4⟩)
      rw [hlen]
      rcases Nat.lt_or_ge Γ.length i with h | h
      · omega
      · obtain rfl : i = Γ.length := by omega
        rw [ho] at h3; cases h3
        exact absurd h4 hne
  cases hd : o.dst with
  | none => rw [hd] at hx old; exact old hx (by simp)
  | some d =>
    rw [hd] at hx old
    simp only [St.put?, St.put, getA_put] at hx
    split at hx
    · rename_i e; cases hx; subst e
      exact .inr (.inl ⟨Γ.length, o, by omega, ho, hd, by simp⟩)
    · rename_i e; exact old hx (fun h => e (Option.some.inj h))
theorem slots_del (hsl : Slots ops n Γ S0 S E) (ho : ops[Γ.length]? = some o) (R : Rel) : Slots ops n (Γ ++ [R]) S0 (S.del? o.dst) E := by
  refine ⟨by cases o.dst <;> exact hsl.1, fun t x hx => ?_⟩
  have hlen : (Γ ++ [R]).length = Γ.length + 1 := by simp
  have old : getA S.T t = some x → o.dst ≠ some t → SlotAt ops n (Γ ++ [R]) S0 E t x := fun hx hne => by
    rcases hsl.2 t x hx with h | ⟨i, oi, h1, h2, h3, h4⟩ | ⟨i, oi, h1, h2, h3, h4⟩
    · exact Or.inl h
    · exact Or.inr (.inl ⟨i, oi, by omega, h2, h3, by rw [List.getElem?_append_left h1]; exact h4⟩)
    · refine Or.inr (.inr ⟨i, oi, ?_, h2, h3, h4⟩)
      rw [hlen]
      rcases Nat.lt_or_ge Γ.length i with h | h
      · omega
      · obtain rfl : i = Γ.length := by omega
        rw [ho] at h3; cases h3
        exact absurd h4 hne
  cases hd : o.dst with
  | none => rw [hd] at hx old; exact old hx (by simp)
  | some d =>
    rw [hd] at hx old
    obtain ⟨hx, hne⟩ := getA_del hx
    exact old hx (fun h => hne (Option.some.inj h))

/-- A new block of a type that no other new block has lies apart from all that is live. -/
theorem new_apart (hS : Sim N w0 H0 S0 E a0 W0 HF) (hN : NewTys S0 F ts) {t : TypeId} (hts : ts.contains t = false) {W : World} {a' : Act} {E' : Env} {b : Nat} {cs : Array Value} {i : Nat} {o : Ob} {u : Value} {k : Nat} (hE : ELe E E')
    (hF : Sim N w0 H0 F E' a' W H) (ho : getA F.O i = some o) (hl : o.live = true) (he : E' i = some (u, k, some b)) (h2 : W0.heap.size ≤ b) (h4 : W.heap[b]? = some (.cells cs t (0, 0))) : False := by
  have ht : ∀ t', t' ∈ ts → t ≠ t' := fun t' ht' e => by
    subst e
    have : ts.contains t = true := by simpa using ht'
    rw [hts] at this; cases this
  rcases hN i o ho with hi | ⟨t', ht', ⟨cs', rfl⟩ | ⟨k', es', rfl⟩⟩
  · -- a part that was there before the region
    have hob := hS.ob i o hi
    have hEi : ∃ q, E i = some q := by
      cases o with
      | box t cs => obtain ⟨b, vs, h1, _⟩ := hob; exact ⟨_, h1⟩
      | row e k es => obtain ⟨u, ob, xs, h1, _⟩ := hob; exact ⟨_, h1⟩
      | map kt N f => obtain ⟨b, o, F, h1, _⟩ := hob; exact ⟨_, h1⟩
      | iter f left cnt cur => obtain ⟨r, ob, h1, _⟩ := hob; exact ⟨_, h1⟩
      | frz x => obtain ⟨u, k, b, h1, _⟩ := hob; exact ⟨_, h1⟩
    obtain ⟨q, hq⟩ := hEi
    have := hE i q hq
    rw [he] at this; cases this
    have := (hS.live_lt ⟨o, hi, hl⟩ hq).2.2
    omega
  · obtain ⟨b2, vs2, e1, _, _, e4, _⟩ := hF.ob i _ ho
    rw [he] at e1; cases e1
    rw [h4] at e4
    simp only [Option.some.injEq, Obj.cells.injEq] at e4
    exact ht t' ht' e4.2.1
  · obtain ⟨u2, ob2, xs2, e1, _, _, e3⟩ := hF.ob i _ ho
    rw [he] at e1; cases e1
    rcases e3 with ⟨_, e, _⟩ | ⟨g, cap, cur, e, _, _, _, e4, _⟩
    · cases e
    · cases e
      rw [h4] at e4
      simp only [Option.some.injEq, Obj.cells.injEq] at e4
      exact ht t' ht' e4.2.1
theorem fin_row (hS : Sim N w0 H0 S0 E a0 W0 HF) (hN : NewTys S0 F ts) {e : TypeId} {k : Nat} {es : List (List Sh)} (hts : ts.contains e = false) {d : Option Nat} (hd : ∀ t, d = some t → t < N) {W : World} {a' : Act} {E' : Env} {v : Value} (hE : ELe E E')
    (hF : Sim N w0 H0 F E' a' W H) (hv : rowRel E W0.heap.size e k es v W H) : ∃ E'', ELe E E'' ∧ Sim N w0 H0 ((F.newO (.row e k es)).put? d (.own F.n)) E'' (a'.put d v) W H := by
  obtain ⟨ob, xs, hk, h2, h3⟩ := hv
  have hn := hF.fr F.n (Nat.le_refl _)
  let p : Value × Nat × Option Nat := (v, k, ob)
  have hle := Env.set_le p hn
  have hv1 : v.oneCell' = true := by rcases h3 with ⟨_, _, a, rfl⟩ | ⟨g, cap, cur, _, rfl, _⟩ <;> rfl
  have hR := hF.new (o := .row e k es) (p := p) ⟨v, ob, xs, Env.set_self _ _ _, hk, h2, h3.imp id (by rintro ⟨g, cap, cur, a1, a2, a3, a4⟩; exact ⟨g, cap, cur, a1, a2, Nat.le_trans hS.grow.below.size a3, a4⟩)⟩ (by
    rintro b' hb' i ⟨o, ho, hl⟩ u k' he
    rcases h3 with ⟨_, e0, _⟩ | ⟨g, cap, cur, a1, _, a3, _, a5, _⟩
    · have hb2 : ob = some b' := hb'
      rw [e0] at hb2; cases hb2
    · have hb2 : ob = some b' := hb'
      rw [a1] at hb2; cases hb2
      exact new_apart hS hN hts hE hF ho hl he a3 a5)
  refine ⟨E'.set F.n p, fun i q hq => hle i q (hE i q hq), hR.put ?_ hd⟩
  exact .own (Env.set_self E' F.n p) hv1

theorem fin_box (hS : Sim N w0 H0 S0 E a0 W0 HF) (hN : NewTys S0 F ts) {t : TypeId} {cs : List Sh} (hts : ts.contains t = false) (h1 : cs.all Sh.one = true) {d : Option Nat} (hd : ∀ t, d = some t → t < N) {W : World} {a' : Act} {E' : Env} {v : Value} (hE : ELe E E')
    (hF : Sim N w0 H0 F E' a' W H) (hv : boxRel E W0.heap.size t cs v W H) : ∃ E'', ELe E E'' ∧ Sim N w0 H0 ((F.newO (.box t cs)).put? d (.ptr F.n 0 0)) E'' (a'.put d v) W H := by
  obtain ⟨b, vs, rfl, h2, h3, h4, h5⟩ := hv
  have hn := hF.fr F.n (Nat.le_refl _)
  let p : Value × Nat × Option Nat := (.pointer (some ⟨b, 0, none⟩), 0, some b)
  have hle := Env.set_le p hn
  have hR := hF.new (o := .box t cs) (p := p) ⟨b, vs, Env.set_self _ _ _, Nat.le_trans hS.grow.below.size h2, h3, h4, h5.mono (fun _ _ h => h) (fun i q hq => hle i q (hE i q hq)), h1⟩ (by
    rintro b' hb' i ⟨o, ho, hl⟩ u k he
    cases hb'
    refine new_apart hS hN hts hE hF ho hl he h2 h4
)
  refine ⟨E'.set F.n p, fun i q hq => hle i q (hE i q hq), hR.put ?_ hd⟩
  have := Rep.ptr (H := H) (E := E'.set F.n p) (i := F.n) (idx := 0) (off := 0) (Env.set_self E' F.n p)
  simpa using this

theorem newTys_box (hN : NewTys S0 F ts) {t : TypeId} {cs : List Sh} {d : Option Nat} {x : Sh} : NewTys S0 ((F.newO (.box t cs)).put? d x) (t :: ts) := by
  intro i o ho
  have ho' : getA (F.newO (.box t cs)).O i = some o := by cases d <;> exact ho
  simp only [St.newO, getA] at ho'
  split at ho'
  · cases ho'; exact .inr ⟨t, by simp, .inl ⟨cs, rfl⟩⟩
  · rcases hN i o ho' with h | ⟨t', h1, h2⟩
    · exact .inl h
    · exact .inr ⟨t', by simp [h1], h2⟩
theorem newTys_row (hN : NewTys S0 F ts) {e : TypeId} {k : Nat} {es : List (List Sh)} {d : Option Nat} {x : Sh} : NewTys S0 ((F.newO (.row e k es)).put? d x) (e :: ts) := by
  intro i o ho
  have ho' : getA (F.newO (.row e k es)).O i = some o := by cases d <;> exact ho
  simp only [St.newO, getA] at ho'
  split at ho'
  · cases ho'; exact .inr ⟨e, by simp, .inr ⟨k, es, rfl⟩⟩
  · rcases hN i o ho' with h | ⟨t', h1, h2⟩
    · exact .inl h
    · exact .inr ⟨t', by simp [h1], h2⟩
theorem newTys_put (hN : NewTys S0 F ts) {d : Option Nat} {x : Sh} : NewTys S0 (F.put? d x) ts := fun i o ho => hN i o (by cases d <;> exact ho)
theorem newTys_del (hN : NewTys S0 F ts) {d : Option Nat} : NewTys S0 (F.del? d) ts := fun i o ho => hN i o (by cases d <;> exact ho)

theorem front_app {t e : TypeId} {i : TypeInfo} {z : Value} {x y : Operand} {ys : List (List Sh)} {k2 f2 : Nat} {a : Act} (ho : o.op = .call ⟨.builtin .append, #[x, y], #[t, t]⟩) (ht : Try.prog.underlying t = some (.slice e)) (hi : Try.prog.info? e = some i) (hz : i.zero = some z) (hzs : z.cells.size = i.size) (hpos : 0 < i.size)
    (hs : Sub H w) (hX : Rep H E (.sl i.size 0 []) (a.eval x)) (hY : Rep H E (.sl k2 f2 ys) (a.eval y)) (hk2 : k2 = i.size) (b1 : ys.length ≤ 1000000) (b2 : ys.length * i.bytes ≤ 140737488355328) :
    ∃ v w', (execOp a.eval o).run Try.prog w = .ok (.value v) w' ∧ Grow w H w' H ∧ ∀ E' B, B ≤ w.heap.size → rowRel E' B e i.size ys v w' H := by
  subst hk2
  generalize hqx : a.eval x = qx at hX
  generalize hqy : a.eval y = qy at hY
  obtain ⟨a1, n, c, rfl⟩ : ∃ a n c, qx = .slice a n c := by cases hX; exact ⟨_, _, _, rfl⟩
  obtain ⟨a2, m, c2, rfl⟩ : ∃ a n c, qy = .slice a n c := by cases hY; exact ⟨_, _, _, rfl⟩
  obtain ⟨us, p1, p2, p3, _, p4, p5, p6⟩ := sl_cells hs hX
  obtain ⟨vs, q1, q2, q3, _, q4, q5, q6⟩ := sl_cells hs hY
  subst p2; subst q2
  by_cases h0 : 0 < ys.length
  · cases a2 with
    | none => have := q5 rfl; omega
    | some ad =>
      have hml : ([] : List (List Sh)).length + ys.length ≤ maxLen := by unfold maxLen; simp; omega
      obtain ⟨v', w', hrun, r1, r2⟩ := run_append_sh (P := Try.prog) (w := w) (k := i.size) t o.type e i z ht hi hz hzs hpos (c2 := c2) p1.length p1.one (p4.full (.inr ⟨rfl, rfl⟩)) p5 p6 q1.length q1.one (q6 ad rfl) h0 hml (by simpa using b2)
      cases p1
      simp only [List.length_nil] at hrun hqx
      obtain ⟨g, cap, cur, rfl, s2, s3, s4, s5, s6, s7⟩ := ownsRow_rep (n := ys.length) (es := ys) (by simpa using r1) q1 rfl h0
      exact ⟨_, w', by simp [execOp, ho, resolve, hqx, hqy, invoke, builtin, hrun], (Grow.refl hs).grown r2 (fun k e => by cases e), fun E' B hB => ⟨some g, vs, hpos, q1, .inr ⟨g, cap, cur, rfl, rfl, Nat.le_trans hB s2, hs.none s2, s3, s4, s5, fun e => absurd e (fun e => by simp [e] at h0), s6, s7⟩⟩⟩
  · have hy0 : ys = [] := List.eq_nil_of_length_eq_zero (by omega)
    subst hy0
    have hc := p4.full (.inr ⟨rfl, rfl⟩)
    simp only [List.length_nil] at hc hqx hqy
    subst hc
    have hrun : (Builtin.append_ #[t, t] o.type #[.slice a1 0 0, .slice a2 0 c2]).run Try.prog w = .ok (.slice a1 0 0) w := by
      have hl : ∀ (x : Addr), (loadCells x 0).run Try.prog w = .ok #[] w := fun x => by simpa using run_loadCells_list (P := Try.prog) w x [] (by simp)
      cases a1 <;> cases a2 <;> simp [Builtin.append_, run_underlying ht, run_sizeOf hi, Builtin.lenOf, Builtin.firstCells, hl, storeCells]
    exact ⟨.slice a1 0 0, w, by simp [execOp, ho, resolve, hqx, hqy, invoke, builtin, hrun], Grow.refl hs, fun E' B hB => ⟨none, [], hpos, .nil, .inl ⟨rfl, rfl, a1, rfl⟩⟩⟩

theorem evF_sound {glA : List GOp} (hf : AgFacts ops n fl) (hS : Sim N w0 H0 S0 E a0 W0 HF) (hfront : frontB ops n glA = true) (hfloat : floatB fl glA = true) :
    ∀ (l : List Oper) (gl : List GOp) (Γ : List Rel) (S F : St) (ts : List TypeId), GMs N ops l gl → Γ.length + l.length = n → (∀ j, j < l.length → l[j]? = ops[Γ.length + j]?) → (∀ j, j < l.length → gl[j]? = glA[Γ.length + j]?) →
      Slots ops n Γ S0 S E → FinI N w0 H0 ops Q n a0 W0 HF E Γ F → NewTys S0 F ts → evF gl S F ts K → (∀ W H a, Grow W0 HF W H → End N w0 H0 K a W → wpList Try.prog ops Q (ops.toList.drop n) a W) → AGL Try.prog ops Q n fl a0 W0 HF Γ l
  | [], _, Γ, S, F, ts, .nil, hn, _, _, _, hfin, _, h, hk => by
    simp only [List.length_nil, Nat.add_zero] at hn
    refine agl_nil fun W H hg => ?_
    have := hfin W H hg [] [] (fun a' E' hE hF => by
      show wpList Try.prog ops Q (ops.toList.drop n) a' W
      exact hk W H a' hg ⟨F, E', H, h, hF⟩)
    rw [hn] at this
    simpa using this
  | o :: l, g :: gl, Γ, S, F, ts, .cons hg ht, hn, hl, hgl, hsl, hfin, hN, h, hk => by
    simp only [List.length_cons] at hn
    have hoi : ops[Γ.length]? = some o := by have := hl 0 (by simp); simpa using this.symm
    have hgi : glA[Γ.length]? = some g := by have := hgl 0 (by simp); simpa using this.symm
    have hlt : Γ.length < n := by omega
    have recur : ∀ (R : Rel) (S' F' : St) (ts' : List TypeId), Slots ops n (Γ ++ [R]) S0 S' E → FinI N w0 H0 ops Q n a0 W0 HF E (Γ ++ [R]) F' → NewTys S0 F' ts' → evF gl S' F' ts' K → AGL Try.prog ops Q n fl a0 W0 HF (Γ ++ [R]) l := fun R S' F' ts' h1 h2 h3 h4 =>
      evF_sound hf hS hfront hfloat l gl (Γ ++ [R]) S' F' ts' ht (by simp; omega) (fun j hj => by have := hl (j + 1) (by simp; omega); rw [List.length_append, List.length_singleton, Nat.add_assoc, Nat.add_comm 1 j]; simpa using this)
        (fun j hj => by have := hgl (j + 1) (by simp; omega); rw [List.length_append, List.length_singleton, Nat.add_assoc, Nat.add_comm 1 j]; simpa using this) h1 h2 h3 h4 hk
    have hfr := hfront
    unfold frontB at hfr
    rw [List.all_eq_true] at hfr
    have hfr1 := hfr Γ.length (by simpa using hlt)
    rw [hoi, hgi] at hfr1
    simp only [Bool.and_eq_true, List.all_eq_true] at hfr1
    obtain ⟨hsrc, hgsrc⟩ := hfr1
    have hops : ∀ {a w H}, Grow W0 HF w H → Preds ops Γ o a w H → OutSame ops n a0 a → OpdOk S E H a g.op.opds := fun hw hp ho' x hx y hy =>
      slots_opd hf hS hsl hlt hoi hw hp ho' (hsrc x hx) y hy
    have hobj : ∀ {w H}, Grow W0 HF w H → Objs w0.heap.size S E w H := fun hw i o' hi => by rw [hsl.1] at hi; exact (hS.ob i o' hi).grow hw hS.sub
    have hgd := hg.gd
    have hflt : fl.contains Γ.length = true → g.op.flo = true := fun hc => by
      unfold floatB at hfloat
      rw [List.all_eq_true] at hfloat
      have := hfloat Γ.length (by simpa using hc)
      rw [hgi] at this
      exact this
    -- a value
    have val : evA g.op S (fun s => evF gl (S.put? g.d s) (F.put? g.d s) ts K) → (∀ a w H, Grow W0 HF w H → Preds ops Γ o a w H → OutSame ops n a0 a → Region.wanted o (yielded ops a.tmps) = true) → AGL Try.prog ops Q n fl a0 W0 HF Γ (o :: l) := fun hA hwant => by
      rw [hg.d] at hA
      have fin : ∀ s, FinI N w0 H0 ops Q n a0 W0 HF E (Γ ++ [shRel E s]) (F.put? o.dst s) := fun s => fin_step hfin hoi fun W H a' E' v _ hE hF hv => ⟨E', hE, hF.put (hv.mono (fun _ _ h => h) hE) hg.lt⟩
      by_cases hc : fl.contains Γ.length = true
      · obtain ⟨s, hk', hv⟩ := float_val (E := E) rfl hg.op (hflt hc) hA
        refine ⟨shRel E s, keeps_sh E s, ?_, recur _ _ _ _ (slots_put hsl hoi s) (fin s) (newTys_put hN) hk'⟩
        rw [if_pos hc]
        intro a w H hw hp ho'
        obtain ⟨v, hv1, hv2⟩ := hv a H (hops hw hp ho')
        exact ⟨v, .inl ⟨hwant a w H hw hp ho', hv1⟩, hv2⟩
      · obtain ⟨s, hk', hv⟩ := evA_sound (E := E) rfl hg.op hA
        refine ⟨shRel E s, keeps_sh E s, ?_, recur _ _ _ _ (slots_put hsl hoi s) (fin s) (newTys_put hN) hk'⟩
        rw [if_neg hc]
        intro a w H hw hp ho'
        rw [if_pos (hwant a w H hw hp ho')]
        exact hv w0.heap.size a w H hw.sub (hobj hw) (hops hw hp ho')
    -- an operation that is passed by
    have skip : evF gl (S.del? g.d) (F.del? g.d) ts K → (∀ a w H, Grow W0 HF w H → Preds ops Γ o a w H → OutSame ops n a0 a → Region.wanted o (yielded ops a.tmps) = false) → AGL Try.prog ops Q n fl a0 W0 HF Γ (o :: l) := fun hA hwant => by
      rw [hg.d] at hA
      refine ⟨fun v _ _ => v = undef, keeps_eq undef, ?_, recur _ _ _ _ (slots_del hsl hoi _) (fin_step hfin hoi fun W H a' E' v _ hE hF hv => ⟨E', hE, by have hv' : v = undef := hv; rw [hv']; exact hF.del?⟩) (newTys_del hN) hA⟩
      split
      · intro a w H hw hp ho'
        exact ⟨undef, .inr ⟨hwant a w H hw hp ho', rfl⟩, rfl⟩
      · intro a w H hw hp ho'
        rw [if_neg (by rw [hwant a w H hw hp ho']; exact Bool.false_ne_true)]
    -- a new variable
    have newv : ∀ (t : TypeId) (cs : List Sh), cs.all Sh.one = true → ts.contains t = false → evF gl (S.del? g.d) ((F.newO (.box t cs)).put? g.d (.ptr F.n 0 0)) (t :: ts) K → fl.contains Γ.length = false → o.guard = none →
        (∀ a w H, Grow W0 HF w H → Preds ops Γ o a w H → OutSame ops n a0 a → ∃ vs, RepL H E cs vs ∧ (execOp a.eval o).run Try.prog w = .ok (.value (.pointer (some ⟨w.heap.size, 0, none⟩))) (w.alloc (.cells vs.toArray t))) → AGL Try.prog ops Q n fl a0 W0 HF Γ (o :: l) := fun t cs h1 hts hA hc hgn hrun => by
      rw [hg.d] at hA
      refine ⟨boxRel E W0.heap.size t cs, keeps_box _ _ _ _, ?_, recur _ _ _ _ (slots_del hsl hoi _) (fin_step hfin hoi fun W H a' E' v _ hE hF hv => fin_box hS hN hts h1 hg.lt hE hF hv) (newTys_box hN) hA⟩
      rw [if_neg (by rw [hc]; exact Bool.false_ne_true)]
      intro a w H hw hp ho'
      rw [if_pos (wanted_none hgn)]
      obtain ⟨vs, hr, he⟩ := hrun a w H hw hp ho'
      unfold Oper.wp
      rw [he]
      exact ⟨_, H, rfl, (Grow.refl hw.sub).alloc _, _, vs, rfl, hw.below.size, hw.sub.none (Nat.le_refl _), heap_alloc_new w _, hr⟩
    have hnfl : g.op.flo = false → fl.contains Γ.length = false := fun hh => by
      cases hc : fl.contains Γ.length with
      | false => rfl
      | true => rw [hflt hc] at hh; cases hh
    -- a new row
    have newr : ∀ (e : TypeId) (k : Nat) (es : List (List Sh)), ts.contains e = false → evF gl (S.del? g.d) ((F.newO (.row e k es)).put? g.d (.own F.n)) (e :: ts) K → fl.contains Γ.length = false → o.guard = none →
        (∀ a w H, Grow W0 HF w H → Preds ops Γ o a w H → OutSame ops n a0 a → ∃ v w' H', (execOp a.eval o).run Try.prog w = .ok (.value v) w' ∧ Grow w H w' H' ∧ rowRel E W0.heap.size e k es v w' H') → AGL Try.prog ops Q n fl a0 W0 HF Γ (o :: l) := fun e k es hts hA hc hgn hrun => by
      rw [hg.d] at hA
      refine ⟨rowRel E W0.heap.size e k es, keeps_row _ _ _ _ _, ?_, recur _ _ _ _ (slots_del hsl hoi _) (fin_step hfin hoi fun W H a' E' v _ hE hF hv => fin_row hS hN hts hg.lt hE hF hv) (newTys_row hN) hA⟩
      rw [if_neg (by rw [hc]; exact Bool.false_ne_true)]
      intro a w H hw hp ho'
      rw [if_pos (wanted_none hgn)]
      obtain ⟨v, w', H', he, hgr, hr⟩ := hrun a w H hw hp ho'
      unfold Oper.wp
      rw [he]
      exact ⟨_, H', rfl, hgr, hr⟩
    have gcase : ∀ t b, g.g = some (t, b) → (oB (S.opd (.tmp t)) fun s => match s with
      | .v (.bool bb) => (bb = b → evA g.op S fun s => evF gl (S.put? g.d s) (F.put? g.d s) ts K) ∧ (bb = !b → evF gl (S.del? g.d) (F.del? g.d) ts K)
      | _ => False) → AGL Try.prog ops Q n fl a0 W0 HF Γ (o :: l) := fun t b hgg hh => by
      rw [hgg] at hgd hgsrc
      obtain ⟨j, oj, g1, g2, g3⟩ := hgd
      rw [g1] at hgsrc
      simp only [Bool.and_eq_true] at hgsrc
      obtain ⟨s, hs, hh⟩ := oB_elim hh
      cases s with
      | v q =>
        cases q with
        | bool bb =>
          have hv : ∀ a w H, Grow W0 HF w H → Preds ops Γ o a w H → OutSame ops n a0 a → Region.wanted o (yielded ops a.tmps) = (bb == b) := fun a w H hw hp ho' => by
            have hR := slots_opd hf hS hsl hlt hoi hw hp ho' (x := .tmp t) hgsrc.2 _ hs
            exact wanted_some g1 ((dstv_of g2 g3).trans (bool_of hR))
          by_cases hb : bb = b
          · exact val (hh.1 hb) (fun a w H hw hp ho' => by rw [hv a w H hw hp ho']; simp [hb])
          · have hb' : bb = !b := by cases bb <;> cases b <;> simp_all
            exact skip (hh.2 hb') (fun a w H hw hp ho' => by rw [hv a w H hw hp ho']; simp [hb])
        | _ => exact hh.elim
      | _ => exact hh.elim
    have ncase : g.g = none → evA g.op S (fun s => evF gl (S.put? g.d s) (F.put? g.d s) ts K) → AGL Try.prog ops Q n fl a0 W0 HF Γ (o :: l) := fun hgg hh => by
      rw [hgg] at hgd
      exact val hh (fun _ _ _ _ _ _ => wanted_none hgd)
    have hopm := hg.op
    obtain ⟨gd, gg, gop⟩ := g
    simp only at hsrc hgd hops val skip newv hnfl gcase ncase hopm
    unfold evF at h
    simp only at h
    cases gg with
    | none =>
      replace hgd : o.guard = none := hgd
      cases gop with
      | alc t zs =>
        obtain ⟨p, hp, hts, h⟩ := oB_elim h
        cases hp
        generalize hop : o.op = oo at hopm
        cases hopm with
        | @alc t' i' z' zs' q1 q2 q3 =>
          refine newv t (zs.map ZSh.sh) (zs_one zs) hts h (hnfl rfl) hgd (fun a w H hw hp ho' => ⟨_, zs_rep H E zs, ?_⟩)
          have e : (zs.map ZSh.val).toArray = z'.cells := by rw [← q3]
          rw [e]
          simp [execOp, hop, Instr.alloc, run_zero q1 q2, newVar, newRow]
      | box t x =>
        obtain ⟨p, hp, hts, h⟩ := oB_elim h
        obtain ⟨s, hs, hp⟩ := Option.bind_eq_some_iff.1 hp
        split at hp
        · rename_i h1
          cases hp
          generalize hop : o.op = oo at hopm
          cases hopm with
          | box =>
            refine newv t s.cells h1 hts h (hnfl rfl) hgd (fun a w H hw hp ho' => ⟨_, cells_rep ((hops hw hp ho').get (by simp [SOp.opds]) hs) h1, ?_⟩)
            simp [execOp, hop, Instr.box, newVar, newRow]
        · cases hp
      | app x y e k bytes =>
        rcases h with h | h
        · exact ncase rfl h
        · obtain ⟨s, hs, hA1⟩ := oB_elim h
          clear h
          obtain ⟨j, hj, hA2⟩ := oB_elim hA1
          clear hA1
          simp only at hs hj hA2
          split at hA2
          · obtain ⟨hk1, hk2, b1, b2, hts, h⟩ := hA2
            subst hk1
            generalize hop : o.op = oo at hopm
            cases hopm with
            | app q1 q2 q3 q4 q5 =>
              exact newr _ _ _ hts h (hnfl rfl) hgd fun a w H hw hp ho' => by
                obtain ⟨v, w', r1, r2, r3⟩ := front_app hop q1 q2 q3 q4 q5 hw.sub ((hops hw hp ho').get (by simp [SOp.opds]) hs) ((hops hw hp ho').get (by simp [SOp.opds]) hj) hk2 b1 b2
                exact ⟨v, w', H, r1, r2, r3 _ _ hw.below.size⟩
          · exact hA2.elim
      | _ => exact ncase rfl h
    | some tb =>
      obtain ⟨t, b⟩ := tb
      exact gcase t b rfl h
end
end Go.Proofs.Ytfcjkchpldfamaa

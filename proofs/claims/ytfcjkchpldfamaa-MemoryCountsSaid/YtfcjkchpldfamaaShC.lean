/-
  The shadow machine: make, append, copy, maps, in one's own memory; all operations told rightly.
-/
import Derived.Test.YtfcjkchpldfamaaShB
namespace Go.Proofs.Ytfcjkchpldfamaa
set_option linter.unusedSimpArgs false
set_option linter.unusedVariables false
open Go.RowKit Go.Maps

section
variable {N : Nat} {w0 w w' : World} {H0 H H' : Hp} {S : St} {E : Env} {a : Act} {o : Oper} {K : St → Prop}

/-- Nothing that is known lies where the world turned. -/
theorem Sim.by (h : Sim N w0 H0 S E a w H) {row : Option Nat} (g : w.grownBy w' row) (hrow : ∀ b, row = some b → w0.heap.size ≤ b ∧ H b = none ∧ ∀ j u k, lives S j → E j ≠ some (u, k, some b)) : Sim N w0 H0 S E a w' H := by
  have hk : ∀ k, k < w.heap.size → (∀ b, row = some b → k ≠ b) → w'.heap[k]? = w.heap[k]? := fun k hk hn => g.block k hk (fun e => hn k e.symm rfl)
  refine ⟨⟨⟨g.os.trans h.grow.below.os, g.tape.trans h.grow.below.tape, g.output.trans h.grow.below.output, Nat.le_trans h.grow.below.size g.size, fun k hk' => ?_⟩, fun k o hk' => ?_, h.grow.old⟩, h.tm, fun j o hj => ?_, h.ap, h.fr, h.sz, h.df⟩
  · exact (hk k (Nat.lt_of_lt_of_le hk' h.grow.below.size) (fun b hb e => by have := (hrow b hb).1; omega)).trans (h.grow.below.block k hk')
  · exact (hk k (h.sub.lt hk') (fun b hb e => by subst e; rw [(hrow k hb).2.1] at hk'; cases hk')).trans (h.sub k o hk')
  · cases row with
    | none => exact (h.ob j o hj).keep (b := w.heap.size) (fun hl u k e => absurd (h.live_lt ⟨o, hj, hl⟩ e).2.2 (by omega)) (fun k hk' _ => hk k hk' (fun b hb => by cases hb))
    | some b => exact (h.ob j o hj).keep (b := b) (fun hl u k => (hrow b rfl).2.2 j u k ⟨o, hj, hl⟩) (fun k hk' hne => hk k hk' (fun b' hb => by cases hb; exact hne))

/-- A new part of one's own memory, the slot that names it. -/
theorem told_new (hS : Sim N w0 H0 S E a w H) (hd : ∀ t, o.dst = some t → t < N) {ob : Ob} {p : Value × Nat × Option Nat} {row : Option Nat} (he : (execOp a.eval o).run Try.prog w = .ok (.value p.1) w')
    (g : w.grownBy w' row) (hrow : ∀ b, row = some b → w0.heap.size ≤ b ∧ H b = none ∧ ∀ j u k, lives S j → E j ≠ some (u, k, some b)) (ho : ObRep w0.heap.size H (E.set S.n p) w' S.n ob) (h1 : p.1.oneCell' = true)
    (hb : ∀ b, p.2.2 = some b → w.heap.size ≤ b ∨ row = some b) (hk : K ((S.newO ob).put? o.dst (.own S.n))) : Told N w0 H0 o K a w := by
  have h' := hS.by g hrow
  have hN := h'.new ho (fun b hb' i hl u k hE => by
    rcases hb b hb' with h | h
    · exact absurd (hS.live_lt hl hE).2.2 (by omega)
    · exact (hrow b h).2.2 i u k hl hE)
  unfold Told Oper.wp
  rw [he]
  exact ⟨_, _, H, hk, hN.put (.own (Env.set_self _ _ p) h1) hd⟩

theorem told_mks (hS : Sim N w0 H0 S E a w H) (hd : ∀ t, o.dst = some t → t < N) {t e i z n m kf} {zs : List ZSh} (ho : o.op = .makeSlice t n n) (hu : Try.prog.underlying t = some (.slice e)) (hi : Try.prog.info? e = some i) (hz : i.zero = some z) (hzs : z.cells.toList = zs.map ZSh.val) (hsz : z.cells.size = i.size) (hpos : 0 < i.size)
    (hn : S.opd n = some (.v (.int kf m))) (h0 : 0 ≤ m) (h1' : m ≤ 1000000) (hb : m.toNat * i.bytes ≤ 140737488355328) (hk : K ((S.newO (.row e i.size (List.replicate m.toNat (zs.map ZSh.sh)))).put? o.dst (.own S.n))) : Told N w0 H0 o K a w := by
  have hR := hS.opds [n] n (by simp) _ hn
  generalize hq : a.eval n = q at hR
  cases hR
  obtain ⟨M, rfl⟩ := Int.eq_ofNat_of_zero_le h0
  simp only [Int.toNat_natCast] at hb hk
  have hrun := run_make_sh (P := Try.prog) w t e i z i.size hu hi hz rfl kf kf M (by omega) hb
  refine told_new hS hd (ob := .row e i.size (List.replicate M (zs.map ZSh.sh))) (p := (.slice (some ⟨w.heap.size, 0, none⟩) M M, i.size, some w.heap.size)) (row := none) (w' := w.alloc (.cells ((Array.range (M * i.size)).map (fun j => z.cells[j % z.cells.size]!)) e)) (by simp [execOp, ho, hq, hrun]) ⟨rfl, rfl, rfl, by simp, fun k hk _ => Below.heap_alloc w _ k hk⟩ (fun b hb => by cases hb)
    ⟨_, some w.heap.size, _, Env.set_self _ _ _, hpos, zeros_rep (n := M) hzs hsz hpos, .inr ⟨w.heap.size, M, _, rfl, by simp, hS.grow.below.size, hS.sub.none (Nat.le_refl _), heap_alloc_new w _, by simp, by unfold maxLen; omega, fun e => (by simpa using e), by simp, by rw [List.length_replicate, List.take_of_length_le (by simp)]⟩⟩ rfl (fun b hb => by cases hb; exact .inl (Nat.le_refl _)) hk

theorem told_mkm (hS : Sim N w0 H0 S E a w H) (hd : ∀ t, o.dst = some t → t < N) {t kt : TypeId} (ho : o.op = .makeMap t none) (hk : K ((S.newO (.map kt 0 fun _ => none)).put? o.dst (.own S.n))) : Told N w0 H0 o K a w :=
  told_new hS hd (ob := .map kt 0 fun _ => none) (p := (.map (some w.heap.size), 0, some w.heap.size)) (row := none) (w' := w.alloc (.map #[] 0)) (by simp [execOp, ho, run_makeMap]) ⟨rfl, rfl, rfl, by simp, fun k hk _ => Below.heap_alloc w _ k hk⟩ (fun b hb => by cases hb)
    ⟨_, .map #[] 0, fun _ => none, Env.set_self _ _ _, hS.grow.below.size, hS.sub.none (Nat.le_refl _), heap_alloc_new w _, MapOf.made, by omega, fun j => by simp, fun j s u h => by cases h⟩ rfl (fun b hb => by cases hb; exact .inl (Nat.le_refl _)) hk

theorem ownsRow_rep {B : Nat} {e : TypeId} {k n : Nat} {v : Value} {xs : List Value} {es : List (List Sh)} (h : w.ownsRow B e k v n xs) (hr : RepEs H k es xs) (hn : es.length = n) (hpos : 0 < n) :
    ∃ g cap cur, v = .slice (some ⟨g, 0, none⟩) es.length cap ∧ B ≤ g ∧ w.heap[g]? = some (.cells cur e (0, 0)) ∧ es.length ≤ cap ∧ cap ≤ maxLen ∧ cur.size = cap * k ∧ cur.toList.take (es.length * k) = xs := by
  subst hn
  rcases h.2 with ⟨_, h0⟩ | ⟨g, cap, cur, h1, h2, h3, h4, h5, h6, h7⟩
  · omega
  · exact ⟨g, cap, cur, h1, h2, h3, h4, h5, h6, h7⟩

/-- append to a full slice that nobody writes, or to nothing. -/
theorem told_app2 (hS : Sim N w0 H0 S E a w H) (hd : ∀ t, o.dst = some t → t < N) {t e i z x y es ys k2 f2} (ho : o.op = .call ⟨.builtin .append, #[x, y], #[t, t]⟩) (ht : Try.prog.underlying t = some (.slice e)) (hi : Try.prog.info? e = some i) (hz : i.zero = some z) (hzs : z.cells.size = i.size) (hpos : 0 < i.size)
    {g1 : Nat} (hX : Rep H E (.sl i.size g1 es) (a.eval x)) (hg1 : g1 = 1 ∨ (g1 = 0 ∧ es = [])) (hy : S.opd y = some (.sl k2 f2 ys)) (hk2 : k2 = i.size) (hm : es = [] ∨ 0 < ys.length) (b1 : es.length + ys.length ≤ 1000000) (b2 : (es.length + ys.length) * i.bytes ≤ 140737488355328)
    (hk : K ((S.newO (.row e i.size (es ++ ys))).put? o.dst (.own S.n))) : Told N w0 H0 o K a w := by
  subst hk2
  have hY := hS.opds [y] y (by simp) _ hy
  generalize hqx : a.eval x = qx at hX
  generalize hqy : a.eval y = qy at hY
  obtain ⟨a1, n, c, rfl⟩ : ∃ a n c, qx = .slice a n c := by cases hX; exact ⟨_, _, _, rfl⟩
  obtain ⟨a2, m, c2, rfl⟩ : ∃ a n c, qy = .slice a n c := by cases hY; exact ⟨_, _, _, rfl⟩
  obtain ⟨us, p1, p2, p3, _, p4, p5, p6⟩ := sl_cells hS.sub hX
  obtain ⟨vs, q1, q2, q3, _, q4, q5, q6⟩ := sl_cells hS.sub hY
  subst p2; subst q2
  by_cases h0 : 0 < ys.length
  · cases a2 with
    | none => have := q5 rfl; omega
    | some ad =>
      have hml : es.length + ys.length ≤ maxLen := by unfold maxLen; omega
      obtain ⟨v', w', hrun, r1, r2⟩ := run_append_sh (P := Try.prog) (w := w) (k := i.size) t o.type e i z ht hi hz hzs hpos (c2 := c2) p1.length p1.one (p4.full hg1) p5 p6 q1.length q1.one (q6 ad rfl) h0 hml b2
      obtain ⟨g, cap, cur, rfl, s2, s3, s4, s5, s6, s7⟩ := ownsRow_rep r1 (p1.append q1) (by simp) (by omega)
      refine told_new hS hd (ob := .row e i.size (es ++ ys)) (p := (.slice (some ⟨g, 0, none⟩) (es ++ ys).length cap, i.size, some g)) (row := none) (w' := w') (by simp [execOp, ho, resolve, hqx, hqy, invoke, builtin, hrun]) r2 (fun b hb => by cases hb)
        ⟨_, some g, _, Env.set_self _ _ _, hpos, p1.append q1, .inr ⟨g, cap, cur, rfl, rfl, Nat.le_trans hS.grow.below.size s2, hS.sub.none s2, s3, s4, s5, fun e => absurd (List.append_eq_nil_iff.1 e).2 (fun e => by simp [e] at h0), s6, s7⟩⟩ rfl (fun b hb => by cases hb; exact .inl s2) hk
  · have he : es = [] := hm.resolve_right h0
    have hy0 : ys = [] := List.eq_nil_of_length_eq_zero (by omega)
    subst he; subst hy0
    have hc := p4.full hg1
    simp only [List.length_nil] at hc hqx hqy
    subst hc
    have hrun : (Builtin.append_ #[t, t] o.type #[.slice a1 0 0, .slice a2 0 c2]).run Try.prog w = .ok (.slice a1 0 0) w := by
      have hl : ∀ (x : Addr), (loadCells x 0).run Try.prog w = .ok #[] w := fun x => by simpa using run_loadCells_list (P := Try.prog) w x [] (by simp)
      cases a1 <;> cases a2 <;> simp [Builtin.append_, run_underlying ht, run_sizeOf hi, Builtin.lenOf, Builtin.firstCells, hl, storeCells]
    refine told_new hS hd (ob := .row e i.size []) (p := (.slice a1 0 0, i.size, none)) (row := none) (w' := w) (by simp [execOp, ho, resolve, hqx, hqy, invoke, builtin, hrun]) ⟨rfl, rfl, rfl, Nat.le_refl _, fun k hk _ => rfl⟩ (fun b hb => by cases hb)
      ⟨_, none, [], Env.set_self _ _ _, hpos, .nil, .inl ⟨rfl, rfl, a1, rfl⟩⟩ rfl (fun b hb => by cases hb) (by simpa using hk)

theorem getA_del {α : Type} {l : List (Nat × α)} {i j : Nat} {x : α} (h : getA (delA l i) j = some x) : getA l j = some x ∧ i ≠ j := getA_del_some h

/-- append to one's own row. -/
theorem told_app1 (hS : Sim N w0 H0 S E a w H) (hd : ∀ t, o.dst = some t → t < N) {t e i z x y ri es ys k2 f2} (ho : o.op = .call ⟨.builtin .append, #[x, y], #[t, t]⟩) (ht : Try.prog.underlying t = some (.slice e)) (hi : Try.prog.info? e = some i) (hz : i.zero = some z) (hzs : z.cells.size = i.size) (hpos : 0 < i.size)
    (hx : S.opd x = some (.own ri)) (hg : getA S.O ri = some (.row e i.size es)) (hy : S.opd y = some (.sl k2 f2 ys)) (hk2 : k2 = i.size) (b1 : es.length + ys.length ≤ 1000000) (b2 : (es.length + ys.length) * i.bytes ≤ 140737488355328)
    (hk : K ((St.newO ⟨S.T, delA S.O ri, S.n⟩ (.row e i.size (es ++ ys))).put? o.dst (.own S.n))) : Told N w0 H0 o K a w := by
  have hX := hS.opds [x] x (by simp) _ hx
  have hL : Sim N w0 H0 ⟨S.T, delA S.O ri, S.n⟩ E a w H := hS.less (fun _ _ h => h) (fun i o h => (getA_del h).1) rfl
  obtain ⟨u, ob, xs, e1, hkp, e2, e3⟩ := hS.ob _ _ hg
  have hXu : a.eval x = u := by
    generalize a.eval x = qx at hX
    cases hX with
    | own hE _ => rw [hE] at e1; cases e1; rfl
  rcases e3 with ⟨rfl, rfl, ad, rfl⟩ | ⟨g, cap, cur, rfl, rfl, a3, a4, a5, a6, a7, a7', a8, a9⟩
  · refine told_app2 (es := []) (g1 := 1) hL hd ho ht hi hz hzs hpos ?_ (.inl rfl) (S := ⟨S.T, delA S.O ri, S.n⟩) (y := y) (ys := ys) (k2 := k2) (f2 := f2) ?_ hk2 (.inl rfl) b1 b2 hk
    · rw [hXu]; exact .sl .nil rfl (Nat.le_refl _) (Nat.zero_le _) ⟨fun _ => rfl, fun _ _ => rfl⟩ (fun _ => rfl) (fun j u hu => by simp at hu)
    · revert hy
      cases y with
      | tmp ty =>
        simp only [St.opd, Option.map_eq_some_iff]
        rintro ⟨s0, h1, h2⟩
        refine ⟨s0, h1, ?_⟩
        revert h2
        cases s0 <;> simp only [St.res] <;> intro h2
        case own j =>
          split at h2
          · rename_i yy hj
            subst h2
            by_cases hji : ri = j
            · subst hji; rw [hg] at hj; cases hj
            · rw [getA_delA_other _ hji, hj]
          · cases h2
        case ptr j idx off => split at h2 <;> cases h2
        all_goals exact h2
      | const v => intro h; exact h
      | func f => intro h; exact h
      | global g => intro h; exact h
  · subst hk2
    have hY := hS.opds [y] y (by simp) _ hy
    generalize hqy : a.eval y = qy at hY
    obtain ⟨a2, m, c2, rfl⟩ : ∃ a n c, qy = .slice a n c := by cases hY; exact ⟨_, _, _, rfl⟩
    obtain ⟨vs, q1, q2, q3, _, q4, q5, q6⟩ := sl_cells hS.sub hY
    subst q2
    have hown : ∀ j u k, lives (⟨S.T, delA S.O ri, S.n⟩ : St) j → E j ≠ some (u, k, some g) := by
      rintro j u k ⟨o', hj, hl⟩ he
      obtain ⟨hj, hne⟩ := getA_del hj
      exact hS.ap ri j hne ⟨_, hg, rfl⟩ ⟨o', hj, hl⟩ g _ _ _ _ e1 he
    have hml : es.length + ys.length ≤ maxLen := by unfold maxLen; omega
    have hrep := e2.append q1
    have hxl := e2.length
    have hyl := q1.length
    have hn : ∀ hm : 0 < es.length + ys.length, ∀ (v' : Value) (w' : World) (row : Option Nat), (Builtin.append_ #[t, t] o.type #[.slice (some ⟨g, 0, none⟩) es.length cap, .slice a2 ys.length c2]).run Try.prog w = .ok v' w' → w.grownBy w' row → (row = none ∨ row = some g) →
        (∃ g' cap' cur', v' = .slice (some ⟨g', 0, none⟩) (es ++ ys).length cap' ∧ w0.heap.size ≤ g' ∧ H g' = none ∧ (w.heap.size ≤ g' ∨ row = some g') ∧ w'.heap[g']? = some (.cells cur' e (0, 0)) ∧ (es ++ ys).length ≤ cap' ∧ cap' ≤ maxLen ∧ (es ++ ys = [] → cap' = 0) ∧ cur'.size = cap' * i.size ∧ cur'.toList.take ((es ++ ys).length * i.size) = xs ++ vs) → Told N w0 H0 o K a w := by
      rintro _ v' w' row hrun gg hrow ⟨g', cap', cur', rfl, s2, s2', s2'', s3, s4, s5, s5', s6, s7⟩
      refine told_new hL hd (ob := .row e i.size (es ++ ys)) (p := (.slice (some ⟨g', 0, none⟩) (es ++ ys).length cap', i.size, some g')) (row := row) (w' := w') (by simp [execOp, ho, resolve, hXu, hqy, invoke, builtin, hrun]) gg (fun b hb => ?_)
        ⟨_, some g', _, Env.set_self _ _ _, hpos, hrep, .inr ⟨g', cap', cur', rfl, rfl, s2, s2', s3, s4, s5, s5', s6, s7⟩⟩ rfl (fun b hb => by cases hb; exact s2'') hk
      rcases hrow with rfl | rfl
      · cases hb
      · cases hb; exact ⟨a3, a4, hown⟩
    have hlen : (es ++ ys).length = es.length + ys.length := by simp
    by_cases h0 : 0 < ys.length
    · cases a2 with
      | none => have := q5 rfl; omega
      | some ad =>
        by_cases hroom : es.length + ys.length ≤ cap
        · have hfit : es.length * i.size + vs.length ≤ cur.size := by rw [hyl, a8, ← Nat.add_mul]; exact Nat.mul_le_mul_right _ hroom
          have hr := run_append_room (P := Try.prog) w t o.type e i ht hi g es.length cap cur a5 ad ys.length c2 vs hyl (q6 ad rfl) q1.one hroom hfit
          refine hn (by omega) _ _ (some g) hr ⟨rfl, rfl, rfl, by simp [World.setRow], fun k _ hk => setRow_other w g k _ (fun e => hk (by rw [e]))⟩ (.inr rfl) ⟨g, cap, _, by rw [hlen], a3, a4, .inr rfl, setRow_heap w g cur _ e _ a5, by omega, a7, fun e => absurd (List.append_eq_nil_iff.1 e).2 (fun e => by simp [e] at h0), ?_, ?_⟩
          · simp only [List.size_toArray, List.length_append, List.length_take, List.length_drop, Array.length_toList]; omega
          · rw [a9, hlen]
            have : (es.length + ys.length) * i.size = (xs ++ vs).length := by simp [hxl, hyl, Nat.add_mul]
            rw [this]; exact List.take_left
        · obtain ⟨v', w', hrun, r1, r2⟩ := run_append_arg_grows (P := Try.prog) w t o.type e i z i.size i.bytes ht hi hz rfl rfl hzs hpos ⟨g, 0, none⟩ es.length cap xs hxl (fun j u hu => by
            rw [Addr.add_lit, ← a9, List.getElem?_take] at *
            split at hu
            · simp [World.cell?, a5]; simpa using hu
            · cases hu) ad ys.length c2 vs hyl (q6 ad rfl) (by omega) hml b2
          obtain ⟨g', cap', cur', rfl, s2, s3, s4, s5, s6, s7⟩ := ownsRow_rep r1 hrep (by simp) (by omega)
          exact hn (by omega) _ _ none hrun r2 (.inl rfl) ⟨g', cap', cur', rfl, Nat.le_trans hS.grow.below.size s2, hS.sub.none s2, .inl s2, s3, s4, s5, fun e => absurd (List.append_eq_nil_iff.1 e).2 (fun e => by simp [e] at h0), s6, s7⟩
    · have hy0 : ys = [] := List.eq_nil_of_length_eq_zero (by omega)
      subst hy0
      have hvs : vs = [] := List.eq_nil_of_length_eq_zero (by simpa using hyl)
      subst hvs
      simp only [List.length_nil] at hqy
      have hrun : (Builtin.append_ #[t, t] o.type #[.slice (some ⟨g, 0, none⟩) es.length cap, .slice a2 0 c2]).run Try.prog w = .ok (.slice (some ⟨g, 0, none⟩) es.length cap) w := by
        have hl : ∀ (x : Addr), (loadCells x 0).run Try.prog w = .ok #[] w := fun x => by simpa using run_loadCells_list (P := Try.prog) w x [] (by simp)
        cases a2 <;> simp [Builtin.append_, run_underlying ht, run_sizeOf hi, Builtin.lenOf, Builtin.firstCells, hl, storeCells, a6]
      refine told_new hL hd (ob := .row e i.size (es ++ [])) (p := (.slice (some ⟨g, 0, none⟩) es.length cap, i.size, some g)) (row := some g) (w' := w) (by simp [execOp, ho, resolve, hXu, hqy, invoke, builtin, hrun]) ⟨rfl, rfl, rfl, Nat.le_refl _, fun k hk _ => rfl⟩ (fun b hb => by cases hb; exact ⟨a3, a4, hown⟩)
        ⟨_, some g, _, Env.set_self _ _ _, hpos, hrep, .inr ⟨g, cap, cur, rfl, by simp, a3, a4, a5, by simpa using a6, a7, fun e => a7' (by simpa using e), a8, by simpa using a9⟩⟩ rfl (fun b hb => by cases hb; exact .inr rfl) hk

theorem run_copy_gen {P : Program} (dT sT ty elem : TypeId) (i : TypeInfo) (hu : P.underlying dT = some (.slice elem)) (hi : P.info? elem = some i) (g dLen dCap : Nat) (src : Option Addr) (sLen sCap : Nat) (cur : Array Value) (t : TypeId) (cs : List Value)
    (hg : w.heap[g]? = some (.cells cur t (0, 0))) (hn : cs.length = Nat.min sLen dLen * i.size) (hsn : src = none → sLen = 0)
    (hsrc : ∀ a, src = some a → ∀ j v, cs[j]? = some v → w.cell? (a.add j) = some v) (hfit : cs.length ≤ cur.size) (h1 : ∀ v ∈ cs, v.oneCell' = true) :
    (Builtin.copy_ #[dT, sT] ty #[.slice (some ⟨g, 0, none⟩) dLen dCap, .slice src sLen sCap]).run P w = .ok (goInt (Nat.min sLen dLen : Nat)) (w.setRow g (cs ++ cur.toList.drop cs.length).toArray) := by
  have hst := run_storeCells_at P g 0 t cs 0 cur w hg (by simpa using hfit) h1
  simp only [Nat.zero_add, List.take_zero, List.nil_append] at hst
  cases src with
  | none =>
    have := hsn rfl
    subst this
    simp at hn
    subst hn
    simp only [List.nil_append, List.length_nil, List.drop_zero] at hst ⊢
    simp [Builtin.copy_, run_underlying hu, Builtin.lenOf, Builtin.firstCells, run_sizeOf hi, hst]
  | some a =>
    have hl := run_loadCells_list (P := P) w a cs (hsrc a rfl)
    rw [hn] at hl
    simp [Builtin.copy_, run_underlying hu, Builtin.lenOf, Builtin.firstCells, run_sizeOf hi, hl, hst]

theorem run_copy_zero {P : Program} (dT sT ty elem : TypeId) (i : TypeInfo) (hu : P.underlying dT = some (.slice elem)) (hi : P.info? elem = some i) (d : Option Addr) (dCap : Nat) (src : Option Addr) (sLen sCap : Nat) :
    (Builtin.copy_ #[dT, sT] ty #[.slice d 0 dCap, .slice src sLen sCap]).run P w = .ok (goInt 0) w := by
  have hl : ∀ (x : Addr), (loadCells x 0).run P w = .ok #[] w := fun x => by simpa using run_loadCells_list (P := P) w x [] (by simp)
  cases d <;> cases src <;> simp [Builtin.copy_, run_underlying hu, Builtin.lenOf, Builtin.firstCells, run_sizeOf hi, hl, storeCells]

theorem told_value' {v : Value} (he : (execOp a.eval o).run Try.prog w = .ok (.value v) w') (hd : ∀ t, o.dst = some t → t < N) {S' : St} {E' : Env} {H' : Hp} (hS' : Sim N w0 H0 S' E' a w' H') {s : Sh} (hr : Rep H' E' s v) (hk : K (S'.put? o.dst s)) : Told N w0 H0 o K a w := by
  unfold Told Oper.wp
  rw [he]
  exact ⟨_, E', H', hk, hS'.put hr hd⟩

theorem told_cpy (hS : Sim N w0 H0 S E a w H) (hd : ∀ t, o.dst = some t → t < N) {t e i x y t2 ri et es ys k2 f2} (ho : o.op = .call ⟨.builtin .copy, #[x, y], #[t, t2]⟩) (ht : Try.prog.underlying t = some (.slice e)) (hi : Try.prog.info? e = some i)
    (hx : S.opd x = some (.own ri)) (hg : getA S.O ri = some (.row et i.size es)) (hy : S.opd y = some (.sl k2 f2 ys)) (hk2 : k2 = i.size)
    (hk : K ((S.setO ri (.row et i.size (ys.take es.length ++ es.drop ys.length))).put? o.dst (.v (.int .i64 (min ys.length es.length : Nat))))) : Told N w0 H0 o K a w := by
  subst hk2
  have hX := hS.opds [x] x (by simp) _ hx
  have hY := hS.opds [y] y (by simp) _ hy
  obtain ⟨u, ob, xs, e1, hkp, e2, e3⟩ := hS.ob _ _ hg
  have hXu : a.eval x = u := by
    generalize a.eval x = qx at hX
    cases hX with
    | own hE _ => rw [hE] at e1; cases e1; rfl
  generalize hqy : a.eval y = qy at hY
  obtain ⟨a2, m, c2, rfl⟩ : ∃ a n c, qy = .slice a n c := by cases hY; exact ⟨_, _, _, rfl⟩
  obtain ⟨vs, q1, q2, q3, _, q4, q5, q6⟩ := sl_cells hS.sub hY
  subst q2
  have hmin : Nat.min ys.length es.length = min ys.length es.length := rfl
  rcases e3 with ⟨rfl, rfl, ad, rfl⟩ | ⟨g, cap, cur, rfl, rfl, a3, a4, a5, a6, a7, a7', a8, a9⟩
  · have hrun := run_copy_zero (P := Try.prog) (w := w) t t2 o.type e i ht hi ad 0 a2 ys.length c2
    have hq : (S.setO ri (.row et i.size (ys.take 0 ++ ([] : List (List Sh)).drop ys.length))) = S.setO ri (.row et i.size []) := by simp
    simp only [List.length_nil] at hk
    rw [hq] at hk
    have hS' : Sim N w0 H0 (S.setO ri (.row et i.size [])) E a w H := hS.less (S' := S.setO ri (.row et i.size [])) (fun _ _ h => h) (fun j o' hj => by
      simp only [St.setO, getA_put] at hj
      split at hj
      · rename_i e; cases hj; subst e; exact hg
      · exact hj) rfl
    exact told_value' (v := .int .i64 0) (w' := w) (by simp [execOp, ho, resolve, hXu, hqy, invoke, builtin, hrun, goInt]) hd hS' (.v rfl) (by simpa using hk)
  · have hxl := e2.length
    have hyl := q1.length
    have h1 : (vs.take (min ys.length es.length * i.size)).length = min ys.length es.length * i.size := by
      rw [List.length_take, hyl]; exact Nat.min_eq_left (Nat.mul_le_mul_right _ (Nat.min_le_left _ _))
    have hm1 : min ys.length es.length * i.size ≤ es.length * i.size := Nat.mul_le_mul_right _ (Nat.min_le_right _ _)
    have hm2 : es.length * i.size ≤ cap * i.size := Nat.mul_le_mul_right _ a6
    have hrun := run_copy_gen (P := Try.prog) (w := w) t t2 o.type e i ht hi g es.length cap a2 ys.length c2 cur et (vs.take (min ys.length es.length * i.size)) a5 h1 (fun h => by have := q5 h; omega)
      (fun ad hh j v hv => q6 ad hh j v (by rw [List.getElem?_take] at hv; split at hv; exact hv; cases hv)) (by omega) (fun v hv => q1.one v (List.mem_of_mem_take hv))
    rw [h1] at hrun
    have hp : Put w g (vs.take (min ys.length es.length * i.size) ++ cur.toList.drop (min ys.length es.length * i.size)).toArray et (w.setRow g (vs.take (min ys.length es.length * i.size) ++ cur.toList.drop (min ys.length es.length * i.size)).toArray) := put_setRow a5
    have hlen : (ys.take es.length ++ es.drop ys.length).length = es.length := by simp; omega
    have htake : ys.take es.length = ys.take (min ys.length es.length) := by
      rcases Nat.le_total ys.length es.length with h | h
      · rw [Nat.min_eq_left h, List.take_of_length_le h, List.take_of_length_le (Nat.le_refl _)]
      · rw [Nat.min_eq_right h]
    have hdrop : es.drop ys.length = es.drop (min ys.length es.length) := by
      rcases Nat.le_total ys.length es.length with h | h
      · rw [Nat.min_eq_left h]
      · rw [Nat.min_eq_right h, List.drop_of_length_le h, List.drop_of_length_le (Nat.le_refl _)]
    have hrep : RepEs H i.size (ys.take es.length ++ es.drop ys.length) (vs.take (min ys.length es.length * i.size) ++ xs.drop (min ys.length es.length * i.size)) := by
      rw [htake, hdrop]; exact (q1.take _).append (e2.drop _)
    have hU := hS.upd (o' := .row et i.size (ys.take es.length ++ es.drop ys.length)) ⟨_, hg, rfl⟩ e1 (fun k _ hk => hp.same k hk) (by rw [hp.size]; exact Nat.le_refl _) hp.os hp.tape hp.output
      ⟨_, some g, _, e1, hkp, hrep, .inr ⟨g, cap, _, rfl, by rw [hlen], a3, a4, hp.box, by rw [hlen]; exact a6, a7, fun e => a7' (List.eq_nil_of_length_eq_zero (by rw [← hlen, e]; rfl)), ?_, ?_⟩⟩ rfl
    · rw [hmin] at hrun
      exact told_value' (v := goInt (min ys.length es.length : Nat)) (w' := (w.setRow g (vs.take (min ys.length es.length * i.size) ++ cur.toList.drop (min ys.length es.length * i.size)).toArray)) (by simp only [execOp, ho, resolve, hXu, hqy, invoke, builtin, Sem.run_bind, Sem.run_pure, Result.andThen_ok, List.map_toArray, List.map_cons, List.map_nil, hrun]) hd hU (.v rfl) hk
    · simp only [List.size_toArray, List.length_append, h1, List.length_drop, Array.length_toList]; omega
    · rw [hlen, List.toList_toArray, List.take_append, h1, List.take_of_length_le (by rw [h1]; exact hm1), ← a9, List.drop_take]

theorem told_mup (hS : Sim N w0 H0 S E a w H) (hd : o.dst = none) {t kt e m key x ri M f n v} (ho : o.op = .mapUpdate t m key x) (ht : Try.prog.underlying t = some (.map kt e)) (hkt : Try.prog.underlying kt = some (.int .i64))
    (hm : S.opd m = some (.own ri)) (hkey : S.opd key = some (.v (.int .i64 n))) (hx : (S.opd x).bind S.arg1 = some v) (hg : getA S.O ri = some (.map kt M f)) (hM : M < 1000000) (n1 : -9223372036854775808 ≤ n) (n2 : n ≤ 9223372036854775807)
    {M' : Nat} (hM' : M' = M + 1 ∨ (M' ≤ 1000000 ∧ ∀ j, (if j = n then some v else f j) ≠ none → 0 ≤ j ∧ j < (M' : Int))) (hk : K (S.setO ri (.map kt M' fun j => if j = n then some v else f j))) : Told N w0 H0 o K a w := by
  have hMm := hS.opds [m] m (by simp) _ hm
  have hKk := hS.opds [key] key (by simp) _ hkey
  obtain ⟨y, hy, hv⟩ := Option.bind_eq_some_iff.1 hx
  obtain ⟨hV, _, _⟩ := arg1_rep hS.ob (hS.opds [x] x (by simp) _ hy) hv
  obtain ⟨b, oo, F, e1, e2, e3, e4, e5, e6, e7, e8⟩ := hS.ob _ _ hg
  have hXu : a.eval m = .map (some b) := by
    generalize a.eval m = qx at hMm
    cases hMm with
    | own hE _ => rw [hE] at e1; cases e1; rfl
  have hKu : a.eval key = .int .i64 n := by
    generalize a.eval key = qx at hKk
    cases hKk; rfl
  obtain ⟨w', o', hrun, r0, r1, r2⟩ := e5.update e4 hkt ht (by unfold maxLen; omega) n1 n2 (a.eval x)
  refine told_skip (w' := w') (by simp [execOp, ho, hXu, hKu, hrun]) hd (hS.upd (o' := .map kt M' fun j => if j = n then some v else f j) ⟨_, hg, rfl⟩ e1 (fun k hk hne => r2.block k hk (fun e => hne (Option.some.inj e))) r2.size r2.os r2.tape r2.output
    ⟨b, o', _, e1, e2, e3, r0, (by
      rcases hM' with rfl | ⟨_, hM'⟩
      · exact r1
      · exact r1.tight hkt M' (fun j hj => hM' j (fun e => by
          have : upd F n (some (a.eval x)) j = none := by
            unfold upd
            split at e
            · cases e
            · rename_i hne; rw [if_neg hne]; exact (e7 j).1 e
          rw [this] at hj; cases hj))), (by rcases hM' with rfl | h; omega; exact h.1), fun j => ?_, fun j s u hs hu => ?_⟩ rfl) hk
  · unfold upd; by_cases hj : j = n <;> simp [hj, e7]
  · unfold upd at hu
    simp only at hs
    split at hs
    · rename_i hj; cases hs; rw [if_pos hj] at hu; cases hu; exact hV
    · rename_i hj; rw [if_neg hj] at hu; exact e8 j s u hs hu

/-- A call that hands back a row of one's own. -/
theorem told_row (hS : Sim N w0 H0 S E a w H) (hd : ∀ t, o.dst = some t → t < N) {f args tys l e k es} (ho : o.op = .call ⟨.value (.func f), args, tys⟩) (hE : Enters f) (hl : S.args args.toList = some l) (hr : OkRow f l e k es)
    (hk : K ((S.newO (.row e k es)).put? o.dst (.own S.n))) : Told N w0 H0 o K a w := by
  have hA := args_rep hS.ob (hS.opds args.toList) hl
  have hc := hr w H _ hS.sub hA
  have he : (execOp a.eval o).run Try.prog w = .ok (.enter f (args.toList.map a.eval).toArray) w := by
    have := hE (args.map a.eval) w
    rw [map_arr]
    simp [execOp, ho, resolve, Act.eval, Deferred.ofValue, invoke]
    exact this
  unfold Told Oper.wp
  rw [he, Oper.upon_enter]
  refine Calls.mono hc fun e' w' hq => ?_
  obtain ⟨v, xs, rfl, hg, hpos, hown, hR, hnil⟩ := hq
  have hS' := hS.grown hg
  have fresh : ∀ b, w.heap.size ≤ b → ∀ i, lives S i → ∀ u k, E i = some (u, k, some b) → False := fun b hb i hl u k hE => by
    have := (hS.live_lt hl hE).2.2
    omega
  by_cases h0 : es = []
  · subst h0
    obtain ⟨ad, rfl⟩ := hnil rfl
    have hN := hS'.new (o := .row e k []) (p := (.slice ad 0 0, k, none)) ⟨_, none, [], Env.set_self _ _ _, hpos, .nil, .inl ⟨rfl, rfl, ad, rfl⟩⟩ (fun b hb => by cases hb)
    exact ⟨_, _, H, hk, hN.put (.own (Env.set_self _ _ _) rfl) hd⟩
  · have hp : 0 < es.length := by cases es with | nil => exact absurd rfl h0 | cons => simp
    obtain ⟨g, cap, cur, rfl, s2, s3, s4, s5, s6, s7⟩ := ownsRow_rep hown hR rfl hp
    have hN := hS'.new (o := .row e k es) (p := (.slice (some ⟨g, 0, none⟩) es.length cap, k, some g)) ⟨_, some g, xs, Env.set_self _ _ _, hpos, hR, .inr ⟨g, cap, cur, rfl, rfl, Nat.le_trans hS.grow.below.size s2, hS.sub.none s2, s3, s4, s5, fun e => absurd e h0, s6, s7⟩⟩
      (fun b hb => by cases hb; exact fresh g s2)
    exact ⟨_, _, H, hk, hN.put (.own (Env.set_self _ _ _) rfl) hd⟩

/-- A call that hands back a map of one's own, or none. -/
theorem told_map (hS : Sim N w0 H0 S E a w H) (hd : ∀ t, o.dst = some t → t < N) {f args tys l kt M g} (ho : o.op = .call ⟨.value (.func f), args, tys⟩) (hE : Enters f) (hl : S.args args.toList = some l) (hr : OkMap f l kt M g)
    (hk : K ((S.newO (.map kt M g)).put? o.dst (.own S.n))) (hk2 : (∀ i, g i = none) → K (S.put? o.dst (.v (.map none)))) : Told N w0 H0 o K a w := by
  have hA := args_rep hS.ob (hS.opds args.toList) hl
  have hc := hr w H _ hS.sub hA
  have he : (execOp a.eval o).run Try.prog w = .ok (.enter f (args.toList.map a.eval).toArray) w := by
    have := hE (args.map a.eval) w
    rw [map_arr]
    simp [execOp, ho, resolve, Act.eval, Deferred.ofValue, invoke]
    exact this
  unfold Told Oper.wp
  rw [he, Oper.upon_enter]
  refine Calls.mono hc fun e' w' hq => ?_
  obtain ⟨v, rfl, hg, h⟩ := hq
  have hS' := hS.grown hg
  have fresh : ∀ b, w.heap.size ≤ b → ∀ i, lives S i → ∀ u k, E i = some (u, k, some b) → False := fun b hb i hl u k hE => by
    have := (hS.live_lt hl hE).2.2
    omega
  rcases h with ⟨rfl, h0⟩ | ⟨b, ob, F, rfl, h1, h2, h3, h4, h5, h6⟩
  · exact ⟨_, _, H, hk2 h0, hS'.put (.v rfl) hd⟩
  · have hN := hS'.new (o := .map kt M g) (p := (.map (some b), 0, some b)) ⟨b, ob, F, Env.set_self _ _ _, Nat.le_trans hS.grow.below.size h1, hS.sub.none h1, h2, h3, h4, h5, h6⟩ (fun b' hb => by cases hb; exact fresh b h1)
    exact ⟨_, _, H, hk, hN.put (.own (Env.set_self _ _ _) rfl) hd⟩

theorem told_eqo (hS : Sim N w0 H0 S E a w H) (hd : ∀ t, o.dst = some t → t < N) {t x y t2 i kt kt' e M f} {neg : Bool} (ho : o.op = .binOp (if neg then .neq else .eql) t x y t2) (hu : Try.prog.underlying t = some (.map kt' e))
    (hx : S.opd x = some (.own i)) (hy : S.opd y = some (.v (.map none))) (hg : getA S.O i = some (.map kt M f)) (hk : K (S.put? o.dst (.v (.bool neg)))) : Told N w0 H0 o K a w := by
  have hX := hS.opds [x] x (by simp) _ hx
  have hY := hS.opds [y] y (by simp) _ hy
  obtain ⟨b, oo, F, e1, _⟩ := hS.ob _ _ hg
  have hXu : a.eval x = .map (some b) := by
    generalize a.eval x = qx at hX
    cases hX with
    | own hE _ => rw [hE] at e1; cases e1; rfl
  have hYu : a.eval y = .map none := by
    generalize a.eval y = qy at hY
    cases hY; rfl
  have hq := run_eql_map_nil_sl (P := Try.prog) w t kt' e (some b) hu
  refine told_value' (v := .bool neg) (w' := w) ?_ hd hS (.v rfl) hk
  cases neg
  · simp [execOp, ho, hXu, hYu, eqGuard, hq]
  · simp only [binOp, Sem.run_bind] at hq
    cases hr : Sem.run Try.prog (Op.equal t (.map (some b)) (.map none)) w with
    | ok v w1 =>
      rw [hr] at hq
      simp at hq
      obtain ⟨rfl, rfl⟩ := hq
      simp [execOp, ho, hXu, hYu, eqGuard, binOp, hr]
    | halt x w1 => rw [hr] at hq; simp at hq

theorem told_del (hS : Sim N w0 H0 S E a w H) (hd : ∀ t, o.dst = some t → t < N) {t kt e m key ri M f n} (ho : o.op = .call ⟨.builtin .delete, #[m, key], #[t, kt]⟩) (ht : Try.prog.underlying t = some (.map kt e)) (hkt : Try.prog.underlying kt = some (.int .i64))
    (hm : S.opd m = some (.own ri)) (hkey : S.opd key = some (.v (.int .i64 n))) (hg : getA S.O ri = some (.map kt M f)) (n1 : -9223372036854775808 ≤ n) (n2 : n ≤ 9223372036854775807)
    (hk : K ((S.setO ri (.map kt M fun j => if j = n then none else f j)).put? o.dst (.tup []))) : Told N w0 H0 o K a w := by
  have hMm := hS.opds [m] m (by simp) _ hm
  have hKk := hS.opds [key] key (by simp) _ hkey
  obtain ⟨b, oo, F, e1, e2, e3, e4, e5, e6, e7, e8⟩ := hS.ob _ _ hg
  have hXu : a.eval m = .map (some b) := by
    generalize a.eval m = qx at hMm
    cases hMm with
    | own hE _ => rw [hE] at e1; cases e1; rfl
  have hKu : a.eval key = .int .i64 n := by
    generalize a.eval key = qx at hKk
    cases hKk; rfl
  obtain ⟨D, hown, hf⟩ := e5.owns e4
  have hkk := int_keyed (P := Try.prog) hkt
  obtain ⟨w', hrun, r1, r2⟩ := hown.drop hkk ht (keyOf_int_mk (P := Try.prog) hkt (wf64 n1 n2)) o.type
  obtain ⟨o', r3, r4⟩ := MapOf.of_owns (f := fun j => if j = n then Option.none else F j) r1 (fun j => by
    by_cases e : j = n
    · subst e; rw [if_pos rfl, atKey_del_same]
    · rw [if_neg e, atKey_del_other (by intro h; exact e (by cases h; rfl)), hf j])
  obtain ⟨es1, c1, es2, c2, q1, rfl⟩ := r2
  have hbl : ∀ k, k < w.heap.size → k ≠ b → (ChangeMaps.setBlock w b (.map es2 c2)).heap[k]? = w.heap[k]? := fun k hk hne => by
    simp [ChangeMaps.setBlock, Array.getElem?_setIfInBounds_ne (Ne.symm hne)]
  have hU := hS.upd (w' := ChangeMaps.setBlock w b (.map es2 c2)) (o' := .map kt M fun j => if j = n then none else f j) ⟨_, hg, rfl⟩ e1 hbl (by simp [ChangeMaps.setBlock]) rfl rfl rfl
    ⟨b, o', _, e1, e2, e3, r3, r4, e6, fun j => ?_, fun j s u hs hu => ?_⟩ rfl
  · exact told_value' (v := .tuple #[]) (by simp [execOp, ho, resolve, hXu, hKu, invoke, builtin, hrun]) hd hU (.tup .nil) hk
  · by_cases hj : j = n <;> simp [hj, e7]
  · simp only at hs hu
    split at hs
    · cases hs
    · rename_i hj; rw [if_neg hj] at hu; exact e8 j s u hs hu

theorem told_del0 (hS : Sim N w0 H0 S E a w H) (hd : ∀ t, o.dst = some t → t < N) {t kt e m key n} (ho : o.op = .call ⟨.builtin .delete, #[m, key], #[t, kt]⟩) (ht : Try.prog.underlying t = some (.map kt e)) (hkt : Try.prog.underlying kt = some (.int .i64))
    (hm : S.opd m = some (.v (.map none))) (hkey : S.opd key = some (.v (.int .i64 n))) (n1 : -9223372036854775808 ≤ n) (n2 : n ≤ 9223372036854775807)
    (hk : K (S.put? o.dst (.tup []))) : Told N w0 H0 o K a w := by
  have hMm := hS.opds [m] m (by simp) _ hm
  have hKk := hS.opds [key] key (by simp) _ hkey
  have hXu : a.eval m = .map none := by
    generalize a.eval m = qx at hMm
    cases hMm; rfl
  have hKu : a.eval key = .int .i64 n := by
    generalize a.eval key = qx at hKk
    cases hKk; rfl
  have hrun : (Builtin.delete_ #[t, kt] o.type #[.map none, .int .i64 n]).run Try.prog w = .ok (.tuple #[]) w := by
    have hc := fun b => (int_keyed (P := Try.prog) hkt).check w b (keyOf_int_mk (P := Try.prog) hkt (wf64 n1 n2))
    simp [Builtin.delete_, run_underlying ht, hc]
  exact told_value' (v := .tuple #[]) (w' := w) (by simp [execOp, ho, resolve, hXu, hKu, invoke, builtin, hrun]) hd hS (.tup .nil) hk
end
end Go.Proofs.Ytfcjkchpldfamaa

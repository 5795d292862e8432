/-
  The shadow machine: the operations that write one's own memory are told rightly.
-/
import Derived.Test.YtfcjkchpldfamaaShA
namespace Go.Proofs.Ytfcjkchpldfamaa
set_option linter.unusedSimpArgs false
set_option linter.unusedVariables false
open Go.RowKit Go.Maps

theorem get_eq {α : Type} {l : List α} {i j : Nat} (h : i = j) : l[i]? = l[j]? := by rw [h]

/-- An operation in its order. -/
def Told (N : Nat) (w0 : World) (H0 : Hp) (o : Oper) (K : St → Prop) (a : Act) (w : World) : Prop :=
  o.wp Try.prog a w (fun a' w' => ∃ S' E' H', K S' ∧ Sim N w0 H0 S' E' a' w' H') NoQ

section
variable {N : Nat} {w0 w w' : World} {H0 H H' : Hp} {S : St} {E : Env} {a : Act} {o : Oper} {K : St → Prop}

theorem told_value (hS : Sim N w0 H0 S E a w H) (hd : ∀ t, o.dst = some t → t < N) {xs s} (hg : Good o S E xs s) (hk : K (S.put? o.dst s)) : Told N w0 H0 o K a w := by
  refine Oper.wp_post ?_ (hg w0.heap.size a w H hS.sub hS.ob (hS.opds xs))
  rintro a' w' ⟨v, H', rfl, g, r⟩
  exact ⟨_, E, H', hk, (hS.grown g).put r hd⟩

theorem told_box (hS : Sim N w0 H0 S E a w H) (hd : ∀ t, o.dst = some t → t < N) {t : TypeId} {cs : List Sh} {vs : List Value} (hc : RepL H E cs vs) (h1 : cs.all Sh.one = true)
    (he : (execOp a.eval o).run Try.prog w = .ok (.value (.pointer (some ⟨w.heap.size, 0, none⟩))) (w.alloc (.cells vs.toArray t))) (hk : K ((S.newO (.box t cs)).put? o.dst (.ptr S.n 0 0))) : Told N w0 H0 o K a w := by
  obtain ⟨E', h'⟩ := hS.newBox hc h1 hd
  unfold Told Oper.wp
  rw [he]
  exact ⟨_, E', H, hk, h'⟩

theorem told_alc (hS : Sim N w0 H0 S E a w H) (hd : ∀ t, o.dst = some t → t < N) {t i z} {zs : List ZSh} (ho : o.op = .alloc t) (hi : Try.prog.info? t = some i) (hz : i.zero = some z) (hzs : z.cells.toList = zs.map ZSh.val)
    (hk : K ((S.newO (.box t (zs.map ZSh.sh))).put? o.dst (.ptr S.n 0 0))) : Told N w0 H0 o K a w := by
  refine told_box hS hd (zs_rep H E zs) (zs_one zs) ?_ hk
  have e : (zs.map ZSh.val).toArray = z.cells := by rw [← hzs]
  rw [e]
  simp [execOp, ho, Instr.alloc, run_zero hi hz, newVar, newRow]

theorem told_bx (hS : Sim N w0 H0 S E a w H) (hd : ∀ t, o.dst = some t → t < N) {t x s} (ho : o.op = .box t x) (hx : S.opd x = some s) (h1 : s.cells.all Sh.one = true)
    (hk : K ((S.newO (.box t s.cells)).put? o.dst (.ptr S.n 0 0))) : Told N w0 H0 o K a w := by
  refine told_box hS hd (cells_rep (hS.opds [x] x (by simp) s hx) h1) h1 ?_ hk
  simp [execOp, ho, Instr.box, newVar, newRow]

theorem told_skip (he : (execOp a.eval o).run Try.prog w = .ok .skip w') (hd : o.dst = none) {S' : St} {E' : Env} {H' : Hp} (hS' : Sim N w0 H0 S' E' a w' H') (hk : K S') : Told N w0 H0 o K a w := by
  unfold Told Oper.wp
  rw [he, Oper.upon_skip, hd]
  exact ⟨S', E', H', hk, hS'⟩

theorem told_st1 (hS : Sim N w0 H0 S E a w H) (hd : o.dst = none) {t ti x y i idx off v t' cs} (ho : o.op = .store t x y) (hi : Try.prog.info? t = some ti) (hx : S.opd x = some (.ptr i idx off)) (hy : S.opd y = some v)
    (hg : getA S.O i = some (.box t' cs)) (hl : v.cells.length = ti.size) (h1 : v.cells.all Sh.one = true) (hb : off + ti.size ≤ cs.length)
    (hk : K (S.setO i (.box t' (cs.take off ++ v.cells ++ cs.drop (off + ti.size))))) : Told N w0 H0 o K a w := by
  have hX := hS.opds [x] x (by simp) _ hx
  have hY := hS.opds [y] y (by simp) _ hy
  generalize hqx : a.eval x = qx at hX
  generalize hqy : a.eval y = qy at hY
  cases hX with
  | ptr hE =>
    rename_i u' k' b
    obtain ⟨b', vs, e1, e2, e3, e4, e5, e6⟩ := hS.ob _ _ hg
    rw [hE] at e1; cases e1
    have hC := cells_rep hY h1
    have hcl := hC.length
    have hvl := e5.length
    rw [hl] at hcl
    simp only [Array.length_toList] at hcl
    have hbx : Box w b vs.toArray t' := e4
    have hrun := run_storeAt_box (P := Try.prog) t b vs.toArray t' hbx qy off (by rw [hi]; simp [hcl]) (by simp; omega) (fun u hu => hC.one h1 u hu)
    have hp : Put w b (vs.take off ++ qy.cells.toList ++ vs.drop (off + qy.cells.size)).toArray t' (w.setRow b (vs.take off ++ qy.cells.toList ++ vs.drop (off + qy.cells.size)).toArray) := put_setRow hbx
    have hU := hS.upd (o' := .box t' (cs.take off ++ v.cells ++ cs.drop (off + ti.size))) ⟨_, hg, rfl⟩ hE (fun k _ hk => hp.same k hk) (by rw [hp.size]; exact Nat.le_refl _) hp.os hp.tape hp.output
      ⟨b, vs.take off ++ qy.cells.toList ++ vs.drop (off + qy.cells.size), hE, e2, e3, hp.box, ((e5.take off).append hC).append (by rw [hcl]; exact e5.drop _), all_fill e6 h1⟩ rfl
    refine told_skip ?_ hd hU hk
    simp only [List.toList_toArray] at hrun
    simp [execOp, ho, hqx, hqy, hrun]

theorem told_st2 (hS : Sim N w0 H0 S E a w H) (hd : o.dst = none) {t ti x y i idx off v v' e kk es c} (ho : o.op = .store t x y) (hi : Try.prog.info? t = some ti) (hx : a.eval x = a.eval x) (hX : Rep H E (.ptr i idx off) (a.eval x)) (hY : Rep H E v (a.eval y)) (hv : S.arg v = some v')
    (hg : getA S.O i = some (.row e kk es)) (hl : v'.cells.length = ti.size) (h1 : v'.cells.all Sh.one = true) (hp : v'.cells.all Sh.pure = true) (hc : es[idx]? = some c) (hb : off + ti.size ≤ c.length)
    (hk : K (S.setO i (.row e kk (es.set idx (c.take off ++ v'.cells ++ c.drop (off + ti.size)))))) : Told N w0 H0 o K a w := by
  have hV := arg_rep hS.ob hY hv
  generalize hqx : a.eval x = qx at hX
  generalize hqy : a.eval y = qy at hV
  have hC := cells_rep hV h1
  have hcl := hC.length
  rw [hl] at hcl
  simp only [Array.length_toList] at hcl
  cases hX with
  | ptr hE =>
    rename_i u' k' g
    obtain ⟨u, ob, xs, e1, hkp, e2, e3⟩ := hS.ob _ _ hg
    rw [hE] at e1; cases e1
    rcases e3 with ⟨rfl, _⟩ | ⟨g', cap, cur, a1, rfl, a3, a4, a5, a6, a7, a7', a8, a9⟩
    · simp at hc
    cases a1
    have hil := (List.getElem?_eq_some_iff.1 hc).1
    obtain ⟨vs, c1, c2, c3, c4⟩ := e2.get hc
    have hvl := c2.length
    have hm : (idx + 1) * kk ≤ es.length * kk := Nat.mul_le_mul_right kk hil
    have hm2 : es.length * kk ≤ cap * kk := Nat.mul_le_mul_right kk a6
    rw [Nat.add_mul, Nat.one_mul] at hm
    have hbx : Box w g cur e := a5
    have hrun := run_storeAt_box (P := Try.prog) t g cur e hbx qy (idx * kk + off) (by rw [hi]; simp [hcl]) (by omega) (fun u hu => hC.one h1 u hu)
    obtain ⟨cur', hcur'⟩ : ∃ cur', cur' = (cur.toList.take (idx * kk + off) ++ qy.cells.toList ++ cur.toList.drop (idx * kk + off + qy.cells.size)) := ⟨_, rfl⟩
    rw [← hcur'] at hrun
    have hp' : Put w g cur'.toArray e (w.setRow g cur'.toArray) := put_setRow hbx
    have hlen : cur'.length = cur.size := by rw [hcur']; simp; omega
    have hnew : RepL H E0 (c.take off ++ v'.cells ++ c.drop (off + ti.size)) (vs.take off ++ qy.cells.toList ++ vs.drop (off + ti.size)) :=
      ((c2.take off).append (hC.pure E0 hp)).append (c2.drop _)
    have hU := hS.upd (o' := .row e kk (es.set idx (c.take off ++ v'.cells ++ c.drop (off + ti.size)))) ⟨_, hg, rfl⟩ hE (fun k _ hk => hp'.same k hk) (by rw [hp'.size]; exact Nat.le_refl _) hp'.os hp'.tape hp'.output
      ⟨_, some g, cur'.take (es.length * kk), hE, hkp, RepEs.of_get _ _ (by rw [List.length_take, hlen, List.length_set, a8]; exact Nat.min_eq_left hm2) (fun j e' he' => ?_), .inr ⟨g, cap, cur'.toArray, rfl, by simp, a3, a4, hp'.box, by simpa using a6, a7, fun e => a7' (by simpa using e), by simp [hlen, a8], by simp⟩⟩ rfl
    · refine told_skip ?_ hd hU hk
      simp [execOp, ho, hqx, hqy, hrun]
    · have hjl : j < es.length := by have := (List.getElem?_eq_some_iff.1 he').1; simpa using this
      have hmj : (j + 1) * kk ≤ es.length * kk := Nat.mul_le_mul_right kk hjl
      rw [Nat.add_mul, Nat.one_mul] at hmj
      by_cases hji : idx = j
      · subst hji
        rw [List.getElem?_set_self hil] at he'
        cases he'
        refine ⟨_, by simp; omega, hnew, all_fill c3 h1, fun q uu hq => ?_⟩
        have hql := (List.getElem?_eq_some_iff.1 hq).1
        simp at hql
        rw [List.getElem?_take, if_pos (by omega), hcur']
        have hold : ∀ q', q' < kk → cur.toList[idx * kk + q']? = vs[q']? := fun q' hq' => by
          have := c4 q' vs[q'] (by simp)
          rw [← a9, List.getElem?_take, if_pos (by omega)] at this
          rw [this]; simp
        rcases Nat.lt_or_ge q off with h' | h'
        · rw [List.append_assoc, List.getElem?_append_left (by simp; omega), List.getElem?_take, if_pos (by omega), hold q (by omega)]
          rw [List.append_assoc, List.getElem?_append_left (by simp; omega), List.getElem?_take, if_pos h'] at hq
          exact hq
        rcases Nat.lt_or_ge q (off + ti.size) with h2 | h2
        · rw [List.append_assoc, List.getElem?_append_right (by simp; omega), List.getElem?_append_left (by simp; omega)]
          rw [List.append_assoc, List.getElem?_append_right (by simp; omega), List.getElem?_append_left (by simp; omega)] at hq
          rw [← hq]; exact get_eq (by simp; omega)
        · rw [List.getElem?_append_right (by simp; omega), List.getElem?_drop]
          rw [List.getElem?_append_right (by simp; omega), List.getElem?_drop] at hq
          have e9 : idx * kk + off + qy.cells.size + (idx * kk + q - (cur.toList.take (idx * kk + off) ++ qy.cells.toList).length) = idx * kk + q := by simp; omega
          rw [e9, hold q (by omega), ← hq]
          exact get_eq (by simp; omega)
      · rw [List.getElem?_set_ne hji] at he'
        obtain ⟨vs', d1, d2, d3, d4⟩ := e2.get he'
        refine ⟨vs', d1, d2, d3, fun q uu hq => ?_⟩
        have hql := (List.getElem?_eq_some_iff.1 hq).1
        have hd4 := d4 q uu hq
        rw [← a9, List.getElem?_take, if_pos (by omega)] at hd4
        rw [List.getElem?_take, if_pos (by omega), hcur', ← hd4]
        rcases Nat.lt_or_ge j idx with hlt | hgt
        · have := Nat.mul_le_mul_right kk (show j + 1 ≤ idx from hlt)
          rw [Nat.add_mul, Nat.one_mul] at this
          rw [List.append_assoc, List.getElem?_append_left (by simp; omega), List.getElem?_take, if_pos (by omega)]
        · have := Nat.mul_le_mul_right kk (show idx + 1 ≤ j by omega)
          rw [Nat.add_mul, Nat.one_mul] at this
          rw [List.getElem?_append_right (by simp; omega), List.getElem?_drop]
          exact get_eq (by simp; omega)
end
end Go.Proofs.Ytfcjkchpldfamaa

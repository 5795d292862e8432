/-
  The shadow machine: lists of operations that are gone through in their order.
-/
import Derived.Test.YtfcjkchpldfamaaShCm
namespace Go.Proofs.Ytfcjkchpldfamaa
set_option linter.unusedSimpArgs false
set_option linter.unusedVariables false
open Go.RowKit Go.Maps

section
variable {N : Nat} {w0 w w' : World} {H0 H H' : Hp} {S : St} {E : Env} {a : Act} {o : Oper} {K : St → Prop}

theorem Sim.opd (hS : Sim N w0 H0 S E a w H) {x : Operand} {s : Sh} (h : S.opd x = some s) : Rep H E s (a.eval x) := hS.opds [x] x (by simp) s h

theorem told_evA (hS : Sim N w0 H0 S E a w H) (hd : ∀ t, o.dst = some t → t < N) {op so} (ho : o.op = op) (hm : OpM op so) (h : evA so S fun s => K (S.put? o.dst s)) : Told N w0 H0 o K a w := by
  obtain ⟨s, hk, hg⟩ := evA_sound (E := E) ho hm h
  exact told_value hS hd hg hk

theorem evOp_sound (hS0 : Sim N w0 H0 S E a w H) (hd : ∀ t, o.dst = some t → t < N) {op so} (ho : o.op = op) (hm : OpM op so) (h : evOp o.dst so S K) : Told N w0 H0 o K a w := by
  obtain ⟨H1, _, hS⟩ := hS0.frzOpds so.pures
  have hA : evA so (S.frzOpds so.pures) (fun s => K ((S.frzOpds so.pures).put? o.dst s)) → Told N w0 H0 o K a w := fun h => told_evA hS hd ho hm h
  cases hm with
  | alc h1 h2 h3 => exact told_alc hS hd ho h1 h2 h3 h
  | box =>
    obtain ⟨s, hs, h1, h⟩ := oB_elim h
    exact told_bx hS hd ho hs h1 h
  | st h1 =>
    obtain ⟨hdn, h⟩ := h
    obtain ⟨s, hs, h⟩ := oB_elim h
    obtain ⟨v, hv, h⟩ := oB_elim h
    cases s with
    | ptr i idx off =>
      simp only at h
      split at h
      · rename_i t cs hg
        obtain ⟨a1, a2, a3, h⟩ := h
        exact told_st1 hS hdn ho h1 hs hv hg a1 a2 a3 h
      · obtain ⟨v', hv', h⟩ := oB_elim h
        obtain ⟨a1, a2, a3, h⟩ := h
        have hX := hS.opd hs
        have hY := hS.opd hv
        obtain ⟨H2, l2, hS2⟩ := hS.frzSh v
        split at h
        · rename_i e kk es hg
          obtain ⟨c, hc, a4, h⟩ := oB_elim h
          exact told_st2 hS2 hdn ho h1 rfl (hX.mono l2 (ELe.refl _)) (hY.mono l2 (ELe.refl _)) hv' hg a1 a2 a3 hc a4 h
        · exact h.elim
      · exact h.elim
    | _ => exact h.elim
  | mks h1 h2 h3 h4 h5 h6 =>
    obtain ⟨s, hs, h⟩ := oB_elim h
    cases s with
    | v q => cases q with
      | int kf m => obtain ⟨a1, a2, a3, h⟩ := h; exact told_mks hS hd ho h1 h2 h3 h4 h5 h6 hs a1 a2 a3 h
      | _ => exact h.elim
    | _ => exact h.elim
  | mkm h1 h2 => exact told_mkm hS hd ho h
  | app h1 h2 h3 h4 h5 =>
    obtain ⟨s, hs, h⟩ := oB_elim h
    obtain ⟨j, hj, h⟩ := oB_elim h
    cases s with
    | sl k1 full xs =>
      cases j with
      | sl k2 f2 ys => obtain ⟨rfl, rfl, bg, b0, b1, b2, h⟩ := h; exact told_app2 hS hd ho h1 h2 h3 h4 h5 (hS.opd hs) bg hj rfl b0 b1 b2 h
      | _ => exact h.elim
    | own i =>
      cases j with
      | sl k2 f2 ys =>
        simp only at h
        split at h
        · rename_i e' k1 es hg
          obtain ⟨rfl, rfl, rfl, b1, b2, h⟩ := h
          exact told_app1 hS hd ho h1 h2 h3 h4 h5 hs hg hj rfl b1 b2 h
        · exact h.elim
      | _ => exact h.elim
    | _ => exact h.elim
  | cpy h1 h2 =>
    obtain ⟨s, hs, h⟩ := oB_elim h
    obtain ⟨j, hj, h⟩ := oB_elim h
    cases s with
    | own i =>
      cases j with
      | sl k2 f2 ys =>
        simp only at h
        split at h
        · rename_i e' k1 es hg
          obtain ⟨rfl, rfl, h⟩ := h
          exact told_cpy hS hd ho h1 h2 hs hg hj rfl h
        · exact h.elim
      | _ => exact h.elim
    | _ => exact h.elim
  | mup h1 h2 =>
    obtain ⟨hdn, h⟩ := h
    obtain ⟨s, hs, h⟩ := oB_elim h
    obtain ⟨j, hj, h⟩ := oB_elim h
    obtain ⟨v, hv, h⟩ := oB_elim h
    cases s with
    | own i =>
      cases j with
      | v q =>
        cases q with
        | int kf n =>
          cases kf with
          | i64 =>
            simp only at h
            split at h
            · rename_i kt' M f hg
              obtain ⟨rfl, b1, b2, b3, h⟩ := h
              rcases h with h | ⟨M', hM', h⟩
              · exact told_mup hS hdn ho h1 h2 hs hj hv hg b1 b2 b3 (.inl rfl) h
              · exact told_mup hS hdn ho h1 h2 hs hj hv hg b1 b2 b3 (.inr hM') h
            · exact h.elim
          | _ => exact h.elim
        | _ => exact h.elim
      | _ => exact h.elim
    | _ => exact h.elim
  | lenm h1 h2 =>
    obtain ⟨s, hs, h⟩ := oB_elim h
    cases s with
    | mp kt' f => obtain ⟨hkk, k0, k1⟩ := h; exact told_lenm hS hd ho h1 h2 hs k0 k1 (by rw [hkk]; exact h2)
    | _ => exact h.elim
  | call h1 h2 h3 =>
    have go : ∀ {S : St} {E : Env} {H : Hp}, Sim N w0 H0 S E a w H → evCall _ _ S o.dst K → Told N w0 H0 o K a w := fun hS h => by
      rcases h with h | h
      · exact told_evA hS hd ho (.call h1 h2 h3) h
      · obtain ⟨l, hl, h⟩ := oB_elim h
        rcases h with ⟨e, k, es, hr, hk⟩ | ⟨kt, M, g, hr, hk, hk2⟩
        · exact told_row hS hd ho (callFunc_enter h1 h2 h3) hl hr hk
        · exact told_map hS hd ho (callFunc_enter h1 h2 h3) hl hr hk hk2
    rcases h with h | ⟨cs, h⟩
    · exact go hS h
    · obtain ⟨E2, hS2⟩ := hS0.casts cs
      obtain ⟨H2, _, hS3⟩ := hS2.frzOpds _
      exact go hS3 h
  | @eqv t x y t2 =>
    rcases h with h | h
    · exact hA h
    · obtain ⟨s, hs, h⟩ := oB_elim h
      obtain ⟨j, hj, h⟩ := oB_elim h
      cases s with
      | own i =>
        cases j with
        | v q =>
          cases q with
          | map p =>
            cases p with
            | none =>
              simp only at h
              split at h
              · rename_i kt M f hg
                obtain ⟨⟨kt', e, hu⟩, h⟩ := h
                exact told_eqo (neg := false) hS hd ho hu hs hj hg h
              · exact h.elim
            | _ => exact h.elim
          | _ => exact h.elim
        | _ => exact h.elim
      | _ => exact h.elim
  | @neqv t x y t2 =>
    rcases h with h | h
    · exact hA h
    · obtain ⟨s, hs, h⟩ := oB_elim h
      obtain ⟨j, hj, h⟩ := oB_elim h
      cases s with
      | own i =>
        cases j with
        | v q =>
          cases q with
          | map p =>
            cases p with
            | none =>
              simp only at h
              split at h
              · rename_i kt M f hg
                obtain ⟨⟨kt', e, hu⟩, h⟩ := h
                exact told_eqo (neg := true) hS hd ho hu hs hj hg h
              · exact h.elim
            | _ => exact h.elim
          | _ => exact h.elim
        | _ => exact h.elim
      | _ => exact h.elim
  | del h1 h2 =>
    obtain ⟨s, hs, h⟩ := oB_elim h
    obtain ⟨j, hj, h⟩ := oB_elim h
    cases s with
    | own i =>
      cases j with
      | v q =>
        cases q with
        | int kf n =>
          cases kf with
          | i64 =>
            simp only at h
            split at h
            · rename_i kt' M f hg
              obtain ⟨rfl, b2, b3, h⟩ := h
              exact told_del hS hd ho h1 h2 hs hj hg b2 b3 h
            · exact h.elim
          | _ => exact h.elim
        | _ => exact h.elim
      | _ => exact h.elim
    | v p =>
      cases p with
      | map pm =>
        cases pm with
        | none =>
          cases j with
          | v q =>
            cases q with
            | int kf n =>
              cases kf with
              | i64 => obtain ⟨b2, b3, h⟩ := h; exact told_del0 hS hd ho h1 h2 hs hj b2 b3 h
              | _ => exact h.elim
            | _ => exact h.elim
          | _ => exact h.elim
        | some b => cases j with
          | v q => cases q with
            | int kf n => cases kf <;> exact h.elim
            | _ => exact h.elim
          | _ => exact h.elim
      | _ => cases j with
        | v q => cases q with
          | int kf n => cases kf <;> exact h.elim
          | _ => exact h.elim
        | _ => exact h.elim
    | _ => exact h.elim
  | rng h1 h2 =>
    obtain ⟨s, hs, h⟩ := oB_elim h
    cases s with
    | mp kt' f => obtain ⟨rfl, h⟩ := h; exact told_rng hS hd ho h1 h2 hs h
    | _ => exact h.elim
  | nxt =>
    obtain ⟨s, hs, h⟩ := oB_elim h
    cases s with
    | own i =>
      simp only at h
      split at h
      · rename_i f left cnt cur hg
        exact told_nxt hS hd ho hs hg h.1 h.2
      · exact h.elim
    | _ => exact h.elim
  | ent =>
    obtain ⟨s, hs, h⟩ := oB_elim h
    cases s with
    | own i =>
      simp only at h
      split at h
      · rename_i f left cnt j s hg
        exact told_ent hS hd ho hs hg h
      · exact h.elim
    | _ => exact h.elim
  | _ => exact hA h
end
end Go.Proofs.Ytfcjkchpldfamaa

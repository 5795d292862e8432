/-
  The shadow machine: every operation that writes nothing of one's own is told rightly.
-/
import Derived.Test.YtfcjkchpldfamaaSh7
namespace Go.Proofs.Ytfcjkchpldfamaa
set_option linter.unusedSimpArgs false
set_option linter.unusedVariables false
open Go.RowKit Go.Maps

theorem evA_sound {o : Oper} {S : St} {E : Env} {op : Op} {so : SOp} {k : Sh → Prop} (ho : o.op = op) (hm : OpM op so) (h : evA so S k) : ∃ s, k s ∧ Good o S E so.opds s := by
  cases hm with
  | mv => obtain ⟨s, hs, hk⟩ := oB_elim h; exact ⟨s, hk, good_mv (.inl ho) hs⟩
  | asg => obtain ⟨s, hs, hk⟩ := oB_elim h; exact ⟨s, hk, good_mv (.inr ho) hs⟩
  | ldA h1 h2 h3 =>
    obtain ⟨s, hs, h⟩ := oB_elim h
    obtain ⟨⟨cs, off⟩, ha, h⟩ := oB_elim h
    exact good_ld ho h1 (.inl ⟨h2, _, h3, rfl⟩) hs ha h
  | ld1 h1 h2 =>
    obtain ⟨s, hs, h⟩ := oB_elim h
    obtain ⟨⟨cs, off⟩, ha, h⟩ := oB_elim h
    exact good_ld ho h1 (.inr ⟨h2, rfl⟩) hs ha h
  | fa h1 h2 h3 h4 =>
    obtain ⟨s, hs, h⟩ := oB_elim h
    cases s with
    | ptr i idx o' => exact ⟨_, h, good_fa ho h1 h2 h3 h4 hs (.inl ⟨_, _, _, rfl, rfl⟩)⟩
    | fp e o' => exact ⟨_, h, good_fa ho h1 h2 h3 h4 hs (.inr ⟨_, _, rfl, rfl⟩)⟩
    | _ => exact h.elim
  | fldA h1 h2 h3 h4 h5 =>
    obtain ⟨s, hs, h⟩ := oB_elim h
    cases s with
    | agg cs => exact good_fld ho h1 h2 h4 (.inl ⟨h5, _, h3, rfl⟩) hs h
    | _ => exact h.elim
  | fld1 h1 h2 h4 h5 =>
    obtain ⟨s, hs, h⟩ := oB_elim h
    cases s with
    | agg cs => exact good_fld ho h1 h2 h4 (.inr ⟨h5, rfl⟩) hs h
    | _ => exact h.elim
  | ixa h1 h2 h3 =>
    obtain ⟨s, hs, h⟩ := oB_elim h
    obtain ⟨j, hj, h⟩ := oB_elim h
    cases s with
    | sl k' full es =>
      cases j with
      | v q =>
        cases q with
        | int kf n =>
          obtain ⟨rfl, h0, h⟩ := h
          obtain ⟨e, he, h⟩ := oB_elim h
          exact ⟨_, h, good_ixa1 ho h1 h2 h3 hs hj h0 he⟩
        | _ => exact h.elim
      | _ => exact h.elim
    | own ri =>
      cases j with
      | v q =>
        cases q with
        | int kf n =>
          simp only at h
          split at h
          · rename_i et k' es hg
            obtain ⟨rfl, h0, hl, h⟩ := h
            exact ⟨_, h, good_ixa2 ho h1 h2 hs hg hj h0 hl⟩
          · exact h.elim
        | _ => exact h.elim
      | _ => exact h.elim
    | _ => exact h.elim
  | ixp h1 h2 =>
    obtain ⟨s, hs, h⟩ := oB_elim h
    obtain ⟨j, hj, h⟩ := oB_elim h
    cases s with
    | ptr i idx o' =>
      cases j with
      | v q =>
        cases q with
        | int kf n => obtain ⟨h0, hl, h⟩ := h; exact ⟨_, h, good_ixp ho h1 h2 hs hj h0 hl (.inl ⟨_, _, _, rfl, rfl⟩)⟩
        | _ => exact h.elim
      | _ => exact h.elim
    | fp e o' =>
      cases j with
      | v q =>
        cases q with
        | int kf n => obtain ⟨h0, hl, h⟩ := h; exact ⟨_, h, good_ixp ho h1 h2 hs hj h0 hl (.inr ⟨_, _, rfl, rfl⟩)⟩
        | _ => exact h.elim
      | _ => exact h.elim
    | _ => exact h.elim
  | bld h1 h2 h3 h4 h5 => obtain ⟨cs, hc, h⟩ := oB_elim h; exact ⟨_, h, good_bld ho h1 h2 h3 h4 h5 hc⟩
  | bsl h1 h2 h3 h4 h5 h6 h7 => obtain ⟨cs, hc, _, h⟩ := oB_elim h; exact ⟨_, h, good_bsl ho h1 h2 h3 h4 h5 h6 h7 hc⟩
  | @slc t e i x lo hi mx h1 h2 =>
    obtain ⟨s, hs, h⟩ := oB_elim h
    cases s with
    | sl kk full es =>
      obtain ⟨rfl, h⟩ := h
      obtain ⟨l, hl, h⟩ := oB_elim h
      obtain ⟨hh, hhh, h⟩ := oB_elim h
      obtain ⟨c1, c2, c3, h⟩ := h
      cases mx with
      | none => exact ⟨_, h, good_slc ho h1 h2 hs hl hhh c1 c2 c3 (.inl ⟨rfl, rfl⟩)⟩
      | some om =>
        obtain ⟨j, hj, h⟩ := oB_elim h
        cases j with
        | v q =>
          cases q with
          | int kf n =>
            obtain ⟨rfl, e2, h⟩ := h
            exact ⟨_, h, good_slc ho h1 h2 hs hl hhh c1 c2 c3 (.inr ⟨om, rfl, by simp [hj], e2, rfl⟩)⟩
          | _ => exact h.elim
        | _ => exact h.elim
    | _ => exact h.elim
  | len h1 =>
    obtain ⟨s, hs, h⟩ := oB_elim h
    cases s with
    | sl kk full es => exact ⟨_, h, good_len ho h1 hs (.inl ⟨_, _, _, rfl, rfl⟩)⟩
    | own i =>
      simp only at h
      split at h
      · rename_i et k' es hg; exact ⟨_, h, good_len ho h1 hs (.inr ⟨_, _, _, _, rfl, hg, rfl⟩)⟩
      · exact h.elim
    | _ => exact h.elim
  | lkp h1 h2 h3 h4 =>
    obtain ⟨s, hs, h⟩ := oB_elim h
    obtain ⟨j, hj, h⟩ := oB_elim h
    cases s with
    | mp kt' f =>
      cases j with
      | v q =>
        cases q with
        | int kf n =>
          cases kf with
          | i64 => obtain ⟨rfl, n1, n2, h⟩ := h; exact ⟨_, h, good_lkp ho h1 h2 h3 h4 hs hj n1 n2⟩
          | _ => exact h.elim
        | _ => exact h.elim
      | _ => exact h.elim
    | own ri =>
      cases j with
      | v q =>
        cases q with
        | int kf n =>
          cases kf with
          | i64 =>
            simp only at h
            split at h
            · rename_i kt' M f hg
              obtain ⟨rfl, n1, n2, h⟩ := h
              exact ⟨_, h, good_lkp2 ho h1 h2 h3 h4 hs hg hj n1 n2⟩
            · exact h.elim
          | _ => exact h.elim
        | _ => exact h.elim
      | _ => exact h.elim
    | _ => exact h.elim
  | ext =>
    obtain ⟨s, hs, h⟩ := oB_elim h
    cases s with
    | tup cs => obtain ⟨r, hr, h⟩ := oB_elim h; exact ⟨_, h, good_ext ho hs hr⟩
    | _ => exact h.elim
  | bin =>
    obtain ⟨s, hs, h⟩ := oB_elim h
    obtain ⟨j, hj, h⟩ := oB_elim h
    cases s with
    | v p =>
      cases j with
      | v q =>
        cases p with
        | int k1 x1 =>
          cases q with
          | int k2 y1 => obtain ⟨rfl, h⟩ := h; obtain ⟨r, hr, h⟩ := oB_elim h; exact ⟨_, h, good_bin ho hs hj hr⟩
          | _ => exact h.elim
        | _ => exact h.elim
      | _ => cases p <;> exact h.elim
    | _ => exact h.elim
  | eqv =>
    obtain ⟨s, hs, h⟩ := oB_elim h
    obtain ⟨j, hj, b, hb, h⟩ := oB_elim h
    exact ⟨_, h, good_eqv (neg := false) ho hs hj hb⟩
  | neqv =>
    obtain ⟨s, hs, h⟩ := oB_elim h
    obtain ⟨j, hj, b, hb, h⟩ := oB_elim h
    exact ⟨_, h, good_eqv (neg := true) ho hs hj hb⟩
  | not =>
    obtain ⟨s, hs, h⟩ := oB_elim h
    cases s with
    | v q => cases q with
      | bool b => exact ⟨_, h, good_not ho hs⟩
      | _ => exact h.elim
    | _ => exact h.elim
  | cnv h1 h2 =>
    obtain ⟨s, hs, h⟩ := oB_elim h
    cases s with
    | v q => cases q with
      | int kf n => exact ⟨_, h, good_cnv ho h1 h2 hs⟩
      | _ => exact h.elim
    | _ => exact h.elim
  | call h1 h2 h3 =>
    obtain ⟨l, hl, r, hr, h⟩ := oB_elim h
    exact ⟨_, h, good_call ho (callFunc_enter h1 h2 h3) hl hr⟩
  | callv =>
    obtain ⟨s, hs, h⟩ := oB_elim h
    obtain ⟨l, hl, h⟩ := oB_elim h
    cases s with
    | fn f first cap =>
      cases f with
      | func f => obtain ⟨hE, r, hr, h⟩ := h; exact ⟨_, h, good_callv ho hs hE hl hr⟩
      | _ => exact h.elim
    | _ => exact h.elim
  | mkf =>
    obtain ⟨a, ha, h⟩ := oB_elim h
    obtain ⟨b, hb, h⟩ := oB_elim h
    exact ⟨_, h, good_mkf ho ha hb⟩
  | mki h1 h2 => obtain ⟨s, hs, h⟩ := oB_elim h; exact ⟨_, h, good_mki ho h1 h2 hs⟩
  | pick =>
    obtain ⟨s, hs, h⟩ := oB_elim h
    cases s with
    | v q => cases q with
      | bool b => obtain ⟨r, hr, h⟩ := oB_elim h; obtain ⟨h1, h2⟩ := pickO_spec hr; exact ⟨_, h, good_pick ho hs h1 h2⟩
      | _ => exact h.elim
    | _ => exact h.elim
  | max =>
    obtain ⟨s, hs, h⟩ := oB_elim h
    obtain ⟨j, hj, h⟩ := oB_elim h
    cases s with
    | v p =>
      cases j with
      | v q =>
        cases p with
        | int k1 x1 =>
          cases q with
          | int k2 y1 => obtain ⟨rfl, h⟩ := h; exact ⟨_, h, good_mm (mx := true) ho hs hj⟩
          | _ => exact h.elim
        | _ => exact h.elim
      | _ => cases p <;> exact h.elim
    | _ => exact h.elim
  | min =>
    obtain ⟨s, hs, h⟩ := oB_elim h
    obtain ⟨j, hj, h⟩ := oB_elim h
    cases s with
    | v p =>
      cases j with
      | v q =>
        cases p with
        | int k1 x1 =>
          cases q with
          | int k2 y1 => obtain ⟨rfl, h⟩ := h; exact ⟨_, h, good_mm (mx := false) ho hs hj⟩
          | _ => exact h.elim
        | _ => exact h.elim
      | _ => cases p <;> exact h.elim
    | _ => exact h.elim
  | nck =>
    obtain ⟨s, hs, h⟩ := oB_elim h
    cases s with
    | ptr i idx o' => exact ⟨_, h, good_nck ho hs (.inl ⟨_, _, _, rfl⟩)⟩
    | fp e o' => exact ⟨_, h, good_nck ho hs (.inr (.inl ⟨_, _, rfl⟩))⟩
    | fn f a b => cases f with
      | func f => exact ⟨_, h, good_nck ho hs (.inr (.inr ⟨_, _, _, rfl⟩))⟩
      | _ => exact h.elim
    | _ => exact h.elim
  | mks h1 h2 h3 h4 h5 h6 =>
    obtain ⟨s, hs, h⟩ := oB_elim h
    cases s with
    | v q => cases q with
      | int kf m => obtain ⟨a1, a2, a3, h⟩ := h; exact ⟨_, h, good_mks ho h1 h2 h3 h4 h5 h6 hs a1 a2 a3⟩
      | _ => exact h.elim
    | _ => exact h.elim
  | mkm h1 h2 => exact ⟨_, h, good_mkm ho⟩
  | app h1 h2 h3 h4 h5 =>
    obtain ⟨s, hs, h⟩ := oB_elim h
    obtain ⟨j, hj, h⟩ := oB_elim h
    cases s with
    | sl k1 full xs =>
      cases j with
      | sl k2 f2 ys => obtain ⟨rfl, rfl, bg, b0, b1, b2, h⟩ := h; exact ⟨_, h, good_app ho h1 h2 h3 h4 h5 hs bg hj rfl b0 b1 b2⟩
      | _ => exact h.elim
    | _ => exact h.elim
  | _ => exact h.elim
end Go.Proofs.Ytfcjkchpldfamaa

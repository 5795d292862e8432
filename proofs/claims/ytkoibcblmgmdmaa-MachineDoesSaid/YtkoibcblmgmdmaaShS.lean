/-
  The shadow machine: functions that are handed parts of their caller's own memory.
-/
import Derived.Test.YtkoibcblmgmdmaaMC
namespace Go.Proofs.Ytkoibcblmgmdmaa
set_option linter.unusedSimpArgs false
set_option linter.unusedVariables false
open Go.RowKit Go.Maps

/-- The end of such a function: of the parts those of the list ks are told, in its order. -/
def finK (rvs : List RV) (n : Nat) (J : Hp → Env → Prop) (P : (Hp → Env → Prop) → Sh → List (Nat × Ob) → Nat → Prop) (e : Ex) (S : St) : Prop :=
  match e with
  | .exit _ => False
  | _ => oB ((S.frzRets rvs).retL rvs) fun l => ∃ ks n2, (S.frzRets rvs).n ≤ n2 ∧ getA (keepT (S.frzRets rvs).O ks) n = some (.gh J) ∧ P J (ret1 l) (keepT (S.frzRets rvs).O ks) n2
def evFnO (sc : SC) (rvs : List RV) (args : List Sh) (O : List (Nat × Ob)) (n : Nat) (P : (Hp → Env → Prop) → Sh → List (Nat × Ob) → Nat → Prop) (J : Hp → Env → Prop) : Prop := ev sc ⟨argT 0 args, (n, .gh J) :: O, n + 1⟩ (finK rvs n J P)
theorem finK_ret {rvs : List RV} {n : Nat} {J : Hp → Env → Prop} {P : (Hp → Env → Prop) → Sh → List (Nat × Ob) → Nat → Prop} {S : St} (ks : List Nat) (n2 : Nat) {l : List Sh} (h1 : (S.frzRets rvs).retL rvs = some l) (h2 : (S.frzRets rvs).n ≤ n2) (h3 : getA (keepT (S.frzRets rvs).O ks) n = some (.gh J))
    (h4 : P J (ret1 l) (keepT (S.frzRets rvs).O ks) n2) : finK rvs n J P .ret S := by
  show oB _ _
  rw [h1]; exact ⟨ks, n2, h2, h3, h4⟩
theorem finK_next {rvs : List RV} {n : Nat} {J : Hp → Env → Prop} {P : (Hp → Env → Prop) → Sh → List (Nat × Ob) → Nat → Prop} {S : St} (ks : List Nat) (n2 : Nat) {l : List Sh} (h1 : (S.frzRets rvs).retL rvs = some l) (h2 : (S.frzRets rvs).n ≤ n2) (h3 : getA (keepT (S.frzRets rvs).O ks) n = some (.gh J))
    (h4 : P J (ret1 l) (keepT (S.frzRets rvs).O ks) n2) : finK rvs n J P .next S := by
  show oB _ _
  rw [h1]; exact ⟨ks, n2, h2, h3, h4⟩
theorem okO_of_ev2 {f : FuncId} {fn : Func} {c : Code} {sc : SC} {rvs : List RV} {args : List Sh} {O : List (Nat × Ob)} {n : Nat} {P : (Hp → Env → Prop) → Sh → List (Nat × Ob) → Nat → Prop} (hf : Try.prog.funcs[f]? = some fn) (hb : fn.body = some c) (hm : Try.prog.follows .mixedOrders = true) (hc : CM fn.ntmps c sc) (hr : RVMs fn.results.toList rvs)
    (hn : args.length ≤ fn.ntmps) (h : ∀ J, evFnO sc rvs args O n P J) : OkO f args O n P := by
  intro J N w0 H0 E a w H vs hS0 hv
  have hl := hv.length
  refine calls_of_wp hf hb ?_
  have hS : Sim fn.ntmps w0 H0 ⟨argT 0 args, (n, .gh J) :: O, n + 1⟩ E { tmps := vs.toArray ++ Array.replicate (fn.ntmps - vs.toArray.size) undef, defers := [] } w H := by
    refine ⟨hS0.grow, fun t x hx => ?_, hS0.ob, hS0.ap, hS0.fr, (by simp; omega), rfl⟩
    obtain ⟨u, hu, _, hR⟩ := argT_get args vs 0 t x hv hx
    have ht : t < vs.length := by have := (List.getElem?_eq_some_iff.1 hu).1; simpa using this
    have e : (vs.toArray ++ Array.replicate (fn.ntmps - vs.toArray.size) undef)[t]? = some u := by
      rw [Array.getElem?_append_left (by simpa using ht)]; simpa using hu
    have e2 : ({ tmps := vs.toArray ++ Array.replicate (fn.ntmps - vs.toArray.size) undef, defers := [] } : Act).eval (.tmp t) = u := by
      simp only [Act.eval, Array.getD_eq_getD_getElem?, e, Option.getD_some]
    rw [e2]; exact hR
  refine wp_mono (ev_sound (K := finK rvs n J P) hm hc (h J) hS) ?_
  intro e a' w' hq
  have fin' : End fn.ntmps w0 H0 (fun S => oB ((S.frzRets rvs).retL rvs) fun l => ∃ ks n2, (S.frzRets rvs).n ≤ n2 ∧ getA (keepT (S.frzRets rvs).O ks) n = some (.gh J) ∧ P J (ret1 l) (keepT (S.frzRets rvs).O ks) n2) a' w' →
      a'.defers = [] ∧ ∃ v, (results fn a'.tmps).run Try.prog w' = .ok v w' ∧ ∃ v' r O' n' E' H', Ending.returned v = .returned v' ∧ P J r O' n' ∧ getA O' n = some (.gh J) ∧ Sim N w0 H0 ⟨[], O', n'⟩ E' a w' H' ∧ Rep H' E' r v' := by
    rintro ⟨S', E', H', hk, hS'⟩
    obtain ⟨H2, _, hS2⟩ := hS'.frzRets rvs
    obtain ⟨l, hl, ks, n2, hn2, hg, hP⟩ := oB_elim hk
    obtain ⟨v, hv1, hv2⟩ := results_run hS2 hr hl
    refine ⟨hS2.df, v, hv1, v, ret1 l, _, _, E', H2, rfl, hP, hg, ⟨hS2.grow, (fun t x hx => by cases hx), fun i o ho => hS2.ob i o (keepT_get ho), fun i j hij ⟨o1, h1, l1⟩ ⟨o2, h2, l2⟩ => hS2.ap i j hij ⟨o1, keepT_get h1, l1⟩ ⟨o2, keepT_get h2, l2⟩, fun i hi => hS2.fr i (Nat.le_trans hn2 hi), hS0.sz, hS0.df⟩, hv2.mono (fun _ _ h => h) (E0_le _)⟩
  cases e with
  | normal => exact fin' hq
  | ret => exact fin' hq
  | exit id => obtain ⟨_, _, _, h, _⟩ := hq; exact h.elim
  | goto l => exact hq.elim
  | panic c => exact hq.elim
  | outgrown => exact hq.elim
/-- .. is told by its shadow code. -/
theorem okO_of_tr {f : FuncId} {fn : Func} {sc : SC} {rvs : List RV} {args : List Sh} {O : List (Nat × Ob)} {n : Nat} {P : (Hp → Env → Prop) → Sh → List (Nat × Ob) → Nat → Prop} (hf : Try.prog.funcs[f]? = some fn) (ht : trFn Try.prog rfl fn = some (sc, rvs)) (hn : Nat.ble args.length fn.ntmps = true) (h : ∀ J, evFnO sc rvs args O n P J) : OkO f args O n P := by
  unfold trFn at ht
  split at ht
  · cases ht
  · rename_i c hb
    split at ht
    · rename_i x y _ _
      cases ht
      exact okO_of_ev2 hf hb mixed x.2 y.2 (Nat.le_of_ble_eq_true hn) h
    · cases ht
end Go.Proofs.Ytkoibcblmgmdmaa

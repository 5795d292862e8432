/-
  A function told by its shadow code that hands back a new row of plain cells.
  The shadow code of functions, written by a program; each is what the translator makes of the function.
-/
import Derived.Test.YtkoibcblmgmdmaaGreatDoorMC
namespace Go.Proofs.YtkoibcblmgmdmaaGreatDoor
set_option linter.unusedSimpArgs false
set_option linter.unusedVariables false
open Go.RowKit Go.Maps

def plainB (e : List Sh) : Bool := e.all fun s => match s with | .v _ => true | _ => false
theorem repL_plain {H H' : Hp} {E : Env} : ∀ {e : List Sh} {vs : List Value}, plainB e = true → RepL H' E e vs → RepL H E e vs
  | [], _, _, h => by cases h; exact .nil
  | x :: e, vs, hp, h => by
    cases h with
    | cons hx ht =>
      unfold plainB at hp
      rw [List.all_cons, Bool.and_eq_true] at hp
      refine .cons ?_ (repL_plain hp.2 ht)
      cases hx with
      | v h => exact .v h
      | _ => cases hp.1
theorem repEs_plain {H H' : Hp} {k : Nat} : ∀ {es : List (List Sh)} {xs : List Value}, (∀ e ∈ es, plainB e = true) → RepEs H' k es xs → RepEs H k es xs
  | [], _, _, h => by cases h; exact .nil
  | e :: es, _, hp, h => by
    cases h with
    | cons hx hl h1 ht => exact .cons (repL_plain (hp e (List.mem_cons_self ..)) hx) hl h1 (repEs_plain (fun e he => hp e (List.mem_cons_of_mem _ he)) ht)
def finRow (t : Nat) (e : TypeId) (k : Nat) (es : List (List Sh)) (x : Ex) (S : St) : Prop :=
  match x with
  | .exit _ => False
  | _ => ∃ i, getA S.T t = some (.own i) ∧ getA S.O i = some (.row e k es)
theorem finRow_mk {t k i : Nat} {e : TypeId} {es : List (List Sh)} {S : St} (h1 : getA S.T t = some (.own i)) (h2 : getA S.O i = some (.row e k es)) : finRow t e k es .ret S := ⟨i, h1, h2⟩
theorem okRow_of_ev {f : FuncId} {fn : Func} {c : Code} {sc : SC} {args : List Sh} {t : Nat} {e : TypeId} {k : Nat} {es : List (List Sh)} (hf : Tryz.prog.funcs[f]? = some fn) (hb : fn.body = some c) (hm : Tryz.prog.follows .mixedOrders = true) (hc : CM fn.ntmps c sc) (hr : fn.results = #[.tmp t])
    (hn : args.length ≤ fn.ntmps) (hp : ∀ e ∈ es, plainB e = true) (hne : es ≠ []) (h : ev sc ⟨argT 0 args, [], 0⟩ (finRow t e k es)) : OkRow f args e k es := by
  intro w H vs hs hv
  have hl := hv.length
  refine calls_of_wp hf hb ?_
  have hS : Sim fn.ntmps w H ⟨argT 0 args, [], 0⟩ E0 { tmps := vs.toArray ++ Array.replicate (fn.ntmps - vs.toArray.size) undef, defers := [] } w H := by
    refine ⟨Grow.refl hs, fun t x hx => ?_, (fun i o h => by cases h), (by rintro i j _ ⟨_, h, _⟩; cases h), (fun i _ => rfl), (by simp; omega), rfl⟩
    obtain ⟨u, hu, _, hR⟩ := argT_get args vs 0 t x hv hx
    have ht : t < vs.length := by have := (List.getElem?_eq_some_iff.1 hu).1; simpa using this
    have e : (vs.toArray ++ Array.replicate (fn.ntmps - vs.toArray.size) undef)[t]? = some u := by
      rw [Array.getElem?_append_left (by simpa using ht)]; simpa using hu
    have e2 : ({ tmps := vs.toArray ++ Array.replicate (fn.ntmps - vs.toArray.size) undef, defers := [] } : Act).eval (.tmp t) = u := by
      simp only [Act.eval, Array.getD_eq_getD_getElem?, e, Option.getD_some]
    rw [e2]; exact hR
  refine wp_mono (ev_sound (K := finRow t e k es) hm hc h hS) ?_
  intro en a' w' hq
  have fin' : End fn.ntmps w H (fun S => ∃ i, getA S.T t = some (.own i) ∧ getA S.O i = some (.row e k es)) a' w' → a'.defers = [] ∧ ∃ v, (results fn a'.tmps).run Tryz.prog w' = .ok v w' ∧ RowPost w H e k es (.returned v) w' := by
    rintro ⟨S', E', H', ⟨i, hT, hO⟩, hS'⟩
    have hR := hS'.tm t _ hT
    obtain ⟨u, ob, xs, hE, hk, hes, hcase⟩ := hS'.ob i _ hO
    obtain ⟨rfl⟩ : a'.eval (.tmp t) = u := by
      generalize a'.eval (.tmp t) = z at hR
      cases hR with
      | own h1 _ => rw [hE] at h1; cases h1; rfl
    have hg := hS'.grow
    have hgr : Grow w H w' H := ⟨hg.below, hs.below hg.below fun k o hk => hs.lt hk, fun _ _ => rfl⟩
    refine ⟨hS'.df, a'.eval (.tmp t), ?_, a'.eval (.tmp t), xs, rfl, hgr, hk, ?_, repEs_plain hp hes, ?_⟩
    · have hrun : (fn.results.mapM (resOf a'.tmps)).run Tryz.prog w' = .ok #[a'.eval (.tmp t)] w' := by
        rw [hr, Array.mapM_eq_mapM_toList]
        simp [resOf, Act.eval]
      have he : results fn a'.tmps = ((fn.results.mapM (resOf a'.tmps)) >>= fun vs => pure (if h : vs.size = 1 then vs[0] else .tuple vs)) := by
        have e : (fun x : ResultVar => match x with
          | .tmp t => (pure (a'.tmps.getD t undef) : Sem Value)
          | .cell b t => do loadVar t (← asAddr (a'.tmps.getD b undef))) = resOf a'.tmps := by funext x; cases x <;> rfl
        rw [← e]; rfl
      rw [he, Sem.run_bind, hrun]
      simp only [Result.andThen_ok, Sem.run_pure]
      rfl
    · refine ⟨hes.length, ?_⟩
      rcases hcase with ⟨h0, _, a, ha⟩ | ⟨g, cap, cur, _, hu, h1, _, h3, h4, h5, _, h7, h8⟩
      · exact absurd h0 hne
      · exact .inr ⟨g, cap, cur, hu, h1, h3, h4, h5, h7, h8⟩
    · exact fun h0 => absurd h0 hne
  cases en with
  | normal => exact fin' hq
  | ret => exact fin' hq
  | exit id => obtain ⟨_, _, _, h, _⟩ := hq; exact h.elim
  | goto l => exact hq.elim
  | panic c => exact hq.elim
  | outgrown => exact hq.elim
theorem okRow_of_tr {f : FuncId} {fn : Func} {sc : SC} {rvs : List RV} {args : List Sh} {t : Nat} {e : TypeId} {k : Nat} {es : List (List Sh)} (hf : Tryz.prog.funcs[f]? = some fn) (ht : trFn Tryz.prog rfl fn = some (sc, rvs)) (hr : fn.results = #[.tmp t]) (hn : Nat.ble args.length fn.ntmps = true)
    (hp : ∀ e ∈ es, plainB e = true) (hne : es ≠ []) (h : ev sc ⟨argT 0 args, [], 0⟩ (finRow t e k es)) : OkRow f args e k es := by
  unfold trFn at ht
  split at ht
  · cases ht
  · rename_i c hb
    split at ht
    · rename_i x y _ _
      cases ht
      exact okRow_of_ev hf hb mixed x.2 hr (Nat.le_of_ble_eq_true hn) hp hne h
    · cases ht
end Go.Proofs.YtkoibcblmgmdmaaGreatDoor
namespace Go.Proofs.YtkoibcblmgmdmaaGreatDoor
open Go.RowKit

end Go.Proofs.YtkoibcblmgmdmaaGreatDoor

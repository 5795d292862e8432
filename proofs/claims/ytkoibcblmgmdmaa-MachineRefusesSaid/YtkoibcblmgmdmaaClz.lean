/-
  The frame of a law's row, with the reach of its arguments.
-/
import Derived.Test.YtkoibcblmgmdmaaMC
import Derived.SizedLaws
namespace Go.Proofs.Ytkoibcblmgmdmaa
set_option linter.unusedSimpArgs false
set_option linter.unusedVariables false
open Go.ChangeShapes Go.WideShapes Go.ChangeAt Go.RowKit Go.Deep

section
variable {H : Type} {enc : TypeId × Value → H} {P : Program} {W : World} {base : Nat} {spare : Nat → Bool} {held : Bool}
theorem trod_slen {t e : TypeId} {a : Option Addr} {n c : Nat} {d : DataW H} {ps : List MemPlace} (hu : P.underlying t = some (.slice e)) (h : DataW.Trod enc P W base spare held t (.slice a n c) d ps) :
    n = 0 ∨ ∃ elems rest, d = .slice elems rest ∧ elems.length = n := by
  obtain ⟨fuel, hf⟩ := h
  rcases DataW.trod_slice hu hf with ⟨h1, _⟩ | ⟨a', len, cap, elems, rest, m, _, h1, h2, _, _, _, h3, _⟩
  · simp [Value.cells] at h1; exact .inl h1.2.1
  · simp [Value.cells] at h1
    obtain ⟨_, rfl, _⟩ := h1
    simp only [Prod.mk.injEq] at h2
    exact .inr ⟨_, _, h2.1, by simpa using h3⟩
theorem lifted_of_sized {C : Checked} {os : Os} {f : FuncId} {fn : Func} {s : ChangeSpec} {conds : List PathCond} {tb : TypeId}
    (own : ownKnob C.prog.godebug = none) (started : os.Started) (noInit : C.prog.inits.idxOf? f = none) (hfn : C.prog.funcs[f]? = some fn)
    (witness : ∃ (w : World) (tape : Tape) (i : Input), w.os = os ∧ (w.forCall tape i).Shaped C.prog ∧ i.vars = [] ∧ Input.okWide C.prog (w.forCall tape i) .any w.heap.size f i ∧
      s.pre6 enc C.prog fn conds false (w.forCall tape i).memory i.args ∧ ({} : Assume).holds C.prog (lone (Frame.enter C.prog f i.args .normal) [] (w.forCall tape i)))
    (hl : laidOutB C.prog = true) (hp : (fn.params.toList.all fun t => C.prog.readableRec t && decide (t < C.prog.types.size)) = true)
    (hr : fn.resultTypes = #[tb]) (htb : C.prog.underlying tb = some .bool) (hv : s.vars = [])
    (hs : ∀ ds, ds.length = fn.params.toList.length → (s.fn H ds).results = [.lit (.bool true)] ∧ (s.fn H ds).args = ds ∧ (s.fn H ds).vars = [])
    (walk : ∀ (W : World) (base : Nat) (args : Array Value) (ds : List (DataW H)) (p : List MemPlace),
      (∀ (j : Nat) t v, fn.params[j]? = some t → args[j]? = some v → Value.okWide C.prog W .any base t v) →
      DataW.TrodAll enc C.prog W 0 (fun _ => true) true fn.params.toList args.toList ds p →
      (DataW.weightsEach C.prog (fn.params.toList ++ s.plain.varTypes C.prog) (ds ++ [])).all (· ≤ reachBytes) = true → RetV C.prog f args W (.bool true)) :
    ReturnsInHanded {} C os f .any (s.pre6 enc C.prog fn conds false) (s.post enc C.prog fn false true false false) := by
  refine returnsInHanded_of_change_sized (C := C) own started noInit hfn witness ?_
  intro W base args ds gs before hval hW hcnd hsz _
  have hW' := hW
  obtain ⟨p, q, hA, hV, rfl, hfz, hnd⟩ := hW
  rw [hv] at hV
  obtain ⟨rfl, rfl⟩ := trodVars_none hV
  have hlen := trodAll_len hA
  obtain ⟨e1, e2, e3⟩ := hs ds hlen
  refine (walk W base args ds p hval hA hsz).mono fun e W' ⟨he, hb⟩ => ?_
  subst he
  refine ⟨_, rfl, ds, [], p ++ [], [], p, [], hW', ?_, ?_, ?_, hb.frame _, fun h => by cases h⟩
  · rw [List.append_nil, e1, hr]
    exact trodAll_mk1 (shut_bool htb _)
  · rw [List.append_nil, e2]
    exact args_stay hl hb hp hA (fun x hx => ⟨hW'.lt x (by simp [hx]), by simpa using hW'.lt x (by simp [hx])⟩)
  · rw [List.append_nil, e3, hv]
    exact rfl
end
end Go.Proofs.Ytkoibcblmgmdmaa

/-
  AtomRuns: the body of its loop.
  AtomRuns: one case of a round of its loop.
-/
import Derived.Test.YtenbagffdlljdaaK10n
import Derived.Test.YtenbagffdlljdaaScAtomRuns
namespace Go.Proofs.Ytenbagffdlljdaa
set_option linter.unusedSimpArgs false
set_option linter.unusedVariables false
open Go.RowKit Go.Maps
def sc_AtomRuns_b0 : SC := SC.sub sc_AtomRuns [true, true, true, true, true, true, false, true, false, false]
def sc_AtomRuns_b1 : SC := SC.sub sc_AtomRuns [true, true, true, true, true, true, false, true, false, false, true, true, false, false, true, true, true, true, true, false, true, false, true, true, true, false, true, false, false]
def sc_AtomRuns_b2 : SC := SC.sub sc_AtomRuns [true, true, true, true, true, true, false, true, false, false, true, true, false, false, true, true, true, true, true, true, true, true, true, false, false]
structure ArCx (r : RunV) (L : List OpV) : Prop where
  hLl : L.length ≤ 3
  hi : ∀ i, AtW L (Wr r L i) ∧ InW (Wr r L i)
  hio : ∀ i, WorldOk (Wr r L i) (2 + i)
  hLo : ∀ o ∈ L, checkA o = 0 ∧ (o.loc = 0 ∨ o.loc = 1)
  g3 : r.picks.length ≤ 120
end Go.Proofs.Ytenbagffdlljdaa
namespace Go.Proofs.Ytenbagffdlljdaa
set_option linter.unusedSimpArgs false
set_option linter.unusedVariables false
open Go.RowKit Go.Maps
set_option maxHeartbeats 16000000 in
set_option maxRecDepth 20000 in
theorem ar_c {r : RunV} {L : List OpV} (cx : ArCx r L) {i : Nat} {O : List (Nat × Ob)} {nx : Nat} {M : Ob} {cells : List Sh} (hi' : i ≤ r.picks.length) (hC : CrF (Wr r L i) L M cells (6 * i) O nx) {p : PickV} (hp : r.picks[i]? = some p) (hk : p.kind = 2) (hw : Wr r L (i + 1) = Wr r L i)
    (K1 : Ex → St → Prop) (hnA : ∀ (k' : Nat) (kp : Option (List Nat × Option (List Nat × Nat))) (S' : St), k' < r.picks.length - i → ArInv r L k' (S'.keep kp) → K1 .next S') :
    ev sc_AtomRuns_b0 ⟨[(3, .ptr 1 0 0), (4, .sl 3 0 (L.map eOp)), (6, .own 2), (7, .own 3), (46, .sl 3 r.gp (r.picks.map ePick)), (47, sI r.picks.length), (48, sI i)], O, nx⟩ K1 := by
  simp only [sc_AtomRuns_b0, sc_AtomRuns, SC.sub]
  have hK := shK atm
  obtain ⟨hLl, hi, hio, hLo, g3⟩ := cx
  have hl1 : 0 ≤ (L.length : Int) := by omega
  have hl2 : (L.length : Int) ≤ 1000000 := by omega
  have hl3 : L.length * 8 ≤ 140737488355328 := by omega
  have hl4 : L.length * 1 ≤ 140737488355328 := by omega
  have hst : ∀ q, q ∈ L → 1 - q.loc = 0 ∨ 1 - q.loc = 1 := fun q hq => by have := (hLo q hq).2; omega
  have hW := (hi i).1
  have hWI := (hi i).2
  have hO := hio i
  have hW' := (hi (i + 1)).1
  have hWI' := (hi (i + 1)).2
  have hO' := hio (i + 1)
  have hn4 := hC.hn
  have hid := nid hn4
  have c1 := hC.g1
  have c2 := hC.g2
  have c3 := hC.g3
  have hcl := hC.len
  have kw := fun q => ok_l10word (Wr r L i) q hO (by omega)
  have hln := hW.len
  have hln' := hW'.len
  have F3 := And.intro @hK @zsh_nmp
  have hn19 := hnA
  have hlt := (List.getElem?_eq_some_iff.1 hp).1
  have w2 : (i : Int) < (r.picks.length : Int) := by omega
  have w3 : IntKind.i64.wrap ((i : Int) + 1) = ((i + 1 : Nat) : Int) := by rw [IntKind.wrap_i64]; omega
  have z4 : (p.kind == 2) = true := by simpa using hk
  have F4 := And.intro F3 (And.intro @hid (And.intro @c1 (And.intro @c2 (And.intro @c3 (And.intro @w2 (And.intro @w3 (And.intro @hp @z4)))))))
  refine eS fun _ hn25 _ _ => ?_;refine eO fun _ hk26 => ?_;refine tZ F4 ?_;refine hk26 _ ?_;refine hn25 (some ([3,4,6,7,46,47,48,49], none)) _ ?_;refine eS fun _ hn27 _ _ => ?_;refine eCt ?_;refine hn27 (some ([3,4,6,7,46,47,48], none)) _ ?_;refine eS fun _ hn28 _ _ => ?_;refine eB fun _ _ hx29 _ _ => ?_;refine eS fun _ hn30 _ _ => ?_;refine eO fun _ hk31 => ?_;refine tC 1 F4 ?_;refine tC 1 F4 ?_;refine tZ F4 ?_;refine hk31 _ ?_;refine hn30 (some ([3,4,6,7,9,46,47,48], none)) _ ?_;refine eS fun _ _ _ he32 => ?_;refine eS fun _ hn33 _ _ => ?_;refine eO fun _ hk34 => ?_;refine tC 2 F4 ?_;refine tZ F4 ?_;refine hk34 _ ?_;refine hn33 (some ([3,4,6,7,9,46,47,48,54], none)) _ ?_;refine eCt ?_;refine he32 1 _ ?_;refine hx29 _ ?_;refine hn28 (some ([3,4,6,7,46,47,48], none)) _ ?_;refine eO fun _ hk35 => ?_;refine tC 1 F4 ?_;refine tL F4 ?_;refine hk35 _ ?_;refine hn19 (r.picks.length - (i + 1)) (some ([3,4,6,7,46,47,48], none)) _ ?_ ?_
  all_goals try refine lp0 ?_
  · omega
  · exact ⟨i + 1, _, _, _, cells, by omega, by omega, rfl, by rw [hw]; exact hC.same (by omega) (by omega) (fun e he => by simp only [getA, getA_delA]; repeat rw [if_neg (by omega)])⟩
end Go.Proofs.Ytenbagffdlljdaa

/-
  AtomRuns: one case of a round of its loop.
-/
import Derived.Test.YtenbagffdlljdaaMK1
import Derived.Test.YtenbagffdlljdaaMK4
import Derived.Test.YtenbagffdlljdaaMK9
namespace Go.Proofs.Ytenbagffdlljdaa
set_option linter.unusedSimpArgs false
set_option linter.unusedVariables false
open Go.RowKit Go.Maps
set_option maxHeartbeats 16000000 in
set_option maxRecDepth 20000 in
theorem ar_n1 {r : RunV} {L : List OpV} (cx : ArCx r L) {i : Nat} {O : List (Nat × Ob)} {nx : Nat} {M : Ob} {cells : List Sh} (hi' : i ≤ r.picks.length) (hC : CrF (Wr r L i) L M cells (6 * i) O nx) {p : PickV} (hp : r.picks[i]? = some p) (hk : p.kind ≠ 2) (hs : (stepM (Wr r L i) p).2 = false) (hm : (Wr r L (i + 1)).m = (Wr r L i).m) (hov : ovL (Wr r L (i + 1)) = ovL (Wr r L i))
    (K1 : Ex → St → Prop) (hnA : ∀ (k' : Nat) (kp : Option (List Nat × Option (List Nat × Nat))) (S' : St), k' < r.picks.length - i → ArInv r L k' (S'.keep kp) → K1 .next S') :
    ev sc_AtomRuns_b0 ⟨[(3, .ptr 1 0 0), (4, .sl 3 0 (L.map eOp)), (6, .own 2), (7, .own 3), (46, .sl 3 r.gp (r.picks.map ePick)), (47, sI r.picks.length), (48, sI i)], O, nx⟩ K1 := by
  simp only [sc_AtomRuns_b0, sc_AtomRuns, SC.sub]
  have hK := shK atm
  obtain ⟨hLl, hi, hio, hLo, g3⟩ := cx
  have hl1 : 0 ≤ (L.length : Int) := by omega
  have hl2 : (L.length : Int) ≤ 1000000 := by omega
  have hl3 : L.length * 8 ≤ 140737488355328 := by omega
  have hl4 : L.length * 1 ≤ 140737488355328 := by omega
  have hst : ∀ q, q ∈ L → 1 - q.loc = 0 ∨ 1 - q.loc = 1 := fun q hq => by have := (hLo q hq).2; omega
  have hW := (hi i).1
  have hWI := (hi i).2
  have hO := hio i
  have hW' := (hi (i + 1)).1
  have hWI' := (hi (i + 1)).2
  have hO' := hio (i + 1)
  have hn4 := hC.hn
  have hid := nid hn4
  have c1 := hC.g1
  have c2 := hC.g2
  have c3 := hC.g3
  have hcl := hC.len
  have kw := fun q => ok_l10word (Wr r L i) q hO (by omega)
  have hln := hW.len
  have hln' := hW'.len
  have F5 := And.intro @hK @zsh_nmp
  have hn19 := hnA
  have hlt := (List.getElem?_eq_some_iff.1 hp).1
  have w2 : (i : Int) < (r.picks.length : Int) := by omega
  have w3 : IntKind.i64.wrap ((i : Int) + 1) = ((i + 1 : Nat) : Int) := by rw [IntKind.wrap_i64]; omega
  have z4 : (p.kind == 2) = false := by simpa using hk
  have hnx : (stepM (Wr r L i) p).1 = Wr r L (i + 1) := (pk_next hp hk).symm
  have k3 := ok_kStep (Wr r L i) p hO (by omega)
  rw [hnx, hs] at k3
  have kw' := fun q => ok_l10word (Wr r L (i + 1)) q hO' (by omega)
  have z6 : (((Wr r L (i + 1)).tasks.length : Int) != (L.length : Int)) = false := by rw [hln']; simp
  have hml8 : (Wr r L (i + 1)).m.steps.length ≤ 1000 := by have := hO'.mach.threads; have := hO'.mach.mem.vl; omega
  have k16 : Ok 12 [eMach (Wr r L (i + 1)).m, sI 1] (sI (stepsM (Wr r L i).m 1)) := by have := ok_cSteps (Wr r L (i + 1)).m 1 hml8; rw [show stepsM (Wr r L (i + 1)).m 1 = stepsM (Wr r L i).m 1 by rw [hm]] at this; exact this
  have k17 := ok_cSteps (Wr r L i).m 1 (by rw [← hm]; exact hml8)
  have F6 := And.intro F5 (And.intro @hid (And.intro @c1 (And.intro @c2 (And.intro @c3 (And.intro @w2 (And.intro @w3 (And.intro @hp (And.intro @z4 @z6))))))))
  refine eS fun _ hn36 _ _ => ?_;refine eO fun _ hk37 => ?_;refine tZ F6 ?_;refine hk37 _ ?_;refine hn36 (some ([3,4,6,7,46,47,48,49], none)) _ ?_;refine eS fun _ hn38 _ _ => ?_;refine eCt ?_;refine hn38 (some ([3,4,6,7,46,47,48], none)) _ ?_;refine eS fun _ hn39 _ _ => ?_;refine eB fun _ hn40 _ _ _ => ?_;refine eS fun _ hn41 _ _ => ?_;refine eO fun _ hk42 => ?_;refine tC 1 F6 ?_;refine tC 1 F6 ?_;refine tZ F6 ?_;refine hk42 _ ?_;refine hn41 (some ([3,4,6,7,9,46,47,48], none)) _ ?_;refine eS fun _ hn43 _ _ => ?_;refine eS fun _ hn44 _ _ => ?_;refine eO fun _ hk45 => ?_;refine tC 2 F6 ?_;refine tZ F6 ?_;refine hk45 _ ?_;refine hn44 (some ([3,4,6,7,9,46,47,48,54], none)) _ ?_;refine eCf ?_;refine hn43 (some ([3,4,6,7,9,46,47,48], none)) _ ?_;refine eS fun _ hn46 _ _ => ?_;refine eO fun _ hk47 => ?_;refine tC 1 F6 ?_;refine tC 1 F6 ?_;refine tS 1 F6 ?_;refine Or.inl (Or.inl ⟨_, k3, ?_⟩);refine tC 5 F6 ?_;refine tL F6 ?_;refine hk47 _ ?_;refine hn46 (some ([3,4,6,7,9,10,11,46,47,48], none)) _ ?_;refine eS fun _ hn48 _ _ => ?_;refine eS fun _ hn49 _ _ => ?_;refine eO fun _ hk50 => ?_
  refine tC 2 F6 ?_;refine tZ F6 ?_;refine hk50 _ ?_;refine hn49 (some ([3,4,6,7,9,10,11,46,47,48,66], none)) _ ?_;refine eCf ?_;refine hn48 (some ([3,4,6,7,9,10,11,46,47,48], none)) _ ?_;refine eS fun _ hn51 _ _ => ?_;refine eO fun _ hk52 => ?_;refine tC 2 F6 ?_;refine tC 1 F6 ?_;refine tL F6 ?_;refine hk52 _ ?_;refine hn51 (some ([3,4,6,7,9,10,11,12,46,47,48], none)) _ ?_;refine eS fun _ hn53 _ _ => ?_;refine eS fun _ hn54 _ _ => ?_;refine eO fun _ hk55 => ?_;refine tC 4 F6 ?_;refine tC 1 F6 ?_;refine tL F6 ?_;refine hk55 _ ?_;refine hn54 (some ([3,4,6,7,10,11,12,46,47,48,75], none)) _ ?_;refine eCf ?_;refine hn53 (some ([3,4,6,7,10,11,46,47,48], none)) _ ?_;refine eS fun _ hn56 _ _ => ?_;refine eS fun _ hn57 _ _ => ?_;refine eD [] (n := 8) fun _ hk58 => ?_;refine sq0 ?_;refine fC 5 F6 ?_;refine fS 1 F6 ?_;refine ⟨_, k16, ?_⟩;refine fZ F6 ?_;refine hk58 _ ?_;refine sr0 ?_;refine tS 1 F6 ?_;refine Or.inl (Or.inl ⟨_, k17, ?_⟩);refine tC 1 F6 ?_;refine tL F6 ?_;refine hn57 (some ([3,4,6,7,10,46,47,48,264], none)) _ ?_;refine eCf ?_;refine hn56 (some ([3,4,6,7,10,46,47,48], none)) _ ?_;refine eS fun _ hn60 _ _ => ?_;refine eO fun _ hk61 => ?_
  refine tC 1 F6 ?_;refine tZ F6 ?_;refine hk61 _ ?_;refine hn60 (some ([3,4,6,7,46,47,48], none)) _ ?_;refine eS fun _ hn62 _ _ => ?_;refine eO fun _ hk63 => ?_;refine tL F6 ?_;refine hk63 _ ?_;refine hn62 (some ([3,4,6,7,46,47,48,266,267,268], none)) _ ?_;refine eB fun _ _ hx64 _ _ => ?_;refine eW (CcInv r L M cells i) (L.length) (some ([3,4,6,7,46,47,48,266,267,268], none)) ([]) ?_ ?_
  · try refine lp0 ?_
    exact ⟨0, _, _, by omega, by omega, rfl, hC.world (by omega) (by omega) (fun e he h1 => by simp only [getA, getA_delA]; repeat rw [if_neg (by omega)]) (by simp [getA]) hov⟩
  · intro k S1 hI
    obtain ⟨l, O4, n4, hl', rfl, rfl, hD⟩ := hI
    have hid4 := nid hD.hn
    have e1 := hD.g1
    have e2 := hD.g2
    have e3 := hD.g3
    have hcl4 := hD.len
    have hn44 := hD.hn
    intro _ hn65 _ he65
    rcases cc_case (M := Ob.frz (sI 0)) (Wr r L (i + 1)) hD.may hD.len hl' hln' with hce | ⟨q4, hq4, hc4⟩ | ⟨q4, hq4, d4, N4, f4, hc4, hd44, hdn4, hdg4, hdN4, y4, hy4, hyl4⟩ | ⟨q4, hq4, d4, N4, f4, hc4, hd44, hdn4, hdg4, hdN4, y4, hy4, hyl4, hmk4⟩ | ⟨q4, hq4, d4, N4, f4, hc4, hd44, hdn4, hdg4, hdN4, y4, hy4, hyl4, hmk4⟩
    · skip
      have x2 : ¬ (l : Int) < (L.length : Int) := by omega
      have F7 := And.intro F6 (And.intro @hid4 (And.intro @e1 (And.intro @e2 (And.intro @e3 @x2))))
      refine eS fun _ hn66 _ _ => ?_;refine eO fun _ hk67 => ?_;refine tZ F7 ?_;refine hk67 _ ?_;refine hn66 (some ([3,4,6,7,46,47,48,266,267,268,269], none)) _ ?_;refine eS fun _ _ _ he68 => ?_;refine eCf ?_;refine he68 5 _ ?_;refine he65 5 _ ?_;refine hx64 _ ?_;refine hn40 _ ?_;refine hn39 (some ([3,4,6,7,46,47,48], none)) _ ?_;refine eO fun _ hk69 => ?_;refine tC 1 F7 ?_;refine tL F7 ?_;refine hk69 _ ?_;refine hn19 (r.picks.length - (i + 1)) (some ([3,4,6,7,46,47,48], none)) _ ?_ ?_
      all_goals try refine lp0 ?_
      · omega
      · exact ⟨i + 1, _, _, _, _, by omega, by omega, rfl, hD.same (by omega) (by omega) (fun e he => by simp only [getA, getA_delA]; repeat rw [if_neg (by omega)])⟩
    · skip
      exact ar2_n4 ⟨hLl, hi, hio, hLo, g3⟩ hi' hl' hD hq4 hc4 _ hn65
    · skip
      exact ar2_o4 ⟨hLl, hi, hio, hLo, g3⟩ hi' hl' hD hq4 hc4 hd44 hdn4 hdg4 hdN4 hy4 hyl4 _ hn65
    · skip
      exact ar2_u4 ⟨hLl, hi, hio, hLo, g3⟩ hi' hl' hD hq4 hc4 hd44 hdn4 hdg4 hdN4 hy4 hyl4 hmk4 _ hn65
    · skip
      exact ar2_v4 ⟨hLl, hi, hio, hLo, g3⟩ hi' hl' hD hq4 hc4 hd44 hdn4 hdg4 hdN4 hy4 hyl4 hmk4 _ hn65
end Go.Proofs.Ytenbagffdlljdaa

/-
  AtomRuns, by shadows.
-/
import Derived.Test.YtenbagffdlljdaaMK1
import Derived.Test.YtenbagffdlljdaaScAtomRuns
import Derived.Test.YtenbagffdlljdaaK10mn1
import Derived.Test.YtenbagffdlljdaaK10mn2
import Derived.Test.YtenbagffdlljdaaK10mh0
import Derived.Test.YtenbagffdlljdaaK10mh1
import Derived.Test.YtenbagffdlljdaaK10ms0
import Derived.Test.YtenbagffdlljdaaK10ms1
import Derived.Test.YtenbagffdlljdaaK10ma0
import Derived.Test.YtenbagffdlljdaaK10ma1
namespace Go.Proofs.Ytenbagffdlljdaa
set_option linter.unusedSimpArgs false
set_option linter.unusedVariables false
open Go.RowKit Go.Maps
set_option maxHeartbeats 16000000 in
set_option maxRecDepth 20000 in
theorem ok_AtomRuns (r : RunV) (hr : RunIn r) : Ok 5 [.agg (cRun r)] (sB true) := by
  refine ok_of_trN Try.func5 tr_AtomRuns rfl ?_
  have ka := ok_l10awake
  have k0 := ok_l10Great r
  cases hg : greatR r
  case true =>
    rw [hg] at k0
    unfold evFn sc_AtomRuns rv_AtomRuns
    refine eS fun K1 hn1 hr1 he1 => ?_;refine eO fun K2 hk2 => ?_;refine tL0 ?_;refine hk2 _ ?_;refine hn1 (some ([1], none)) _ ?_;refine eS fun K3 hn3 hr3 he3 => ?_;refine eS fun K4 hn4 hr4 he4 => ?_;refine eO fun K5 hk5 => ?_;refine tC0 1 ?_;refine tL0 ?_;refine Or.inl (Or.inl ⟨_, k0, ?_⟩);refine hk5 _ ?_;refine hn4 (some ([1,29], none)) _ ?_;refine eCt ?_;refine eS fun K6 hn6 hr6 he6 => ?_;refine eO fun K7 hk7 => ?_;refine tS0 1 ?_;refine Or.inl (Or.inl ⟨_, ka, ?_⟩);refine tL0 ?_;refine hk7 _ ?_;refine hn6 (some ([2], none)) _ ?_;refine hr3 _ ?_
    exact sf0
  rw [hg] at k0
  obtain ⟨g1, g2, g3⟩ := great_no hg
  have hK := shK atm
  have k2 := ok_l10begun r g1
  have hLl : (opsM r.ops).length ≤ 3 := by have := opsM_len r.ops; omega
  have hLo : ∀ o ∈ opsM r.ops, checkA o = 0 ∧ (o.loc = 0 ∨ o.loc = 1) := fun o ho => opsM_mem ho
  have hLn : ∀ o ∈ opsM r.ops, In64 o.n := fun o ho => by
    unfold opsM at ho
    obtain ⟨o', ho', rfl⟩ := List.mem_map.1 (List.mem_filter.1 ho).1
    exact (hr.ops o' ho').n
  have hb : AtW (opsM r.ops) (begunW (opsM r.ops) r.w0 r.w1) := atW_begun (by omega) hLo
  have hbI : InW (begunW (opsM r.ops) r.w0 r.w1) := inW_begun (by omega) hr.w0.1 hr.w1.1
  have hi : ∀ i, AtW (opsM r.ops) (Wr r (opsM r.ops) i) ∧ InW (Wr r (opsM r.ops) i) := fun i => inW_run hb hLn hbI _ (sel_no _ _)
  have hio : ∀ i, WorldOk (Wr r (opsM r.ops) i) (2 + i) := fun i => runI_ok (begun_ok _ _ _ (by omega)).1 _ _ _
  have hov0 : ovL (Wr r (opsM r.ops) 0) = List.replicate (opsM r.ops).length [sB false] := ovL_begun (by omega)
  have hpk := fun i h {cells B O n} => pk_case (r := r) hb i h (cells := cells) (B := B) (O := O) (n := n)
  change Ok _ _ (.tup [eWorld (Wr r (opsM r.ops) 0), _, _]) at k2
  generalize opsM r.ops = L at k2 hLl hi hio hov0 hpk hLo
  clear hb hbI hLn
  have hl1 : 0 ≤ (L.length : Int) := by omega
  have hl2 : (L.length : Int) ≤ 1000000 := by omega
  have hl3 : L.length * 8 ≤ 140737488355328 := by omega
  have hl4 : L.length * 1 ≤ 140737488355328 := by omega
  have hst : ∀ q, q ∈ L → 1 - q.loc = 0 ∨ 1 - q.loc = 1 := fun q hq => by have := (hLo q hq).2; omega
  unfold evFn sc_AtomRuns rv_AtomRuns
  have F1 := And.intro @hK @zsh_nmp
  refine eS fun K1 hn1 hr1 he1 => ?_;refine eO fun K2 hk2 => ?_;refine tL F1 ?_;refine hk2 _ ?_;refine hn1 (some ([1], none)) _ ?_;refine eS fun K3 hn3 hr3 he3 => ?_;refine eS fun K4 hn4 hr4 he4 => ?_;refine eO fun K5 hk5 => ?_;refine tC 1 F1 ?_;refine tL F1 ?_;refine Or.inl (Or.inl ⟨_, k0, ?_⟩);refine hk5 _ ?_;refine hn4 (some ([1,29], none)) _ ?_;refine eCf ?_;refine hn3 (some ([1], none)) _ ?_;refine eS fun K6 hn6 hr6 he6 => ?_;refine eO fun K7 hk7 => ?_;refine tC 1 F1 ?_;refine tS 1 F1 ?_;refine Or.inl (Or.inl ⟨_, k2, ?_⟩);refine tC 6 F1 ?_;refine tL F1 ?_;refine hk7 _ ?_;refine hn6 (some ([1,3,4,5], none)) _ ?_;refine eS fun _ hn8 _ _ => ?_;refine eS fun _ hn9 _ _ => ?_;refine eO fun _ hk10 => ?_;refine tL F1 ?_;refine hk10 _ ?_;refine hn9 (some ([1,3,4,38], none)) _ ?_;refine eCf ?_;refine hn8 (some ([1,3,4], none)) _ ?_;refine eS fun _ hn11 _ _ => ?_;refine eO fun _ hk12 => ?_;refine tC 3 F1 ?_;refine tL F1 ?_;refine hk12 _ ?_;refine hn11 (some ([1,3,4,6], none)) _ ?_;refine eS fun _ hn13 _ _ => ?_;refine eO fun _ hk14 => ?_;refine tC 3 F1 ?_;refine tL F1 ?_;refine hk14 _ ?_;refine hn13 (some ([1,3,4,6,7], none)) _ ?_;refine eS fun _ hn15 _ _ => ?_
  refine eS fun _ hn16 _ _ => ?_;refine eO fun _ hk17 => ?_;refine tC 2 F1 ?_;refine tL F1 ?_;refine hk17 _ ?_;refine hn16 (some ([3,4,6,7,46,47,48], none)) _ ?_;refine eB fun _ _ hx18 _ _ => ?_;refine eW (ArInv r L) (r.picks.length) (some ([3,4,6,7,46,47,48], none)) (castL L) ?_ ?_
  · try refine lp0 ?_
    by_cases hL0 : L = []
    · rw [castL_nil hL0]
      refine lp0 ?_
      exact ar_nil hL0 hov0
    · rw [castL_cons hL0]
      obtain ⟨n0, hn0⟩ : ∃ n0, L.length = n0 + 1 := ⟨L.length - 1, by have : L.length ≠ 0 := fun e => hL0 (List.eq_nil_of_length_eq_zero e); omega⟩
      simp only [hn0, List.replicate_succ]
      refine lp0 ?_
      exact ar_cons hn0 hov0
  · intro k S1 hI
    obtain ⟨i, O, nx, M, cells, hi', rfl, rfl, hC⟩ := hI
    have hW := (hi i).1
    have hWI := (hi i).2
    have hO := hio i
    have hW' := (hi (i + 1)).1
    have hWI' := (hi (i + 1)).2
    have hO' := hio (i + 1)
    have hn4 := hC.hn
    have hid := nid hn4
    have c1 := hC.g1
    have c2 := hC.g2
    have c3 := hC.g3
    have hcl := hC.len
    have kw := fun q => ok_l10word (Wr r L i) q hO (by omega)
    have hln := hW.len
    have hln' := hW'.len
    intro _ hn19 _ he19
    rcases hpk i hi' hC.may hC.len with hcc | ⟨p, hp, hk, hw⟩ | ⟨p, hp, hk, hs, hm, hov⟩ | ⟨p, hp, hk, hs, hk0, hov⟩ | ⟨p, m, o, s', y, y', hp, hk, hs, hR, ⟨hz, hne, hfin, hans⟩ | ⟨hz, heq, hfin, hans⟩ | ⟨hz, hfin⟩, hml, hc | ⟨d, N, f, hc, hd4, hdn, hdg, hdN⟩⟩
    · skip
      have w2 : ¬ (i : Int) < (r.picks.length : Int) := by omega
      have F2 := And.intro F1 @w2
      refine eS fun _ hn20 _ _ => ?_;refine eO fun _ hk21 => ?_;refine tZ F2 ?_;refine hk21 _ ?_;refine hn20 (some ([3,4,6,7,46,47,48,49], none)) _ ?_;refine eS fun _ _ _ he22 => ?_;refine eCf ?_;refine he22 0 _ ?_;refine he19 0 _ ?_;refine hx18 _ ?_;refine hn15 (some ([], none)) _ ?_;refine eS fun _ hn23 _ _ => ?_;refine eO fun _ hk24 => ?_;refine tS 1 F2 ?_;refine Or.inl (Or.inl ⟨_, ka, ?_⟩);refine tL F2 ?_;refine hk24 _ ?_;refine hn23 (some ([2], none)) _ ?_
      exact sf1 F2
    · skip
      exact ar_c ⟨hLl, hi, hio, hLo, g3⟩ hi' hC hp hk hw _ hn19
    · skip
      exact ar_n1 ⟨hLl, hi, hio, hLo, g3⟩ hi' hC hp hk hs hm hov _ hn19
    · skip
      exact ar_n2 ⟨hLl, hi, hio, hLo, g3⟩ hi' hC hp hk hs hk0 hov _ hn19
    · skip
      exact ar_h0 ⟨hLl, hi, hio, hLo, g3⟩ hi' hC hp hk hs hR hz hne hfin hans hml hc _ hn19
    · skip
      exact ar_h1 ⟨hLl, hi, hio, hLo, g3⟩ hi' hC hp hk hs hR hz hne hfin hans hml hc hd4 hdn hdg hdN _ hn19
    · skip
      exact ar_s0 ⟨hLl, hi, hio, hLo, g3⟩ hi' hC hp hk hs hR hz heq hfin hans hml hc _ hn19
    · skip
      exact ar_s1 ⟨hLl, hi, hio, hLo, g3⟩ hi' hC hp hk hs hR hz heq hfin hans hml hc hd4 hdn hdg hdN _ hn19
    · skip
      exact ar_a0 ⟨hLl, hi, hio, hLo, g3⟩ hi' hC hp hk hs hR hz hfin hml hc _ hn19
    · skip
      exact ar_a1 ⟨hLl, hi, hio, hLo, g3⟩ hi' hC hp hk hs hR hz hfin hml hc hd4 hdn hdg hdN _ hn19
end Go.Proofs.Ytenbagffdlljdaa

/-
  AtomRuns: one case of a round of an inner loop.
  AtomRuns: one case of a round of an inner loop.
-/
import Derived.Test.YtenbagffdlljdaaMK1
namespace Go.Proofs.Ytenbagffdlljdaa
set_option linter.unusedSimpArgs false
set_option linter.unusedVariables false
open Go.RowKit Go.Maps
set_option maxHeartbeats 16000000 in
set_option maxRecDepth 20000 in
theorem ar2_n4 {r : RunV} {L : List OpV} (cx : ArCx r L) {i : Nat} (hi' : i ≤ r.picks.length) {M : Ob} {cells : List Sh} {l : Nat} {O4 : List (Nat × Ob)} {n4 : Nat} (hl' : l ≤ L.length) (hD : CrF (Wr r L (i + 1)) L M cells (6 * i + 3 + l) O4 n4) {q4 : OpV} (hq4 : L[l]? = some q4) (hc4 : cells[l]? = some (Sh.v (.map none)))
    (K1 : Ex → St → Prop) (hnA : ∀ (k' : Nat) (kp : Option (List Nat × Option (List Nat × Nat))) (S' : St), k' < L.length - l → CcInv r L M cells i k' (S'.keep kp) → K1 .next S') :
    ev sc_AtomRuns_b2 ⟨[(3, .ptr 1 0 0), (4, .sl 3 0 (L.map eOp)), (6, .own 2), (7, .own 3), (46, .sl 3 r.gp (r.picks.map ePick)), (47, sI r.picks.length), (48, sI i), (266, .sl 3 0 (L.map eOp)), (267, sI L.length), (268, sI l)], O4, n4⟩ K1 := by
  simp only [sc_AtomRuns_b2, sc_AtomRuns, SC.sub]
  have hK := shK atm
  obtain ⟨hLl, hi, hio, hLo, g3⟩ := cx
  have hl1 : 0 ≤ (L.length : Int) := by omega
  have hl2 : (L.length : Int) ≤ 1000000 := by omega
  have hl3 : L.length * 8 ≤ 140737488355328 := by omega
  have hl4 : L.length * 1 ≤ 140737488355328 := by omega
  have hst : ∀ q, q ∈ L → 1 - q.loc = 0 ∨ 1 - q.loc = 1 := fun q hq => by have := (hLo q hq).2; omega
  have hW := (hi i).1
  have hWI := (hi i).2
  have hO := hio i
  have hW' := (hi (i + 1)).1
  have hWI' := (hi (i + 1)).2
  have hO' := hio (i + 1)
  have hln := hW.len
  have hln' := hW'.len
  have kw := fun q => ok_l10word (Wr r L i) q hO (by omega)
  have hid4 := nid hD.hn
  have e1 := hD.g1
  have e2 := hD.g2
  have e3 := hD.g3
  have hcl4 := hD.len
  have _ := hD.hn
  have F139 := And.intro @hK @zsh_nmp
  have hn1114 := hnA
  have hll := (List.getElem?_eq_some_iff.1 hq4).1
  have x2 : (l : Int) < (L.length : Int) := by omega
  have x3 : IntKind.i64.wrap ((l : Int) + 1) = ((l + 1 : Nat) : Int) := by rw [IntKind.wrap_i64]; omega
  have x4 : (0 : Int) ≤ (l : Int) := by omega
  have x5 := hll
  rw [← hcl4] at x5
  have x6 : l < (Wr r L (i + 1)).tasks.length := by omega
  have hqL4 := hLo q4 (List.mem_of_getElem? hq4)
  have e2 := hD.g2
  try rw [hD.hM (by intro e; rw [e] at hll; simp at hll)] at e2
  have F140 := And.intro F139 (And.intro @hid4 (And.intro @e1 (And.intro @e2 (And.intro @e3 (And.intro @x2 (And.intro @x3 (And.intro @x4 (And.intro @x5 (And.intro @x6 (And.intro @hll (And.intro @hq4 @hc4)))))))))))
  refine eS fun _ hn1119 _ _ => ?_;refine eO fun _ hk1120 => ?_;refine tZ F140 ?_;refine hk1120 _ ?_;refine hn1119 (some ([3,4,6,7,46,47,48,266,267,268,269], none)) _ ?_;refine eS fun _ hn1121 _ _ => ?_;refine eCt ?_;refine hn1121 (some ([3,4,6,7,46,47,48,266,267,268], none)) _ ?_;refine eS fun _ hn1122 _ _ => ?_;refine eB fun _ hn1123 _ _ _ => ?_;refine eS fun _ hn1124 _ _ => ?_;refine eO fun _ hk1125 => ?_;refine tC 2 F140 ?_;refine tC 1 F140 ?_;refine tZ F140 ?_;refine hk1125 _ ?_;refine hn1124 (some ([3,4,6,7,24,25,46,47,48,266,267,268], none)) _ ?_;refine eS fun _ hn1126 _ _ => ?_;refine eO fun _ hk1127 => ?_;refine tC 3 F140 ?_;refine tC 1 F140 ?_;refine tS 1 F140 ?_;refine Or.inl ⟨_, eqsh_nilmap, ?_⟩;refine tC 4 F140 ?_;refine tC 1 F140 ?_;refine tL F140 ?_;refine hk1127 _ ?_;refine hn1126 (some ([3,4,6,7,24,25,46,47,48,266,267,268,284], none)) _ ?_;refine eCf ?_;refine hn1123 _ ?_;refine hn1122 (some ([3,4,6,7,46,47,48,266,267,268], none)) _ ?_;refine eO fun _ hk1128 => ?_;refine tC 1 F140 ?_;refine tL F140 ?_;refine hk1128 _ ?_;refine hn1114 (L.length - (l + 1)) (some ([3,4,6,7,46,47,48,266,267,268], none)) _ ?_ ?_
  all_goals try refine lp0 ?_
  · omega
  · exact ⟨l + 1, _, _, by omega, by omega, rfl, hD.same (by omega) (by omega) (fun e he => by simp only [getA, getA_delA]; repeat rw [if_neg (by omega)])⟩
end Go.Proofs.Ytenbagffdlljdaa
namespace Go.Proofs.Ytenbagffdlljdaa
set_option linter.unusedSimpArgs false
set_option linter.unusedVariables false
open Go.RowKit Go.Maps
set_option maxHeartbeats 16000000 in
set_option maxRecDepth 20000 in
theorem ar2_o4 {r : RunV} {L : List OpV} (cx : ArCx r L) {i : Nat} (hi' : i ≤ r.picks.length) {M : Ob} {cells : List Sh} {l : Nat} {O4 : List (Nat × Ob)} {n4 : Nat} (hl' : l ≤ L.length) (hD : CrF (Wr r L (i + 1)) L M cells (6 * i + 3 + l) O4 n4) {q4 : OpV} (hq4 : L[l]? = some q4) {d4 N4 : Nat} {f4 : Int → Option Sh} (hc4 : cells[l]? = some (Sh.own d4)) (hd44 : 4 ≤ d4) (hdn4 : d4 < n4) (hdg4 : getA O4 d4 = some (.map 2 N4 f4)) (hdN4 : N4 ≤ 6 * i + 3 + l) {y4 : TaskM atm} (hy4 : (Wr r L (i + 1)).tasks[l]? = some y4) (hyl4 : y4.live = false)
    (K1 : Ex → St → Prop) (hnA : ∀ (k' : Nat) (kp : Option (List Nat × Option (List Nat × Nat))) (S' : St), k' < L.length - l → CcInv r L M cells i k' (S'.keep kp) → K1 .next S') :
    ev sc_AtomRuns_b2 ⟨[(3, .ptr 1 0 0), (4, .sl 3 0 (L.map eOp)), (6, .own 2), (7, .own 3), (46, .sl 3 r.gp (r.picks.map ePick)), (47, sI r.picks.length), (48, sI i), (266, .sl 3 0 (L.map eOp)), (267, sI L.length), (268, sI l)], O4, n4⟩ K1 := by
  simp only [sc_AtomRuns_b2, sc_AtomRuns, SC.sub]
  have hK := shK atm
  obtain ⟨hLl, hi, hio, hLo, g3⟩ := cx
  have hl1 : 0 ≤ (L.length : Int) := by omega
  have hl2 : (L.length : Int) ≤ 1000000 := by omega
  have hl3 : L.length * 8 ≤ 140737488355328 := by omega
  have hl4 : L.length * 1 ≤ 140737488355328 := by omega
  have hst : ∀ q, q ∈ L → 1 - q.loc = 0 ∨ 1 - q.loc = 1 := fun q hq => by have := (hLo q hq).2; omega
  have hW := (hi i).1
  have hWI := (hi i).2
  have hO := hio i
  have hW' := (hi (i + 1)).1
  have hWI' := (hi (i + 1)).2
  have hO' := hio (i + 1)
  have hln := hW.len
  have hln' := hW'.len
  have kw := fun q => ok_l10word (Wr r L i) q hO (by omega)
  have hid4 := nid hD.hn
  have e1 := hD.g1
  have e2 := hD.g2
  have e3 := hD.g3
  have hcl4 := hD.len
  have _ := hD.hn
  have F141 := And.intro @hK @zsh_nmp
  have hn1114 := hnA
  have hll := (List.getElem?_eq_some_iff.1 hq4).1
  have x2 : (l : Int) < (L.length : Int) := by omega
  have x3 : IntKind.i64.wrap ((l : Int) + 1) = ((l + 1 : Nat) : Int) := by rw [IntKind.wrap_i64]; omega
  have x4 : (0 : Int) ≤ (l : Int) := by omega
  have x5 := hll
  rw [← hcl4] at x5
  have x6 : l < (Wr r L (i + 1)).tasks.length := by omega
  have hqL4 := hLo q4 (List.mem_of_getElem? hq4)
  have e2 := hD.g2
  try rw [hD.hM (by intro e; rw [e] at hll; simp at hll)] at e2
  have hd4' := did hd44 hdn4
  have F142 := And.intro F141 (And.intro @hid4 (And.intro @e1 (And.intro @e2 (And.intro @e3 (And.intro @x2 (And.intro @x3 (And.intro @x4 (And.intro @x5 (And.intro @x6 (And.intro @hll (And.intro @hq4 (And.intro @hc4 (And.intro @hd4' (And.intro @hdg4 (And.intro @hy4 @hyl4)))))))))))))))
  refine eS fun _ hn1129 _ _ => ?_;refine eO fun _ hk1130 => ?_;refine tZ F142 ?_;refine hk1130 _ ?_;refine hn1129 (some ([3,4,6,7,46,47,48,266,267,268,269], none)) _ ?_;refine eS fun _ hn1131 _ _ => ?_;refine eCt ?_;refine hn1131 (some ([3,4,6,7,46,47,48,266,267,268], none)) _ ?_;refine eS fun _ hn1132 _ _ => ?_;refine eB fun _ hn1133 _ _ _ => ?_;refine eS fun _ hn1134 _ _ => ?_;refine eO fun _ hk1135 => ?_;refine tC 2 F142 ?_;refine tC 1 F142 ?_;refine tZ F142 ?_;refine hk1135 _ ?_;refine hn1134 (some ([3,4,6,7,24,25,46,47,48,266,267,268], none)) _ ?_;refine eS fun _ hn1136 _ _ => ?_;refine eO fun _ hk1137 => ?_;refine tC 3 F142 ?_;refine tC 1 F142 ?_;refine tS 1 F142 ?_;refine Or.inr ⟨⟨_, _, Try.underlying96⟩, ?_⟩;refine tC 4 F142 ?_;refine tC 1 F142 ?_;refine tL F142 ?_;refine hk1137 _ ?_;refine hn1136 (some ([3,4,6,7,24,25,46,47,48,266,267,268,284], none)) _ ?_;refine eCf ?_;refine hn1133 _ ?_;refine hn1132 (some ([3,4,6,7,46,47,48,266,267,268], none)) _ ?_;refine eO fun _ hk1138 => ?_;refine tC 1 F142 ?_;refine tL F142 ?_;refine hk1138 _ ?_;refine hn1114 (L.length - (l + 1)) (some ([3,4,6,7,46,47,48,266,267,268], none)) _ ?_ ?_
  all_goals try refine lp0 ?_
  · omega
  · exact ⟨l + 1, _, _, by omega, by omega, rfl, hD.same (by omega) (by omega) (fun e he => by simp only [getA, getA_delA]; repeat rw [if_neg (by omega)])⟩
end Go.Proofs.Ytenbagffdlljdaa

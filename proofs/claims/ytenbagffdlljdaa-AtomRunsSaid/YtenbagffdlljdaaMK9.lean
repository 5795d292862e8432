/-
  AtomRuns: one case of a round of an inner loop.
  AtomRuns: one case of a round of an inner loop.
-/
import Derived.Test.YtenbagffdlljdaaMK1
namespace Go.Proofs.Ytenbagffdlljdaa
set_option linter.unusedSimpArgs false
set_option linter.unusedVariables false
open Go.RowKit Go.Maps
set_option maxHeartbeats 16000000 in
set_option maxRecDepth 20000 in
theorem ar2_u4 {r : RunV} {L : List OpV} (cx : ArCx r L) {i : Nat} (hi' : i ≤ r.picks.length) {M : Ob} {cells : List Sh} {l : Nat} {O4 : List (Nat × Ob)} {n4 : Nat} (hl' : l ≤ L.length) (hD : CrF (Wr r L (i + 1)) L M cells (6 * i + 3 + l) O4 n4) {q4 : OpV} (hq4 : L[l]? = some q4) {d4 N4 : Nat} {f4 : Int → Option Sh} (hc4 : cells[l]? = some (Sh.own d4)) (hd44 : 4 ≤ d4) (hdn4 : d4 < n4) (hdg4 : getA O4 d4 = some (.map 2 N4 f4)) (hdN4 : N4 ≤ 6 * i + 3 + l) {y4 : TaskM atm} (hy4 : (Wr r L (i + 1)).tasks[l]? = some y4) (hyl4 : y4.live = true) (hmk4 : mkA q4.kind q4.n (Wd (Wr r L (i + 1)).m q4.loc).val = (Wd (Wr r L (i + 1)).m q4.loc).val)
    (K1 : Ex → St → Prop) (hnA : ∀ (k' : Nat) (kp : Option (List Nat × Option (List Nat × Nat))) (S' : St), k' < L.length - l → CcInv r L M cells i k' (S'.keep kp) → K1 .next S') :
    ev sc_AtomRuns_b2 ⟨[(3, .ptr 1 0 0), (4, .sl 3 0 (L.map eOp)), (6, .own 2), (7, .own 3), (46, .sl 3 r.gp (r.picks.map ePick)), (47, sI r.picks.length), (48, sI i), (266, .sl 3 0 (L.map eOp)), (267, sI L.length), (268, sI l)], O4, n4⟩ K1 := by
  simp only [sc_AtomRuns_b2, sc_AtomRuns, SC.sub]
  have hK := shK atm
  obtain ⟨hLl, hi, hio, hLo, g3⟩ := cx
  have hl1 : 0 ≤ (L.length : Int) := by omega
  have hl2 : (L.length : Int) ≤ 1000000 := by omega
  have hl3 : L.length * 8 ≤ 140737488355328 := by omega
  have hl4 : L.length * 1 ≤ 140737488355328 := by omega
  have hst : ∀ q, q ∈ L → 1 - q.loc = 0 ∨ 1 - q.loc = 1 := fun q hq => by have := (hLo q hq).2; omega
  have hW := (hi i).1
  have hWI := (hi i).2
  have hO := hio i
  have hW' := (hi (i + 1)).1
  have hWI' := (hi (i + 1)).2
  have hO' := hio (i + 1)
  have hln := hW.len
  have hln' := hW'.len
  have kw := fun q => ok_l10word (Wr r L i) q hO (by omega)
  have hid4 := nid hD.hn
  have e1 := hD.g1
  have e2 := hD.g2
  have e3 := hD.g3
  have hcl4 := hD.len
  have _ := hD.hn
  have F143 := And.intro @hK @zsh_nmp
  have hn1114 := hnA
  have hll := (List.getElem?_eq_some_iff.1 hq4).1
  have x2 : (l : Int) < (L.length : Int) := by omega
  have x3 : IntKind.i64.wrap ((l : Int) + 1) = ((l + 1 : Nat) : Int) := by rw [IntKind.wrap_i64]; omega
  have x4 : (0 : Int) ≤ (l : Int) := by omega
  have x5 := hll
  rw [← hcl4] at x5
  have x6 : l < (Wr r L (i + 1)).tasks.length := by omega
  have hqL4 := hLo q4 (List.mem_of_getElem? hq4)
  have e2 := hD.g2
  try rw [hD.hM (by intro e; rw [e] at hll; simp at hll)] at e2
  have hd4' := did hd44 hdn4
  have kw4 := ok_l10word (Wr r L (i + 1)) q4.loc hO' (by omega)
  have kq4 := ok_r10DoR2 q4 (Wd (Wr r L (i + 1)).m q4.loc).val hqL4.1
  obtain ⟨v1, v2⟩ : -9223372036854775808 ≤ (Wd (Wr r L (i + 1)).m q4.loc).val ∧ (Wd (Wr r L (i + 1)).m q4.loc).val ≤ 9223372036854775807 := hWI' q4.loc hqL4.2
  have v3 : N4 < 1000000 := by omega
  have x7 : (mkA q4.kind q4.n (Wd (Wr r L (i + 1)).m q4.loc).val == (Wd (Wr r L (i + 1)).m q4.loc).val) = true := by simpa using hmk4
  have F144 := And.intro F143 (And.intro @hid4 (And.intro @e1 (And.intro @e2 (And.intro @e3 (And.intro @x2 (And.intro @x3 (And.intro @x4 (And.intro @x5 (And.intro @x6 (And.intro @hll (And.intro @hq4 (And.intro @hc4 (And.intro @hd4' (And.intro @hdg4 (And.intro @hy4 (And.intro @hyl4 (And.intro @x7 (And.intro @v1 (And.intro @v2 @v3)))))))))))))))))))
  refine eS fun _ hn1139 _ _ => ?_;refine eO fun _ hk1140 => ?_;refine tZ F144 ?_;refine hk1140 _ ?_;refine hn1139 (some ([3,4,6,7,46,47,48,266,267,268,269], none)) _ ?_;refine eS fun _ hn1141 _ _ => ?_;refine eCt ?_;refine hn1141 (some ([3,4,6,7,46,47,48,266,267,268], none)) _ ?_;refine eS fun _ hn1142 _ _ => ?_;refine eB fun _ hn1143 _ _ _ => ?_;refine eS fun _ hn1144 _ _ => ?_;refine eO fun _ hk1145 => ?_;refine tC 2 F144 ?_;refine tC 1 F144 ?_;refine tZ F144 ?_;refine hk1145 _ ?_;refine hn1144 (some ([3,4,6,7,24,25,46,47,48,266,267,268], none)) _ ?_;refine eS fun _ hn1146 _ _ => ?_;refine eO fun _ hk1147 => ?_;refine tC 3 F144 ?_;refine tC 1 F144 ?_;refine tS 1 F144 ?_;refine Or.inr ⟨⟨_, _, Try.underlying96⟩, ?_⟩;refine tC 4 F144 ?_;refine tC 1 F144 ?_;refine tL F144 ?_;refine hk1147 _ ?_;refine hn1146 (some ([3,4,6,7,24,25,46,47,48,266,267,268,284], none)) _ ?_;refine eCt ?_;refine eS fun _ hn1148 _ _ => ?_;refine eD [] (n := 13) fun _ hk1149 => ?_;refine sq0 ?_;refine fC 2 F144 ?_;refine fC 2 F144 ?_;refine fC 1 F144 ?_;refine fC 2 F144 ?_;refine fS 1 F144 ?_;refine ⟨_, kw4, ?_⟩;refine fS 1 F144 ?_
  refine fS 1 F144 ?_;refine ⟨_, kq4, ?_⟩;refine fL F144 ?_;refine hk1149 _ ?_;refine sr0 ?_;refine tL F144 ?_;refine hn1148 (some ([3,4,6,7,24,25,26,27,46,47,48,266,267,268], none)) _ ?_;refine eS fun _ hn1151 _ _ => ?_;refine eO fun _ hk1152 => ?_;refine tC 2 F144 ?_;refine tC 2 F144 ?_;refine tS 1 F144 ?_;refine Or.inl (Or.inl ⟨_, kw4, ?_⟩);refine tZ F144 ?_;refine hk1152 _ ?_;refine hn1151 (some ([3,4,6,7,24,27,46,47,48,266,267,268,304], none)) _ ?_;refine eCt ?_;refine eO fun _ hk1153 => ?_;refine tC 3 F144 ?_;refine tC 1 F144 ?_;refine tZ F144 ?_;refine Or.inl ?_;refine hk1153 _ ?_;refine hn1143 _ ?_;refine hn1142 (some ([3,4,6,7,46,47,48,266,267,268], none)) _ ?_;refine eO fun _ hk1154 => ?_;refine tC 1 F144 ?_;refine tL F144 ?_;refine hk1154 _ ?_;refine hn1114 (L.length - (l + 1)) (some ([3,4,6,7,46,47,48,266,267,268], none)) _ ?_ ?_
  all_goals try refine lp0 ?_
  · omega
  · exact ⟨l + 1, _, _, by omega, by omega, rfl, hD.put (by omega) hc4 hdg4 (Wd (Wr r L (i + 1)).m q4.loc).val (fun e he hd => by simp only [getA, getA_delA]; repeat rw [if_neg (by omega)]) (by simp [getA])⟩
end Go.Proofs.Ytenbagffdlljdaa
namespace Go.Proofs.Ytenbagffdlljdaa
set_option linter.unusedSimpArgs false
set_option linter.unusedVariables false
open Go.RowKit Go.Maps
set_option maxHeartbeats 16000000 in
set_option maxRecDepth 20000 in
theorem ar2_v4 {r : RunV} {L : List OpV} (cx : ArCx r L) {i : Nat} (hi' : i ≤ r.picks.length) {M : Ob} {cells : List Sh} {l : Nat} {O4 : List (Nat × Ob)} {n4 : Nat} (hl' : l ≤ L.length) (hD : CrF (Wr r L (i + 1)) L M cells (6 * i + 3 + l) O4 n4) {q4 : OpV} (hq4 : L[l]? = some q4) {d4 N4 : Nat} {f4 : Int → Option Sh} (hc4 : cells[l]? = some (Sh.own d4)) (hd44 : 4 ≤ d4) (hdn4 : d4 < n4) (hdg4 : getA O4 d4 = some (.map 2 N4 f4)) (hdN4 : N4 ≤ 6 * i + 3 + l) {y4 : TaskM atm} (hy4 : (Wr r L (i + 1)).tasks[l]? = some y4) (hyl4 : y4.live = true) (hmk4 : mkA q4.kind q4.n (Wd (Wr r L (i + 1)).m q4.loc).val ≠ (Wd (Wr r L (i + 1)).m q4.loc).val)
    (K1 : Ex → St → Prop) (hnA : ∀ (k' : Nat) (kp : Option (List Nat × Option (List Nat × Nat))) (S' : St), k' < L.length - l → CcInv r L M cells i k' (S'.keep kp) → K1 .next S') :
    ev sc_AtomRuns_b2 ⟨[(3, .ptr 1 0 0), (4, .sl 3 0 (L.map eOp)), (6, .own 2), (7, .own 3), (46, .sl 3 r.gp (r.picks.map ePick)), (47, sI r.picks.length), (48, sI i), (266, .sl 3 0 (L.map eOp)), (267, sI L.length), (268, sI l)], O4, n4⟩ K1 := by
  simp only [sc_AtomRuns_b2, sc_AtomRuns, SC.sub]
  have hK := shK atm
  obtain ⟨hLl, hi, hio, hLo, g3⟩ := cx
  have hl1 : 0 ≤ (L.length : Int) := by omega
  have hl2 : (L.length : Int) ≤ 1000000 := by omega
  have hl3 : L.length * 8 ≤ 140737488355328 := by omega
  have hl4 : L.length * 1 ≤ 140737488355328 := by omega
  have hst : ∀ q, q ∈ L → 1 - q.loc = 0 ∨ 1 - q.loc = 1 := fun q hq => by have := (hLo q hq).2; omega
  have hW := (hi i).1
  have hWI := (hi i).2
  have hO := hio i
  have hW' := (hi (i + 1)).1
  have hWI' := (hi (i + 1)).2
  have hO' := hio (i + 1)
  have hln := hW.len
  have hln' := hW'.len
  have kw := fun q => ok_l10word (Wr r L i) q hO (by omega)
  have hid4 := nid hD.hn
  have e1 := hD.g1
  have e2 := hD.g2
  have e3 := hD.g3
  have hcl4 := hD.len
  have _ := hD.hn
  have F145 := And.intro @hK @zsh_nmp
  have hn1114 := hnA
  have hll := (List.getElem?_eq_some_iff.1 hq4).1
  have x2 : (l : Int) < (L.length : Int) := by omega
  have x3 : IntKind.i64.wrap ((l : Int) + 1) = ((l + 1 : Nat) : Int) := by rw [IntKind.wrap_i64]; omega
  have x4 : (0 : Int) ≤ (l : Int) := by omega
  have x5 := hll
  rw [← hcl4] at x5
  have x6 : l < (Wr r L (i + 1)).tasks.length := by omega
  have hqL4 := hLo q4 (List.mem_of_getElem? hq4)
  have e2 := hD.g2
  try rw [hD.hM (by intro e; rw [e] at hll; simp at hll)] at e2
  have hd4' := did hd44 hdn4
  have kw4 := ok_l10word (Wr r L (i + 1)) q4.loc hO' (by omega)
  have kq4 := ok_r10DoR2 q4 (Wd (Wr r L (i + 1)).m q4.loc).val hqL4.1
  obtain ⟨v1, v2⟩ : -9223372036854775808 ≤ (Wd (Wr r L (i + 1)).m q4.loc).val ∧ (Wd (Wr r L (i + 1)).m q4.loc).val ≤ 9223372036854775807 := hWI' q4.loc hqL4.2
  have v3 : N4 < 1000000 := by omega
  have x7 : (mkA q4.kind q4.n (Wd (Wr r L (i + 1)).m q4.loc).val == (Wd (Wr r L (i + 1)).m q4.loc).val) = false := by simpa using hmk4
  have F146 := And.intro F145 (And.intro @hid4 (And.intro @e1 (And.intro @e2 (And.intro @e3 (And.intro @x2 (And.intro @x3 (And.intro @x4 (And.intro @x5 (And.intro @x6 (And.intro @hll (And.intro @hq4 (And.intro @hc4 (And.intro @hd4' (And.intro @hdg4 (And.intro @hy4 (And.intro @hyl4 (And.intro @x7 (And.intro @v1 (And.intro @v2 @v3)))))))))))))))))))
  refine eS fun _ hn1155 _ _ => ?_;refine eO fun _ hk1156 => ?_;refine tZ F146 ?_;refine hk1156 _ ?_;refine hn1155 (some ([3,4,6,7,46,47,48,266,267,268,269], none)) _ ?_;refine eS fun _ hn1157 _ _ => ?_;refine eCt ?_;refine hn1157 (some ([3,4,6,7,46,47,48,266,267,268], none)) _ ?_;refine eS fun _ hn1158 _ _ => ?_;refine eB fun _ hn1159 _ _ _ => ?_;refine eS fun _ hn1160 _ _ => ?_;refine eO fun _ hk1161 => ?_;refine tC 2 F146 ?_;refine tC 1 F146 ?_;refine tZ F146 ?_;refine hk1161 _ ?_;refine hn1160 (some ([3,4,6,7,24,25,46,47,48,266,267,268], none)) _ ?_;refine eS fun _ hn1162 _ _ => ?_;refine eO fun _ hk1163 => ?_;refine tC 3 F146 ?_;refine tC 1 F146 ?_;refine tS 1 F146 ?_;refine Or.inr ⟨⟨_, _, Try.underlying96⟩, ?_⟩;refine tC 4 F146 ?_;refine tC 1 F146 ?_;refine tL F146 ?_;refine hk1163 _ ?_;refine hn1162 (some ([3,4,6,7,24,25,46,47,48,266,267,268,284], none)) _ ?_;refine eCt ?_;refine eS fun _ hn1164 _ _ => ?_;refine eD [] (n := 13) fun _ hk1165 => ?_;refine sq0 ?_;refine fC 2 F146 ?_;refine fC 2 F146 ?_;refine fC 1 F146 ?_;refine fC 2 F146 ?_;refine fS 1 F146 ?_;refine ⟨_, kw4, ?_⟩;refine fS 1 F146 ?_
  refine fS 1 F146 ?_;refine ⟨_, kq4, ?_⟩;refine fL F146 ?_;refine hk1165 _ ?_;refine sr0 ?_;refine tL F146 ?_;refine hn1164 (some ([3,4,6,7,24,25,26,27,46,47,48,266,267,268], none)) _ ?_;refine eS fun _ hn1167 _ _ => ?_;refine eO fun _ hk1168 => ?_;refine tC 2 F146 ?_;refine tC 2 F146 ?_;refine tS 1 F146 ?_;refine Or.inl (Or.inl ⟨_, kw4, ?_⟩);refine tZ F146 ?_;refine hk1168 _ ?_;refine hn1167 (some ([3,4,6,7,24,27,46,47,48,266,267,268,304], none)) _ ?_;refine eCf ?_;refine hn1159 _ ?_;refine hn1158 (some ([3,4,6,7,46,47,48,266,267,268], none)) _ ?_;refine eO fun _ hk1169 => ?_;refine tC 1 F146 ?_;refine tL F146 ?_;refine hk1169 _ ?_;refine hn1114 (L.length - (l + 1)) (some ([3,4,6,7,46,47,48,266,267,268], none)) _ ?_ ?_
  all_goals try refine lp0 ?_
  · omega
  · exact ⟨l + 1, _, _, by omega, by omega, rfl, hD.same (by omega) (by omega) (fun e he => by simp only [getA, getA_delA]; repeat rw [if_neg (by omega)])⟩
end Go.Proofs.Ytenbagffdlljdaa

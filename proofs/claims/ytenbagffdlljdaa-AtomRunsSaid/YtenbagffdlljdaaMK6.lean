/-
  AtomRuns: one case of a round of an inner loop.
  AtomRuns: one case of a round of an inner loop.
-/
import Derived.Test.YtenbagffdlljdaaMK1
namespace Go.Proofs.Ytenbagffdlljdaa
set_option linter.unusedSimpArgs false
set_option linter.unusedVariables false
open Go.RowKit Go.Maps
set_option maxHeartbeats 16000000 in
set_option maxRecDepth 20000 in
theorem ar1_n3 {r : RunV} {L : List OpV} (cx : ArCx r L) {i : Nat} (hi' : i ≤ r.picks.length) {cells : List Sh} {nx a b m : Nat} {o : OpV} {z : WordV} (ho : L[m]? = some o) {j : Nat} {O2 : List (Nat × Ob)} {n2 : Nat} (hj' : j ≤ L.length) (hB : BrF (Wr r L i) (Wr r L (i + 1)) L cells nx a b m o (Wd (Wr r L i).m o.loc) z (6 * i + j) O2 n2) (hmay : m < j → mkA o.kind o.n (Wd (Wr r L i).m o.loc).val = (Wd (Wr r L i).m o.loc).val → MayHas O2 cells m (Wd (Wr r L i).m o.loc).val) {q : OpV} (hq : L[j]? = some q) (hjm : j ≠ m) (hc2 : cells[j]? = some (Sh.v (.map none)))
    (K1 : Ex → St → Prop) (hnA : ∀ (k' : Nat) (kp : Option (List Nat × Option (List Nat × Nat))) (S' : St), k' < L.length - j → BrInv r L cells i nx a b m o (Wd (Wr r L i).m o.loc) z k' (S'.keep kp) → K1 .next S') :
    ev sc_AtomRuns_b1 ⟨[(3, .ptr 1 0 0), (4, .sl 3 0 (L.map eOp)), (6, .own 2), (7, .own 3), (10, .ptr (nx + 1) 0 0), (11, sB true), (12, sI m), (13, .ptr (nx + 2) 0 0), (14, .ptr a 0 0), (15, .ptr b 0 0), (46, .sl 3 r.gp (r.picks.map ePick)), (47, sI r.picks.length), (48, sI i), (97, .sl 3 0 (L.map eOp)), (98, sI L.length), (99, sI j)], O2, n2⟩ K1 := by
  simp only [sc_AtomRuns_b1, sc_AtomRuns, SC.sub]
  have hK := shK atm
  obtain ⟨hLl, hi, hio, hLo, g3⟩ := cx
  have hl1 : 0 ≤ (L.length : Int) := by omega
  have hl2 : (L.length : Int) ≤ 1000000 := by omega
  have hl3 : L.length * 8 ≤ 140737488355328 := by omega
  have hl4 : L.length * 1 ≤ 140737488355328 := by omega
  have hst : ∀ q, q ∈ L → 1 - q.loc = 0 ∨ 1 - q.loc = 1 := fun q hq => by have := (hLo q hq).2; omega
  have hW := (hi i).1
  have hWI := (hi i).2
  have hO := hio i
  have hW' := (hi (i + 1)).1
  have hWI' := (hi (i + 1)).2
  have hO' := hio (i + 1)
  have hln := hW.len
  have hln' := hW'.len
  have kw := fun q => ok_l10word (Wr r L i) q hO (by omega)
  have hoL := hLo o (List.mem_of_getElem? ho)
  have hmL := (List.getElem?_eq_some_iff.1 ho).1
  have hid2 := nid (n := n2) (by have := hB.hn; have := hB.hx; omega)
  have b1 := hB.g1
  have b2 := hB.g2
  have b3 := hB.g3
  have b4 := hB.a1
  have b5 := hB.a2
  have b6 := hB.a3
  have b7 := hB.a4
  have hcl2 := hB.len
  have hbn := hB.hn
  have hbi := bid hbn hB.la hB.lb
  have F147 := And.intro @hK @zsh_nmp
  have hn1083 := hnA
  have hjl := (List.getElem?_eq_some_iff.1 hq).1
  have y2 : (j : Int) < (L.length : Int) := by omega
  have y3 : IntKind.i64.wrap ((j : Int) + 1) = ((j + 1 : Nat) : Int) := by rw [IntKind.wrap_i64]; omega
  have y4 : (0 : Int) ≤ (j : Int) := by omega
  have y5 := hjl
  rw [← hcl2] at y5
  have hqL := hLo q (List.mem_of_getElem? hq)
  have y6 : ((j : Int) == (m : Int)) = false := by have : ((j : Int) = m) = False := eq_false (by omega); simpa using this
  have F148 := And.intro F147 (And.intro @hid2 (And.intro @hbi (And.intro @b1 (And.intro @b2 (And.intro @b3 (And.intro @b4 (And.intro @b5 (And.intro @b6 (And.intro @b7 (And.intro @y2 (And.intro @y3 (And.intro @y4 (And.intro @y5 (And.intro @hjl (And.intro @hq (And.intro @hc2 @y6))))))))))))))))
  refine eS fun _ hn1170 _ _ => ?_;refine eO fun _ hk1171 => ?_;refine tZ F148 ?_;refine hk1171 _ ?_;refine hn1170 (some ([3,4,6,7,10,11,12,13,14,15,46,47,48,97,98,99,100], none)) _ ?_;refine eS fun _ hn1172 _ _ => ?_;refine eCt ?_;refine hn1172 (some ([3,4,6,7,10,11,12,13,14,15,46,47,48,97,98,99], none)) _ ?_;refine eS fun _ hn1173 _ _ => ?_;refine eB fun _ hn1174 _ _ _ => ?_;refine eS fun _ hn1175 _ _ => ?_;refine eO fun _ hk1176 => ?_;refine tC 2 F148 ?_;refine tC 1 F148 ?_;refine tZ F148 ?_;refine hk1176 _ ?_;refine hn1175 (some ([3,4,6,7,10,11,12,13,14,15,16,17,46,47,48,97,98,99], none)) _ ?_;refine eS fun _ hn1177 _ _ => ?_;refine eO fun _ hk1178 => ?_;refine tC 3 F148 ?_;refine tC 1 F148 ?_;refine tS 1 F148 ?_;refine Or.inl ⟨_, eqsh_nilmap, ?_⟩;refine tC 3 F148 ?_;refine tC 2 F148 ?_;refine tC 1 F148 ?_;refine tC 5 F148 ?_;refine tL F148 ?_;refine hk1178 _ ?_;refine hn1177 (some ([3,4,6,7,10,11,12,13,14,15,16,17,46,47,48,97,98,99,120], none)) _ ?_;refine eCf ?_;refine hn1174 _ ?_;refine hn1173 (some ([3,4,6,7,10,11,12,13,14,15,46,47,48,97,98,99], none)) _ ?_
  refine eO fun _ hk1179 => ?_;refine tC 1 F148 ?_;refine tL F148 ?_;refine hk1179 _ ?_;refine hn1083 (L.length - (j + 1)) (some ([3,4,6,7,10,11,12,13,14,15,46,47,48,97,98,99], none)) _ ?_ ?_
  all_goals try refine lp0 ?_
  · omega
  · exact ⟨j + 1, _, _, by omega, by omega, rfl, hB.same (by omega) (by omega) (fun e he => by simp only [getA, getA_delA]; repeat rw [if_neg (by omega)]), fun hm1 he => mayHas_same hB.may (hmay (by omega) he) (fun e _ he => by simp only [getA, getA_delA]; repeat rw [if_neg (by omega)])⟩
end Go.Proofs.Ytenbagffdlljdaa
namespace Go.Proofs.Ytenbagffdlljdaa
set_option linter.unusedSimpArgs false
set_option linter.unusedVariables false
open Go.RowKit Go.Maps
set_option maxHeartbeats 16000000 in
set_option maxRecDepth 20000 in
theorem ar1_s3 {r : RunV} {L : List OpV} (cx : ArCx r L) {i : Nat} (hi' : i ≤ r.picks.length) {cells : List Sh} {nx a b m : Nat} {o : OpV} {z : WordV} (ho : L[m]? = some o) {j : Nat} {O2 : List (Nat × Ob)} {n2 : Nat} (hj' : j ≤ L.length) (hB : BrF (Wr r L i) (Wr r L (i + 1)) L cells nx a b m o (Wd (Wr r L i).m o.loc) z (6 * i + j) O2 n2) (hmay : m < j → mkA o.kind o.n (Wd (Wr r L i).m o.loc).val = (Wd (Wr r L i).m o.loc).val → MayHas O2 cells m (Wd (Wr r L i).m o.loc).val) {q : OpV} (hq : L[j]? = some q) (hjm : j ≠ m) {d2 N2 : Nat} {f2 : Int → Option Sh} (hc2 : cells[j]? = some (Sh.own d2)) (hd42 : 4 ≤ d2) (hdn2 : d2 < n2) (hdg2 : getA O2 d2 = some (.map 2 N2 f2)) (hdN2 : N2 ≤ 6 * i + j) (hql : (q.loc == o.loc) = false)
    (K1 : Ex → St → Prop) (hnA : ∀ (k' : Nat) (kp : Option (List Nat × Option (List Nat × Nat))) (S' : St), k' < L.length - j → BrInv r L cells i nx a b m o (Wd (Wr r L i).m o.loc) z k' (S'.keep kp) → K1 .next S') :
    ev sc_AtomRuns_b1 ⟨[(3, .ptr 1 0 0), (4, .sl 3 0 (L.map eOp)), (6, .own 2), (7, .own 3), (10, .ptr (nx + 1) 0 0), (11, sB true), (12, sI m), (13, .ptr (nx + 2) 0 0), (14, .ptr a 0 0), (15, .ptr b 0 0), (46, .sl 3 r.gp (r.picks.map ePick)), (47, sI r.picks.length), (48, sI i), (97, .sl 3 0 (L.map eOp)), (98, sI L.length), (99, sI j)], O2, n2⟩ K1 := by
  simp only [sc_AtomRuns_b1, sc_AtomRuns, SC.sub]
  have hK := shK atm
  obtain ⟨hLl, hi, hio, hLo, g3⟩ := cx
  have hl1 : 0 ≤ (L.length : Int) := by omega
  have hl2 : (L.length : Int) ≤ 1000000 := by omega
  have hl3 : L.length * 8 ≤ 140737488355328 := by omega
  have hl4 : L.length * 1 ≤ 140737488355328 := by omega
  have hst : ∀ q, q ∈ L → 1 - q.loc = 0 ∨ 1 - q.loc = 1 := fun q hq => by have := (hLo q hq).2; omega
  have hW := (hi i).1
  have hWI := (hi i).2
  have hO := hio i
  have hW' := (hi (i + 1)).1
  have hWI' := (hi (i + 1)).2
  have hO' := hio (i + 1)
  have hln := hW.len
  have hln' := hW'.len
  have kw := fun q => ok_l10word (Wr r L i) q hO (by omega)
  have hoL := hLo o (List.mem_of_getElem? ho)
  have hmL := (List.getElem?_eq_some_iff.1 ho).1
  have hid2 := nid (n := n2) (by have := hB.hn; have := hB.hx; omega)
  have b1 := hB.g1
  have b2 := hB.g2
  have b3 := hB.g3
  have b4 := hB.a1
  have b5 := hB.a2
  have b6 := hB.a3
  have b7 := hB.a4
  have hcl2 := hB.len
  have hbn := hB.hn
  have hbi := bid hbn hB.la hB.lb
  have F149 := And.intro @hK @zsh_nmp
  have hn1083 := hnA
  have hjl := (List.getElem?_eq_some_iff.1 hq).1
  have y2 : (j : Int) < (L.length : Int) := by omega
  have y3 : IntKind.i64.wrap ((j : Int) + 1) = ((j + 1 : Nat) : Int) := by rw [IntKind.wrap_i64]; omega
  have y4 : (0 : Int) ≤ (j : Int) := by omega
  have y5 := hjl
  rw [← hcl2] at y5
  have hqL := hLo q (List.mem_of_getElem? hq)
  have y6 : ((j : Int) == (m : Int)) = false := by have : ((j : Int) = m) = False := eq_false (by omega); simpa using this
  have hd2 := did hd42 hdn2
  have F150 := And.intro F149 (And.intro @hid2 (And.intro @hbi (And.intro @b1 (And.intro @b2 (And.intro @b3 (And.intro @b4 (And.intro @b5 (And.intro @b6 (And.intro @b7 (And.intro @y2 (And.intro @y3 (And.intro @y4 (And.intro @y5 (And.intro @hjl (And.intro @hq (And.intro @hc2 (And.intro @y6 (And.intro @hd2 (And.intro @hdg2 @hql)))))))))))))))))))
  refine eS fun _ hn1180 _ _ => ?_;refine eO fun _ hk1181 => ?_;refine tZ F150 ?_;refine hk1181 _ ?_;refine hn1180 (some ([3,4,6,7,10,11,12,13,14,15,46,47,48,97,98,99,100], none)) _ ?_;refine eS fun _ hn1182 _ _ => ?_;refine eCt ?_;refine hn1182 (some ([3,4,6,7,10,11,12,13,14,15,46,47,48,97,98,99], none)) _ ?_;refine eS fun _ hn1183 _ _ => ?_;refine eB fun _ hn1184 _ _ _ => ?_;refine eS fun _ hn1185 _ _ => ?_;refine eO fun _ hk1186 => ?_;refine tC 2 F150 ?_;refine tC 1 F150 ?_;refine tZ F150 ?_;refine hk1186 _ ?_;refine hn1185 (some ([3,4,6,7,10,11,12,13,14,15,16,17,46,47,48,97,98,99], none)) _ ?_;refine eS fun _ hn1187 _ _ => ?_;refine eO fun _ hk1188 => ?_;refine tC 3 F150 ?_;refine tC 1 F150 ?_;refine tS 1 F150 ?_;refine Or.inr ⟨⟨_, _, Try.underlying96⟩, ?_⟩;refine tC 3 F150 ?_;refine tC 2 F150 ?_;refine tC 1 F150 ?_;refine tC 5 F150 ?_;refine tL F150 ?_;refine hk1188 _ ?_;refine hn1187 (some ([3,4,6,7,10,11,12,13,14,15,16,17,46,47,48,97,98,99,120], none)) _ ?_;refine eCf ?_;refine hn1184 _ ?_;refine hn1183 (some ([3,4,6,7,10,11,12,13,14,15,46,47,48,97,98,99], none)) _ ?_
  refine eO fun _ hk1189 => ?_;refine tC 1 F150 ?_;refine tL F150 ?_;refine hk1189 _ ?_;refine hn1083 (L.length - (j + 1)) (some ([3,4,6,7,10,11,12,13,14,15,46,47,48,97,98,99], none)) _ ?_ ?_
  all_goals try refine lp0 ?_
  · omega
  · exact ⟨j + 1, _, _, by omega, by omega, rfl, hB.same (by omega) (by omega) (fun e he => by simp only [getA, getA_delA]; repeat rw [if_neg (by omega)]), fun hm1 he => mayHas_same hB.may (hmay (by omega) he) (fun e _ he => by simp only [getA, getA_delA]; repeat rw [if_neg (by omega)])⟩
end Go.Proofs.Ytenbagffdlljdaa

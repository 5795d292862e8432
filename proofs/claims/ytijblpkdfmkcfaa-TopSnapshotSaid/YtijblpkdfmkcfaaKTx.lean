/-
  TopSnapshot by shadows: an act that closes a reader.
-/
import Derived.Test.YtijblpkdfmkcfaaKTw
namespace Go.Proofs.Ytijblpkdfmkcfaa
set_option linter.unusedSimpArgs false
set_option linter.unusedVariables false
open Go.RowKit Go.Maps

theorem TsI.closeNo {n : Nat} {v : TsV} (h : TsI n v) {m : Nat} {x : Int} (hm : v.s.rd[m]? = some (false, x)) :
    mWor v.wo ((m + 1 : Nat) : Int) = none ∧ updO v.wo ((m + 1 : Nat) : Int) none = v.wo ∧ updO v.si ((m + 1 : Nat) : Int) none = v.si := by
  have h0 := (h.open hm).1
  refine ⟨?_, updO_same h0, updO_same ((h.sok _).2 h0)⟩
  show (v.wo ((m + 1 : Nat) : Int)).map shI5 = none
  rw [h0]; rfl
set_option maxHeartbeats 4000000 in
theorem ts_cn {acts : List ActT} {i : Nat} {x : ActT} {ia ib iq : Nat} (hA : ActAt acts i x ia ib iq) {v : TsV} {N M : Nat} (hT : TsI i v) (hN : N ≤ 9) (hM : M ≤ 9) (d2 : (x.op.tmod 4 == 2) = false) (d3 : (x.op.tmod 4 == 3) = true)
    {ry : Int} (hm : v.s.rd[iq]? = some (false, ry)) {K : Ex → St → Prop} (hK : BodyK acts i K) : ev sc_TsBody (tsS v N M (.sl 6 2 (acts.map eAct)) acts.length i) K := by
  have hv := rdF _ hT.ok.rd
  have hq8 := hA.q8
  obtain ⟨r, hr, e⟩ := isR_at hT.ok.rd (i := iq) hq8
  rw [hm] at hr; cases hr
  have ko := ok_snClose_no hT.ok ((iq + 1 : Nat) : Int) (by omega) e
  clear e
  have hlt := hA.lt
  have hl6 := hA.len
  obtain ⟨hwn, u1, u2⟩ := hT.closeNo hm
  have q1 : IntKind.i64.wrap ((iq : Int) + 1) = ((iq + 1 : Nat) : Int) := by rw [IntKind.wrap_i64]; omega
  clear hm
  unfold tsS
  unfold sc_TsBody
  have F1 := And.intro @hv (And.intro @sh_nil (And.intro @i5_one (And.intro @hA.all (And.intro @d2 (And.intro @d3 (And.intro @hwn (And.intro @sgd_none (And.intro @sis_none (And.intro @i5_arg (And.intro @i5_frz @q1))))))))))
  refine eS fun K1 hn1 hr1 he1 => ?_
  refine eB fun K2 hn2 hx2 hr2 he2 => ?_
  refine eS fun K3 hn3 hr3 he3 => ?_
  refine eO fun K4 hk4 => ?_
  refine tC 1 F1 ?_
  refine tC 1 F1 ?_
  refine tZ F1 ?_
  refine hk4 _ ?_
  refine hn3 (some ([3, 5, 6, 7, 8, 10, 55, 56, 57], none)) _ ?_
  refine eS fun K5 hn5 hr5 he5 => ?_
  refine eD [] (n := 9) fun K6 hk6 => ?_
  refine sq0 ?_
  refine fC 2 F1 ?_
  refine fC 1 F1 ?_
  refine fC 3 F1 ?_
  refine fC 1 F1 ?_
  refine fL F1 ?_
  refine hk6 _ ?_
  refine sr0 ?_
  refine tL F1 ?_
  refine hn5 (some ([3, 5, 6, 7, 8, 10, 11, 12, 55, 56, 57], none)) _ ?_
  refine eS fun K8 hn8 hr8 he8 => ?_
  refine eS fun K9 hn9 hr9 he9 => ?_
  refine eO fun K10 hk10 => ?_
  refine tC 2 F1 ?_
  refine tZ F1 ?_
  refine hk10 _ ?_
  refine hn9 (some ([3, 5, 6, 7, 8, 10, 11, 12, 55, 56, 57, 71], none)) _ ?_
  refine eB fun K11 hn11 hx11 hr11 he11 => ?_
  refine eS fun K12 hn12 hr12 he12 => ?_
  refine eO fun K13 hk13 => ?_
  refine tC 1 F1 ?_
  refine tL F1 ?_
  refine hk13 _ ?_
  refine hn12 (some ([3, 5, 6, 7, 8, 10, 11, 12, 55, 56, 57, 71, 148], none)) _ ?_
  refine eCf ?_
  refine eS fun K14 hn14 hr14 he14 => ?_
  refine eO fun K15 hk15 => ?_
  refine tC 1 F1 ?_
  refine tL F1 ?_
  refine hk15 _ ?_
  refine hn14 (some ([3, 5, 6, 7, 8, 10, 11, 12, 55, 56, 57, 178], none)) _ ?_
  refine eCt ?_
  refine eS fun K16 hn16 hr16 he16 => ?_
  refine eO fun K17 hk17 => ?_
  refine tC 2 F1 ?_
  refine tC 1 F1 ?_
  refine tC 2 F1 ?_
  refine tL F1 ?_
  refine hk17 _ ?_
  refine hn16 (some ([3, 5, 6, 7, 8, 10, 18, 55, 56, 57], none)) _ ?_
  refine eS fun K18 hn18 hr18 he18 => ?_
  refine eO fun K19 hk19 => ?_
  refine tC 1 F1 ?_
  refine tS 1 F1 ?_
  refine tS 1 F1 ?_
  refine Or.inl (Or.inl ⟨_, ko, ?_⟩)
  refine tC 5 F1 ?_
  refine tL F1 ?_
  refine hk19 _ ?_
  refine hn18 (some ([3, 5, 6, 7, 8, 10, 18, 19, 20, 55, 56, 57], none)) _ ?_
  refine eS fun K20 hn20 hr20 he20 => ?_
  refine eS fun K21 hn21 hr21 he21 => ?_
  refine eO fun K22 hk22 => ?_
  refine tC 3 F1 ?_
  refine tC 5 F1 ?_
  refine tL F1 ?_
  refine hk22 _ ?_
  refine hn21 (some ([3, 5, 6, 7, 8, 10, 18, 19, 20, 22, 55, 56, 57], none)) _ ?_
  refine eS fun K23 hn23 hr23 he23 => ?_
  refine eO fun K24 hk24 => ?_
  refine tC 3 F1 ?_
  refine tL F1 ?_
  refine Or.inl ⟨_, eqsh_bool _ _, ?_⟩
  refine hk24 _ ?_
  refine hn23 (some ([3, 5, 6, 7, 8, 10, 18, 19, 55, 56, 57, 200], none)) _ ?_
  refine eCf ?_
  refine hn20 (some ([3, 5, 6, 7, 8, 10, 18, 19, 55, 56, 57], none)) _ ?_
  refine eS fun K25 hn25 hr25 he25 => ?_
  refine eO fun K26 hk26 => ?_
  refine tZ F1 ?_
  refine hk26 _ ?_
  refine hn25 (some ([3, 5, 6, 7, 8, 10, 18, 19, 55, 56, 57], none)) _ ?_
  refine eS fun K27 hn27 hr27 he27 => ?_
  refine eO fun K28 hk28 => ?_
  refine tZ F1 ?_
  refine hk28 _ ?_
  refine hn27 (some ([3, 5, 6, 7, 8, 10, 19, 55, 56, 57], none)) _ ?_
  refine eO fun K29 hk29 => ?_
  refine tC 1 F1 ?_
  refine tZ F1 ?_
  refine hk29 _ ?_
  refine hn11 _ ?_
  refine hn8 (some ([3, 5, 6, 7, 8, 10, 55, 56, 57], some ([0, 1, 2, 3, 4, 5], 6))) _ ?_
  refine lp0 ?_
  (try simp only [eRds_refs, eRds_ren, i5_refs, i5_ren, u5_refs, u5_ren, if_true])
  rw [delW_eq, delI_eq, u1, u2]
  refine ts_rest (x := x) hT (by omega) (fun v' hT' S' hS' => ?_)
  refine hn2 _ ?_
  refine hn1 (some ([3, 5, 6, 7, 8, 55, 56, 57], some ([0, 1, 2, 3, 4], 5))) _ ?_
  rw [hS']
  unfold tsS
  refine eO fun K30 hk30 => ?_
  refine tC 1 F1 ?_
  refine tL F1 ?_
  refine hk30 _ ?_
  refine hK v' _ _ hT'.mono hN hM _ ?_
  refine lp0 ?_
  unfold tsS
  (try simp only [eRds_refs, eRds_ren, i5_refs, i5_ren, u5_refs, u5_ren, if_true, and_self]) <;> rfl
theorem TsI.closeYes {n : Nat} {v : TsV} (h : TsI n v) {m : Nat} {x : Int} (hm : v.s.rd[m]? = some (true, x)) :
    ∃ w, mWor v.wo ((m + 1 : Nat) : Int) = some (shI5 w) ∧ List.take 5 (w.map sI) = w.map sI ∧ w.length = 5 := by
  obtain ⟨w, hw⟩ := Option.ne_none_iff_exists'.1 (h.rok m x hm)
  obtain ⟨_, _, _, _, _, _, _, wl, _⟩ := h.wok _ w hw
  refine ⟨w, ?_, List.take_of_length_le (by rw [List.length_map, wl]; omega), wl⟩
  show (v.wo ((m + 1 : Nat) : Int)).map shI5 = _
  rw [hw]; rfl
set_option maxHeartbeats 4000000 in
theorem ts_cy {acts : List ActT} {i : Nat} {x : ActT} {ia ib iq : Nat} (hA : ActAt acts i x ia ib iq) {v : TsV} {N M : Nat} (hT : TsI i v) (hN : N ≤ 9) (hM : M ≤ 9) (d2 : (x.op.tmod 4 == 2) = false) (d3 : (x.op.tmod 4 == 3) = true)
    {ry : Int} (hm : v.s.rd[iq]? = some (true, ry)) {K : Ex → St → Prop} (hK : BodyK acts i K) : ev sc_TsBody (tsS v N M (.sl 6 2 (acts.map eAct)) acts.length i) K := by
  have hv := rdF _ hT.ok.rd
  have hq8 := hA.q8
  have ko := ok_snClose hT.ok hm
  have hlt := hA.lt
  have hl6 := hA.len
  have hT2 := hT.close hm
  have hv2 := rdF (closeM v.s iq (true, ry)) hT2.ok.rd
  obtain ⟨w, hw, hw5, hwl⟩ := hT.closeYes hm
  have q1 : IntKind.i64.wrap ((iq : Int) + 1) = ((iq + 1 : Nat) : Int) := by rw [IntKind.wrap_i64]; omega
  clear hm
  unfold tsS
  unfold sc_TsBody
  have F1 := And.intro @hv (And.intro @sh_nil (And.intro @i5_one (And.intro @hA.all (And.intro @d2 (And.intro @d3 (And.intro @hv2 (And.intro @hw (And.intro @hw5 (And.intro @hwl (And.intro @sgd_some (And.intro @sis_some (And.intro @i5_arg (And.intro @i5_frz @q1)))))))))))))
  refine eS fun K1 hn1 hr1 he1 => ?_
  refine eB fun K2 hn2 hx2 hr2 he2 => ?_
  refine eS fun K3 hn3 hr3 he3 => ?_
  refine eO fun K4 hk4 => ?_
  refine tC 1 F1 ?_
  refine tC 1 F1 ?_
  refine tZ F1 ?_
  refine hk4 _ ?_
  refine hn3 (some ([3, 5, 6, 7, 8, 10, 55, 56, 57], none)) _ ?_
  refine eS fun K5 hn5 hr5 he5 => ?_
  refine eD [] (n := 9) fun K6 hk6 => ?_
  refine sq0 ?_
  refine fC 2 F1 ?_
  refine fC 1 F1 ?_
  refine fC 3 F1 ?_
  refine fC 1 F1 ?_
  refine fL F1 ?_
  refine hk6 _ ?_
  refine sr0 ?_
  refine tL F1 ?_
  refine hn5 (some ([3, 5, 6, 7, 8, 10, 11, 12, 55, 56, 57], none)) _ ?_
  refine eS fun K8 hn8 hr8 he8 => ?_
  refine eS fun K9 hn9 hr9 he9 => ?_
  refine eO fun K10 hk10 => ?_
  refine tC 2 F1 ?_
  refine tZ F1 ?_
  refine hk10 _ ?_
  refine hn9 (some ([3, 5, 6, 7, 8, 10, 11, 12, 55, 56, 57, 71], none)) _ ?_
  refine eB fun K11 hn11 hx11 hr11 he11 => ?_
  refine eS fun K12 hn12 hr12 he12 => ?_
  refine eO fun K13 hk13 => ?_
  refine tC 1 F1 ?_
  refine tL F1 ?_
  refine hk13 _ ?_
  refine hn12 (some ([3, 5, 6, 7, 8, 10, 11, 12, 55, 56, 57, 71, 148], none)) _ ?_
  refine eCf ?_
  refine eS fun K14 hn14 hr14 he14 => ?_
  refine eO fun K15 hk15 => ?_
  refine tC 1 F1 ?_
  refine tL F1 ?_
  refine hk15 _ ?_
  refine hn14 (some ([3, 5, 6, 7, 8, 10, 11, 12, 55, 56, 57, 178], none)) _ ?_
  refine eCt ?_
  refine eS fun K16 hn16 hr16 he16 => ?_
  refine eO fun K17 hk17 => ?_
  refine tC 2 F1 ?_
  refine tC 1 F1 ?_
  refine tC 2 F1 ?_
  refine tL F1 ?_
  refine hk17 _ ?_
  refine hn16 (some ([3, 5, 6, 7, 8, 10, 18, 55, 56, 57], none)) _ ?_
  refine eS fun K18 hn18 hr18 he18 => ?_
  refine eO fun K19 hk19 => ?_
  refine tC 1 F1 ?_
  refine tS 1 F1 ?_
  refine tS 1 F1 ?_
  refine Or.inl (Or.inl ⟨_, ko, ?_⟩)
  refine tC 5 F1 ?_
  refine tL F1 ?_
  refine hk19 _ ?_
  refine hn18 (some ([3, 5, 6, 7, 8, 10, 18, 19, 20, 55, 56, 57], none)) _ ?_
  refine eS fun K20 hn20 hr20 he20 => ?_
  refine eS fun K21 hn21 hr21 he21 => ?_
  refine eO fun K22 hk22 => ?_
  refine tC 3 F1 ?_
  refine tC 5 F1 ?_
  refine tL F1 ?_
  refine hk22 _ ?_
  refine hn21 (some ([3, 5, 6, 7, 8, 10, 18, 19, 20, 22, 55, 56, 57], none)) _ ?_
  refine eS fun K23 hn23 hr23 he23 => ?_
  refine eO fun K24 hk24 => ?_
  refine tC 3 F1 ?_
  refine tL F1 ?_
  refine Or.inl ⟨_, eqsh_bool _ _, ?_⟩
  refine hk24 _ ?_
  refine hn23 (some ([3, 5, 6, 7, 8, 10, 18, 19, 55, 56, 57, 200], none)) _ ?_
  refine eCf ?_
  refine hn20 (some ([3, 5, 6, 7, 8, 10, 18, 19, 55, 56, 57], none)) _ ?_
  refine eS fun K25 hn25 hr25 he25 => ?_
  refine eO fun K26 hk26 => ?_
  refine tZ F1 ?_
  refine hk26 _ ?_
  refine hn25 (some ([3, 5, 6, 7, 8, 10, 18, 19, 55, 56, 57], none)) _ ?_
  refine eS fun K27 hn27 hr27 he27 => ?_
  refine eO fun K28 hk28 => ?_
  refine tZ F1 ?_
  refine hk28 _ ?_
  refine hn27 (some ([3, 5, 6, 7, 8, 10, 19, 55, 56, 57], none)) _ ?_
  refine eO fun K29 hk29 => ?_
  refine tC 1 F1 ?_
  refine tZ F1 ?_
  refine hk29 _ ?_
  refine hn11 _ ?_
  refine hn8 (some ([3, 5, 6, 7, 8, 10, 55, 56, 57], some ([0, 1, 2, 3, 4, 5], 6))) _ ?_
  refine lp0 ?_
  (try simp only [eRds_refs, eRds_ren, i5_refs, i5_ren, u5_refs, u5_ren, if_true])
  rw [delW_eq, delI_eq]
  refine ts_rest (x := x) hT2 (by omega) (fun v' hT' S' hS' => ?_)
  refine hn2 _ ?_
  refine hn1 (some ([3, 5, 6, 7, 8, 55, 56, 57], some ([0, 1, 2, 3, 4], 5))) _ ?_
  rw [hS']
  unfold tsS
  refine eO fun K30 hk30 => ?_
  refine tC 1 F1 ?_
  refine tL F1 ?_
  refine hk30 _ ?_
  refine hK v' _ _ hT'.mono hN hM _ ?_
  refine lp0 ?_
  unfold tsS
  (try simp only [eRds_refs, eRds_ren, i5_refs, i5_ren, u5_refs, u5_ren, if_true, and_self]) <;> rfl
end Go.Proofs.Ytijblpkdfmkcfaa

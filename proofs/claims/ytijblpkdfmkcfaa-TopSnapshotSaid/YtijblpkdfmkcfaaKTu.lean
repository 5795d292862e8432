/-
  TopSnapshot by shadows: the law's walk.
-/
import Derived.Test.YtijblpkdfmkcfaaKTz
import Derived.Test.YtijblpkdfmkcfaaScT3
namespace Go.Proofs.Ytijblpkdfmkcfaa
set_option linter.unusedSimpArgs false
set_option linter.unusedVariables false
open Go.RowKit Go.Maps

theorem ts_body {acts : List ActT} {i : Nat} {x : ActT} (hx : acts[i]? = some x) (hok : ActOk x) (hlen : acts.length ≤ 60) {v : TsV} {N M : Nat} (hT : TsI i v) (hN : N ≤ 9) (hM : M ≤ 9)
    {K : Ex → St → Prop} (hK : BodyK acts i K) : ev sc_TsBody (tsS v N M (.sl 6 2 (acts.map eAct)) acts.length i) K := by
  obtain ⟨_, ha, hb, hq⟩ := hok
  obtain ⟨ia, h1, h2⟩ := u8_mod ha (k := 5) (by decide) (by decide)
  obtain ⟨ib, h3, h4⟩ := u8_mod hb (k := 5) (by decide) (by decide)
  obtain ⟨iq, h5, h6⟩ := u8_mod hq (k := 8) (by decide) (by decide)
  have hA : ActAt acts i x ia ib iq := ⟨hx, hlen, by omega, by omega, by omega, h2, h4, h6⟩
  cases d2 : (x.op.tmod 4 == 2) with
  | true =>
    have := rd_cases v.s.rd
    rw [hT.ok.rd] at this
    rcases this with hop | ⟨rm, ry, hm, hlo⟩
    · exact ts_of hA hT hN hM d2 hop hK
    · exact ts_oo hA hT hN hM d2 hm hlo hK
  | false =>
    cases d3 : (x.op.tmod 4 == 3) with
    | true =>
      obtain ⟨⟨b, y⟩, hr⟩ : ∃ r, v.s.rd[iq]? = some r := ⟨_, List.getElem?_eq_getElem (by rw [hT.ok.rd]; omega)⟩
      cases b with
      | false => exact ts_cn hA hT hN hM d2 d3 hr hK
      | true => exact ts_cy hA hT hN hM d2 d3 hr hK
    | false =>
      by_cases e : ib = ia
      · subst e; exact ts_c1 hA hT hN hM d2 d3 hK
      · exact ts_c2 hA e hT hN hM d2 d3 hK
def L0Inv (acts : List ActT) (k : Nat) (S : St) : Prop :=
  ∃ i v N M, TsI i v ∧ i ≤ acts.length ∧ N ≤ 9 ∧ M ≤ 9 ∧ k = acts.length - i ∧ S = tsS v N M (.sl 6 2 (acts.map eAct)) acts.length i
set_option maxHeartbeats 8000000 in
theorem ok_TopSnapshot (acts : List ActT) (hA : ∀ x ∈ acts, ActOk x) : Ok 3 [.sl 6 2 (acts.map eAct)] (sB true) := by
  refine ok_of_trX Try.func3 tr_TopSnapshotO rfl ?_
  by_cases h60 : 60 < acts.length
  · have d1 : ((acts.length : Int) > 60) := by omega
    unfold evFn sc_TopSnapshotO rv_TopSnapshotO
    have F1 := @d1
    refine eS fun K1 hn1 hr1 he1 => ?_
    refine eO fun K2 hk2 => ?_
    refine tL F1 ?_
    refine hk2 _ ?_
    refine hn1 (some ([0], none)) _ ?_
    refine eS fun K3 hn3 hr3 he3 => ?_
    refine eS fun K4 hn4 hr4 he4 => ?_
    refine eO fun K5 hk5 => ?_
    refine tS 1 F1 ?_
    refine Or.inl (Or.inl ⟨_, ok_tsAwake, ?_⟩)
    refine tL F1 ?_
    refine hk5 _ ?_
    refine hn4 (some ([0, 43], none)) _ ?_
    refine eCf ?_
    refine hn3 (some ([0], none)) _ ?_
    refine eS fun K6 hn6 hr6 he6 => ?_
    refine eS fun K7 hn7 hr7 he7 => ?_
    refine eO fun K8 hk8 => ?_
    refine tZ F1 ?_
    refine hk8 _ ?_
    refine hn7 (some ([0, 46], none)) _ ?_
    refine eCt ?_
    refine eS fun K9 hn9 hr9 he9 => ?_
    refine eO fun K10 hk10 => ?_
    refine tL F1 ?_
    refine hk10 _ ?_
    refine hn9 (some ([2], none)) _ ?_
    refine hr6 _ ?_
    exact sf1 F1
  have d1 : ¬ ((acts.length : Int) > 60) := by omega
  have kn := ok_snNew (n := 5) (by decide) (by decide)
  have hs0 := rdF (newM 5) rfl
  unfold evFn sc_TopSnapshotO rv_TopSnapshotO
  have F1 := And.intro @d1 (And.intro @hs0 (And.intro @sh_nil @i5_one))
  refine eS fun K1 hn1 hr1 he1 => ?_
  refine eO fun K2 hk2 => ?_
  refine tL F1 ?_
  refine hk2 _ ?_
  refine hn1 (some ([0], none)) _ ?_
  refine eS fun K3 hn3 hr3 he3 => ?_
  refine eS fun K4 hn4 hr4 he4 => ?_
  refine eO fun K5 hk5 => ?_
  refine tS 1 F1 ?_
  refine Or.inl (Or.inl ⟨_, ok_tsAwake, ?_⟩)
  refine tL F1 ?_
  refine hk5 _ ?_
  refine hn4 (some ([0, 43], none)) _ ?_
  refine eCf ?_
  refine hn3 (some ([0], none)) _ ?_
  refine eS fun K6 hn6 hr6 he6 => ?_
  refine eS fun K7 hn7 hr7 he7 => ?_
  refine eO fun K8 hk8 => ?_
  refine tZ F1 ?_
  refine hk8 _ ?_
  refine hn7 (some ([0, 46], none)) _ ?_
  refine eCf ?_
  refine hn6 (some ([0], none)) _ ?_
  refine eS fun K9 hn9 hr9 he9 => ?_
  refine eO fun K10 hk10 => ?_
  refine tS 1 F1 ?_
  refine Or.inl (Or.inl ⟨_, kn, ?_⟩)
  refine tC 5 F1 ?_
  refine tL F1 ?_
  refine hk10 _ ?_
  refine hn9 (some ([0, 3, 4], none)) _ ?_
  refine eS fun K11 hn11 hr11 he11 => ?_
  refine eS fun K12 hn12 hr12 he12 => ?_
  refine eO fun K13 hk13 => ?_
  refine tZ F1 ?_
  refine hk13 _ ?_
  refine hn12 (some ([0, 3, 52], none)) _ ?_
  refine eCf ?_
  refine hn11 (some ([0, 3], none)) _ ?_
  refine eS fun K14 hn14 hr14 he14 => ?_
  refine eO fun K15 hk15 => ?_
  refine tL F1 ?_
  refine hk15 _ ?_
  refine hn14 (some ([0, 3, 5], none)) _ ?_
  refine eS fun K16 hn16 hr16 he16 => ?_
  refine eO fun K17 hk17 => ?_
  refine tL F1 ?_
  refine hk17 _ ?_
  refine hn16 (some ([0, 3, 5, 6], none)) _ ?_
  refine eS fun K18 hn18 hr18 he18 => ?_
  refine eO fun K19 hk19 => ?_
  refine tL F1 ?_
  refine hk19 _ ?_
  refine hn18 (some ([0, 3, 5, 6, 7], none)) _ ?_
  refine eS fun K20 hn20 hr20 he20 => ?_
  refine eO fun K21 hk21 => ?_
  refine tL F1 ?_
  refine hk21 _ ?_
  refine hn20 (some ([0, 3, 5, 6, 7, 8], none)) _ ?_
  refine eS fun K22 hn22 hr22 he22 => ?_
  refine eS fun K23 hn23 hr23 he23 => ?_
  refine eO fun K24 hk24 => ?_
  refine tL F1 ?_
  refine hk24 _ ?_
  refine hn23 (some ([3, 5, 6, 7, 8, 55, 56, 57], none)) _ ?_
  refine eB fun K25 hn25 hx25 hr25 he25 => ?_
  refine eW (L0Inv acts) (acts.length) (some ([3, 5, 6, 7, 8, 55, 56, 57], some ([0, 1, 2, 3, 4], 5))) ([]) ?_ ?_
  · try refine lp0 ?_
    refine ⟨0, ⟨newM 5, List.replicate 5 0, List.replicate 5 0, fun _ => none, fun _ => none⟩, 0, 0, TsI.start, by omega, by omega, by omega, by omega, ?_⟩
    (try simp only [eRds_refs, eRds_ren, i5_refs, i5_ren, u5_refs, u5_ren, if_true]) <;> rfl
  · intro k S1 hI
    obtain ⟨i, v, N, M, hT, hi, hN, hM, rfl, rfl⟩ := hI
    have hcase : i = acts.length ∨ ∃ x, acts[i]? = some x ∧ ActOk x := by
      rcases Nat.lt_or_ge i acts.length with h | h
      · exact .inr ⟨_, List.getElem?_eq_getElem h, hA _ (List.getElem_mem h)⟩
      · exact .inl (by omega)
    unfold tsS
    intro K26 hn26 hr26 he26
    rcases hcase with hcc | ⟨x, hx1, hok⟩
    · skip
      have w2 : ¬ (i : Int) < (acts.length : Int) := by omega
      have F2 := And.intro F1 @w2
      refine eS fun K27 hn27 hr27 he27 => ?_
      refine eO fun K28 hk28 => ?_
      refine tZ F2 ?_
      refine hk28 _ ?_
      refine hn27 (some ([3, 5, 6, 7, 8, 55, 56, 57, 58], none)) _ ?_
      refine eS fun K29 hn29 hr29 he29 => ?_
      refine eCf ?_
      refine he29 0 _ ?_
      refine he26 0 _ ?_
      refine hx25 _ ?_
      refine hn22 (some ([], none)) _ ?_
      refine eS fun K30 hn30 hr30 he30 => ?_
      refine eO fun K31 hk31 => ?_
      refine tL F2 ?_
      refine hk31 _ ?_
      refine hn30 (some ([2], none)) _ ?_
      exact sf1 F2
    · skip
      have hlt := (List.getElem?_eq_some_iff.1 hx1).1
      have w2 : (i : Int) < (acts.length : Int) := by omega
      have F3 := And.intro F1 @w2
      refine eS fun K32 hn32 hr32 he32 => ?_
      refine eO fun K33 hk33 => ?_
      refine tZ F3 ?_
      refine hk33 _ ?_
      refine hn32 (some ([3, 5, 6, 7, 8, 55, 56, 57, 58], none)) _ ?_
      refine eS fun K34 hn34 hr34 he34 => ?_
      refine eCt ?_
      refine hn34 (some ([3, 5, 6, 7, 8, 55, 56, 57], some ([0, 1, 2, 3, 4], 5))) _ ?_
      refine lp0 ?_
      (try simp only [eRds_refs, eRds_ren, i5_refs, i5_ren, u5_refs, u5_ren, if_true])
      refine ts_body hx1 hok (by omega) hT hN hM (fun v' N' M' hT' hN' hM' S' hS' => ?_)
      refine hn26 (acts.length - (i + 1)) (some ([3, 5, 6, 7, 8, 55, 56, 57], some ([0, 1, 2, 3, 4], 5))) _ ?_ ?_
      · omega
      · rw [hS']
        exact ⟨i + 1, v', N', M', hT', by omega, hN', hM', rfl, rfl⟩
end Go.Proofs.Ytijblpkdfmkcfaa

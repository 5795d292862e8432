/-
  The reference of layer 4 by shadows: swaps, any operation.
-/
import Derived.Test.YtfcjkchpldfamaaK4y
import Derived.Test.YtfcjkchpldfamaaMC
namespace Go.Proofs.Ytfcjkchpldfamaa
set_option linter.unusedSimpArgs false
set_option linter.unusedVariables false
open Go.RowKit Go.Maps

set_option maxHeartbeats 4000000 in
theorem ok_r4Swap (M : MemM) (t a : Int) (o w : WordV) {n : Nat} (hM : MemOk M n) (hn : n ≤ 10000) (hI : MemIn M) : Ok 61 [eRef4 (refOf M), sI t, sI a, .agg (eWord o), .agg (eWord w)] (.tup [eRef4 (refOf (mswapM M t a o w).1), .agg (eWord (mswapM M t a o w).2.1), sB (mswapM M t a o w).2.2.1, sI (mswapM M t a o w).2.2.2]) := by
  refine ok_of_tr Try.func61 tr_r4Swap rfl ?_
  have c0 := ok_r4Look M t a hM hn hI
  have hMl := memOk_look hM t a
  have hIl := memIn_look hM hI t a
  obtain ⟨s1, s2⟩ := size_look M t a
  have hh : histM (look1M M t a).1 a = histM M a := by unfold histM; rw [s2]
  unfold mswapM
  by_cases hw : wrongM M t a = 0
  case neg =>
    rw [if_neg (fun h => hw h.1)]
    have e3 : (look1M M t a).2.2 = wrongM M t a := by unfold look1M; rw [if_neg hw]
    rw [← e3] at hw
    clear hMl hIl s1 s2 e3 hh
    generalize look1M M t a = Q at c0 hw ⊢
    have d : (Q.2.2 != 0) = true := by simpa using hw
    unfold evFn sc_r4Swap rv_r4Swap
    have F1 := @d
    refine ev_seq_k fun K1 hn1 hr1 he1 => ?_
    refine ev_ops_k fun K2 hk2 => ?_
    refine sh1 F1 ?_
    refine hk2 _ ?_
    refine hn1 (some ([1, 2, 5, 8, 9, 10, 11], none)) _ ?_
    refine ev_seq_k fun K3 hn3 hr3 he3 => ?_
    refine ev_ops_k fun K4 hk4 => ?_
    refine evL_take 1 fun K5 hk5 => ?_
    refine sh1 F1 ?_
    refine sd ?_
    refine hk5 _ ?_
    refine evL_take 2 fun K6 hk6 => ?_
    refine sh1 F1 ?_
    refine hk6 _ ?_
    refine evL_take 1 fun K7 hk7 => ?_
    refine sh1 F1 ?_
    refine Or.inl (Or.inl ⟨_, c0, ?_⟩)
    refine hk7 _ ?_
    refine evL_take 7 fun K8 hk8 => ?_
    refine sh1 F1 ?_
    refine sd ?_
    refine hk8 _ ?_
    refine evL_take 1 fun K9 hk9 => ?_
    refine sh1 F1 ?_
    refine sd ?_
    refine hk9 _ ?_
    refine sh1 F1 ?_
    refine hk4 _ ?_
    refine hn3 (some ([1, 2, 5, 8, 9, 10, 11, 14, 15, 16], none)) _ ?_
    refine ev_seq_k fun K10 hn10 hr10 he10 => ?_
    refine ev_seq_k fun K11 hn11 hr11 he11 => ?_
    refine ev_ops_k fun K12 hk12 => ?_
    refine evL_take 2 fun K13 hk13 => ?_
    refine sh1 F1 ?_
    refine sd ?_
    refine hk13 _ ?_
    refine evL_take 2 fun K14 hk14 => ?_
    refine sh1 F1 ?_
    refine sd ?_
    refine hk14 _ ?_
    refine evL_take 1 fun K15 hk15 => ?_
    refine sh1 F1 ?_
    refine sd ?_
    refine hk15 _ ?_
    refine evL_take 1 fun K16 hk16 => ?_
    refine sh1 F1 ?_
    skip
    refine hk16 _ ?_
    refine sh1 F1 ?_
    refine hk12 _ ?_
    refine hn11 (some ([1, 2, 5, 9, 10, 11, 14, 15, 16, 33], none)) _ ?_
    refine ev_cond_k rfl (fun hc0 => ?_) (fun hx => absurd hx (by simp at hx))
    clear hc0
    refine ev_seq_k fun K17 hn17 hr17 he17 => ?_
    refine ev_ord_i ([]) [10, 11, 12, 13] [0, 1, 2, 5, 6] [3, 4] (by kernel_rfl) (fun K18 hk18 => ?_)
    refine sp0 ?_
    have F2 := And.intro F1 @shPP
    refine evP_take 1 fun K19 hk19 => ?_
    refine sh1 F2 ?_
    refine sd ?_
    refine hk19 _ ?_
    refine evP_take 1 fun K20 hk20 => ?_
    refine sh1 F2 ?_
    refine sd ?_
    refine hk20 _ ?_
    refine sh1 F2 ?_
    refine hk18 _ (by rfl) (fun K21 hk21 => ?_)
    refine sp0 ?_
    refine evL_take 1 fun K22 hk22 => ?_
    refine sh1 F2 ?_
    refine sd ?_
    refine hk22 _ ?_
    refine sh1 F2 ?_
    refine sd ?_
    refine hk21 _ ?_
    refine so0 ?_
    refine hn17 (some ([10, 11, 12, 13], none)) _ ?_
    refine hr10 _ ?_
    exact sf1 F2
  obtain ⟨ht, ha⟩ := wrong_zero.1 hw
  have e3 : (look1M M t a).2.2 = 0 := by unfold look1M; rw [if_pos hw]
  rw [e3] at c0
  rw [e3]
  by_cases he : weq (look1M M t a).2.1 o = true
  case neg =>
    rw [if_neg (fun h => he h.2)]
    have he' : weq (look1M M t a).2.1 o = false := by simpa using he
    have hE : EqSh 29 (.agg (eWord (look1M M t a).2.1)) (.agg (eWord o)) false := by rw [← he']; exact eqsh_word _ _
    clear hMl hIl s1 s2 e3 hh
    generalize look1M M t a = Q at c0 hE ⊢
    unfold evFn sc_r4Swap rv_r4Swap
    refine ev_seq_k fun K1 hn1 hr1 he1 => ?_
    refine ev_ops_k fun K2 hk2 => ?_
    refine sh0 ?_
    refine hk2 _ ?_
    refine hn1 (some ([1, 2, 5, 8, 9, 10, 11], none)) _ ?_
    refine ev_seq_k fun K3 hn3 hr3 he3 => ?_
    refine ev_ops_k fun K4 hk4 => ?_
    refine evL_take 1 fun K5 hk5 => ?_
    refine sh0 ?_
    refine sd ?_
    refine hk5 _ ?_
    refine evL_take 2 fun K6 hk6 => ?_
    refine sh0 ?_
    refine hk6 _ ?_
    refine evL_take 1 fun K7 hk7 => ?_
    refine sh0 ?_
    refine Or.inl (Or.inl ⟨_, c0, ?_⟩)
    refine hk7 _ ?_
    refine evL_take 7 fun K8 hk8 => ?_
    refine sh0 ?_
    refine sd ?_
    refine hk8 _ ?_
    refine evL_take 1 fun K9 hk9 => ?_
    refine sh0 ?_
    refine sd ?_
    refine hk9 _ ?_
    refine sh0 ?_
    refine hk4 _ ?_
    refine hn3 (some ([1, 2, 5, 8, 9, 10, 11, 14, 15, 16], none)) _ ?_
    refine ev_seq_k fun K10 hn10 hr10 he10 => ?_
    refine ev_seq_k fun K11 hn11 hr11 he11 => ?_
    refine ev_ops_k fun K12 hk12 => ?_
    refine evL_take 2 fun K13 hk13 => ?_
    refine sh0 ?_
    refine sd ?_
    refine hk13 _ ?_
    refine evL_take 2 fun K14 hk14 => ?_
    refine sh0 ?_
    refine sd ?_
    refine hk14 _ ?_
    refine evL_take 1 fun K15 hk15 => ?_
    refine sh0 ?_
    refine sd ?_
    refine hk15 _ ?_
    refine evL_take 1 fun K16 hk16 => ?_
    refine sh0 ?_
    refine Or.inl ⟨_, hE, ?_⟩
    refine hk16 _ ?_
    refine sh0 ?_
    refine hk12 _ ?_
    refine hn11 (some ([1, 2, 5, 9, 10, 11, 14, 15, 16, 33], none)) _ ?_
    refine ev_cond_k rfl (fun hc0 => ?_) (fun hx => absurd hx (by simp at hx))
    clear hc0
    refine ev_seq_k fun K17 hn17 hr17 he17 => ?_
    refine ev_ord_i ([]) [10, 11, 12, 13] [0, 1, 2, 5, 6] [3, 4] (by kernel_rfl) (fun K18 hk18 => ?_)
    refine sp0 ?_
    have F1 := @shPP
    refine evP_take 1 fun K19 hk19 => ?_
    refine sh1 F1 ?_
    refine sd ?_
    refine hk19 _ ?_
    refine evP_take 1 fun K20 hk20 => ?_
    refine sh1 F1 ?_
    refine sd ?_
    refine hk20 _ ?_
    refine sh1 F1 ?_
    refine hk18 _ (by rfl) (fun K21 hk21 => ?_)
    refine sp0 ?_
    refine evL_take 1 fun K22 hk22 => ?_
    refine sh1 F1 ?_
    refine sd ?_
    refine hk22 _ ?_
    refine sh1 F1 ?_
    refine sd ?_
    refine hk21 _ ?_
    refine so0 ?_
    refine hn17 (some ([10, 11, 12, 13], none)) _ ?_
    refine hr10 _ ?_
    exact sf1 F1
  rw [if_pos ⟨hw, he⟩]
  have hE : EqSh 29 (.agg (eWord (look1M M t a).2.1)) (.agg (eWord o)) true := by rw [← he]; exact eqsh_word _ _
  have ht' : ThrB (look1M M t a).1 t := by unfold ThrB; rw [s1]; exact ht
  have ha' : PlcB (look1M M t a).1 a := by unfold PlcB; rw [s2]; exact ha
  obtain ⟨p, hap, hpl, em⟩ := ref_msgs ha
  subst hap
  have em' : (refOf (look1M M t p).1).msgs[p]? = some ((histM M p).map (refMsg M.places.length)) := by
    unfold refOf at em ⊢
    rw [s2]; exact em
  obtain ⟨m, hmt, hml, ev⟩ := ref_views ht'
  subst hmt
  have hl := hist_len hM p
  have hp := hist_pos hM ha
  have hv := seen_ok hMl ((m : Int) + 1)
  have v0 := vGet_nonneg hv p
  have v1 := hIl.seen ((m : Int) + 1) p ha'
  rw [hh] at v1
  rw [s2] at ev
  have hpl2 := hM.pl
  have hvl2 := hM.vl
  have hdef : addsM (look1M M ((m : Int) + 1) p).1 ((m : Int) + 1) p w true = withM ⟨M.places.set p (histM M p ++ [⟨w, (m : Int) + 1, vWith (seenM (look1M M ((m : Int) + 1) p).1 ((m : Int) + 1)) p (histM M p).length⟩]), (look1M M ((m : Int) + 1) p).1.views⟩ ((m : Int) + 1) (vWith (seenM (look1M M ((m : Int) + 1) p).1 ((m : Int) + 1)) p (histM M p).length) := by
    unfold addsM toldM
    rw [hh, if_pos rfl, s2]; rfl
  rw [hdef]
  have d1 : (p : Int) < ((refOf M).msgs.length : Int) := by rw [(ref_len M).2]; omega
  have d2 : (m : Int) < ((refOf (look1M M ((m : Int) + 1) p).1).views.length : Int) := by rw [(ref_len _).1]; omega
  have c4 := ok_r4know' hMl (by omega) (vWith (seenM (look1M M ((m : Int) + 1) p).1 ((m : Int) + 1)) p (histM M p).length)
  rw [s2] at c4
  have ek : (refOf (withM (look1M M ((m : Int) + 1) p).1 ((m : Int) + 1) (vWith (seenM (look1M M ((m : Int) + 1) p).1 ((m : Int) + 1)) p (histM M p).length))).msgs[p]? = some ((histM M p).map (refMsg M.places.length)) := by rw [ref_with]; exact em'
  have c5 := fun (x : MsgV) => ok_r4add _ p (refMsg M.places.length x) ek (by simp; omega) (by rw [ref_with, (ref_len _).2, s2]; exact hpl2)
  have e5 : ∀ x : MsgV, (⟨(refOf (withM (look1M M ((m : Int) + 1) p).1 ((m : Int) + 1) (vWith (seenM (look1M M ((m : Int) + 1) p).1 ((m : Int) + 1)) p (histM M p).length))).views, (refOf (withM (look1M M ((m : Int) + 1) p).1 ((m : Int) + 1) (vWith (seenM (look1M M ((m : Int) + 1) p).1 ((m : Int) + 1)) p (histM M p).length))).msgs.set p ((histM M p).map (refMsg M.places.length) ++ [refMsg M.places.length x])⟩ : RefM4) = refOf (withM ⟨M.places.set p (histM M p ++ [x]), (look1M M ((m : Int) + 1) p).1.views⟩ ((m : Int) + 1) (vWith (seenM (look1M M ((m : Int) + 1) p).1 ((m : Int) + 1)) p (histM M p).length)) := fun x => by
    have := ref_put (look1M M ((m : Int) + 1) p).1 p (histM M p ++ [x])
    rw [s2] at this
    rw [ref_with, ref_with, this, s2]
    simp only [List.map_append, List.map_cons, List.map_nil, List.length_set]
  have c6 := fun x => Eq.mp (congrArg (fun r => Ok 84 [eRef4 (refOf (withM (look1M M ((m : Int) + 1) p).1 ((m : Int) + 1) (vWith (seenM (look1M M ((m : Int) + 1) p).1 ((m : Int) + 1)) p (histM M p).length))), sI p, .agg (eRM (refMsg M.places.length x))] (eRef4 r)) (e5 x)) (c5 x)
  have c7 := c6 ⟨w, (m : Int) + 1, vWith (seenM (look1M M ((m : Int) + 1) p).1 ((m : Int) + 1)) p (histM M p).length⟩
  simp only [refMsg] at c7
  have c2 := ok_r4with 0 (toL M.places.length (seenM (look1M M ((m : Int) + 1) p).1 ((m : Int) + 1))) p (histM M p).length (by rw [toL_len]; exact hpl) (by rw [toL_len]; omega)
  rw [← toL_with _ _ p _ (by omega) hpl (by omega)] at c2
  have q2 : IntKind.i64.wrap ((m : Int) + 1 - 1) = (m : Int) := by rw [IntKind.wrap_i64]; omega
  have elen : ((histM M p).map (refMsg M.places.length)).length = (histM M p).length := by simp
  clear hdef c5 c6 e5 ek e3
  rw [← elen] at c2 c4 c7 ⊢
  generalize (histM M p).map (refMsg M.places.length) = hs at em elen c2 c4 c7 ⊢
  generalize vWith (seenM (look1M M ((m : Int) + 1) p).1 ((m : Int) + 1)) p hs.length = v at c2 c4 c7 ⊢
  generalize toL M.places.length (seenM (look1M M ((m : Int) + 1) p).1 ((m : Int) + 1)) = sv at ev c2
  clear hMl hIl s1 s2 hh ht' ha' em' hv v0 v1 he hw
  generalize look1M M ((m : Int) + 1) p = Q at c0 c4 c7 ev d2 hE ⊢
  generalize refOf M = R at c0 em d1
  generalize refOf Q.1 = R2 at c0 c4 ev d2
  unfold evFn sc_r4Swap rv_r4Swap
  have F1 := And.intro @q2 (And.intro @d1 (And.intro @d2 (And.intro @em @ev)))
  refine ev_seq_k fun K1 hn1 hr1 he1 => ?_
  refine ev_ops_k fun K2 hk2 => ?_
  refine sh1 F1 ?_
  refine hk2 _ ?_
  refine hn1 (some ([1, 2, 5, 8, 9, 10, 11], none)) _ ?_
  refine ev_seq_k fun K3 hn3 hr3 he3 => ?_
  refine ev_ops_k fun K4 hk4 => ?_
  refine evL_take 1 fun K5 hk5 => ?_
  refine sh1 F1 ?_
  refine sd ?_
  refine hk5 _ ?_
  refine evL_take 2 fun K6 hk6 => ?_
  refine sh1 F1 ?_
  refine hk6 _ ?_
  refine evL_take 1 fun K7 hk7 => ?_
  refine sh1 F1 ?_
  refine Or.inl (Or.inl ⟨_, c0, ?_⟩)
  refine hk7 _ ?_
  refine evL_take 7 fun K8 hk8 => ?_
  refine sh1 F1 ?_
  refine sd ?_
  refine hk8 _ ?_
  refine evL_take 1 fun K9 hk9 => ?_
  refine sh1 F1 ?_
  refine sd ?_
  refine hk9 _ ?_
  refine sh1 F1 ?_
  refine hk4 _ ?_
  refine hn3 (some ([1, 2, 5, 8, 9, 10, 11, 14, 15, 16], none)) _ ?_
  refine ev_seq_k fun K10 hn10 hr10 he10 => ?_
  refine ev_seq_k fun K11 hn11 hr11 he11 => ?_
  refine ev_ops_k fun K12 hk12 => ?_
  refine evL_take 2 fun K13 hk13 => ?_
  refine sh1 F1 ?_
  refine sd ?_
  refine hk13 _ ?_
  refine evL_take 2 fun K14 hk14 => ?_
  refine sh1 F1 ?_
  refine sd ?_
  refine hk14 _ ?_
  refine evL_take 1 fun K15 hk15 => ?_
  refine sh1 F1 ?_
  refine sd ?_
  refine hk15 _ ?_
  refine evL_take 1 fun K16 hk16 => ?_
  refine sh1 F1 ?_
  refine Or.inl ⟨_, hE, ?_⟩
  refine hk16 _ ?_
  refine sh1 F1 ?_
  refine hk12 _ ?_
  refine hn11 (some ([1, 2, 5, 9, 10, 11, 14, 15, 16, 33], none)) _ ?_
  refine ev_cond_k rfl (fun hx => absurd hx (by simp at hx)) (fun hc0 => ?_)
  clear hc0
  refine hn10 (some ([1, 2, 5, 9, 10, 11, 14, 15], none)) _ ?_
  refine ev_seq_k fun K17 hn17 hr17 he17 => ?_
  refine ev_ops_k fun K18 hk18 => ?_
  refine evL_take 2 fun K19 hk19 => ?_
  refine sh1 F1 ?_
  refine sd ?_
  refine hk19 _ ?_
  refine evL_take 2 fun K20 hk20 => ?_
  refine sh1 F1 ?_
  refine sd ?_
  refine hk20 _ ?_
  refine evL_take 1 fun K21 hk21 => ?_
  refine sh1 F1 ?_
  refine sd ?_
  refine hk21 _ ?_
  refine sh1 F1 ?_
  refine hk18 _ ?_
  refine hn17 (some ([1, 2, 9, 10, 11, 14, 15, 17], none)) _ ?_
  refine ev_seq_k fun K22 hn22 hr22 he22 => ?_
  refine ev_ops_k fun K23 hk23 => ?_
  refine evL_take 2 fun K24 hk24 => ?_
  refine sh1 F1 ?_
  refine sd ?_
  refine hk24 _ ?_
  refine evL_take 2 fun K25 hk25 => ?_
  refine sh1 F1 ?_
  refine sd ?_
  refine hk25 _ ?_
  refine evL_take 1 fun K26 hk26 => ?_
  refine sh1 F1 ?_
  refine sd ?_
  refine hk26 _ ?_
  refine evL_take 1 fun K27 hk27 => ?_
  refine sh1 F1 ?_
  refine sd ?_
  refine hk27 _ ?_
  refine evL_take 2 fun K28 hk28 => ?_
  refine sh1 F1 ?_
  refine hk28 _ ?_
  refine evL_take 1 fun K29 hk29 => ?_
  refine sh1 F1 ?_
  refine Or.inl (Or.inl ⟨_, c2, ?_⟩)
  refine hk29 _ ?_
  refine sh1 F1 ?_
  refine hk23 _ ?_
  refine hn22 (some ([1, 2, 9, 10, 11, 14, 15, 18], none)) _ ?_
  refine ev_seq_k fun K30 hn30 hr30 he30 => ?_
  refine ev_ord_i ([]) [10, 11, 12, 13] [0, 1, 2, 3, 4, 5, 6, 7, 8, 9, 12, 13] [10, 11] (by kernel_rfl) (fun K31 hk31 => ?_)
  refine sp0 ?_
  have F2 := And.intro F1 @shPP
  refine evP_take 1 fun K32 hk32 => ?_
  refine sh1 F2 ?_
  refine sd ?_
  refine hk32 _ ?_
  refine evP_take 2 fun K33 hk33 => ?_
  refine sh1 F2 ?_
  refine hk33 _ ?_
  refine evP_take 1 fun K34 hk34 => ?_
  refine sh1 F2 ?_
  refine ⟨_, c4, ?_⟩
  refine hk34 _ ?_
  refine evP_take 2 fun K35 hk35 => ?_
  refine sh1 F2 ?_
  refine sd ?_
  refine hk35 _ ?_
  refine evP_take 2 fun K36 hk36 => ?_
  refine sh1 F2 ?_
  refine hk36 _ ?_
  refine evP_take 1 fun K37 hk37 => ?_
  refine sh1 F2 ?_
  refine ⟨_, c7, ?_⟩
  refine hk37 _ ?_
  refine evP_take 1 fun K38 hk38 => ?_
  refine sh1 F2 ?_
  refine sd ?_
  refine hk38 _ ?_
  refine sh1 F2 ?_
  refine hk31 _ (by rfl) (fun K39 hk39 => ?_)
  refine sp0 ?_
  refine evL_take 1 fun K40 hk40 => ?_
  refine sh1 F2 ?_
  refine sd ?_
  refine hk40 _ ?_
  refine sh1 F2 ?_
  refine sd ?_
  refine hk39 _ ?_
  refine so0 ?_
  refine hn30 (some ([10, 11, 12, 13], none)) _ ?_
  exact sf1 F2
set_option maxHeartbeats 4000000 in
theorem ok_r4Do (M : MemM) (d : DoV) {n : Nat} (hM : MemOk M n) (hn : n ≤ 10000) (hI : MemIn M) : Ok 28 [eRef4 (refOf M), sI d.thread, .agg (eAct4 d.act), sI d.choice] (.tup [eRef4 (refOf (do4M M d).1), .agg (eWord (do4M M d).2.1), sB (do4M M d).2.2.1, sI (do4M M d).2.2.2]) := by
  refine ok_of_tr Try.func28 tr_r4Do rfl ?_
  obtain ⟨t, ⟨op, a, o, w⟩, c⟩ := d
  simp only [do4M]
  by_cases h1 : op = 1
  · subst h1
    have c0 := ok_r4Load M t a false c hM hn hI
    rw [if_pos (by decide), show ((1 : Int) == 2) = false from rfl]
    generalize loadM M t a false c = R at c0 ⊢
    unfold evFn sc_r4Do rv_r4Do
    refine ev_seq_k fun K1 hn1 hr1 he1 => ?_
    refine ev_ops_k fun K2 hk2 => ?_
    refine sh0 ?_
    refine hk2 _ ?_
    refine hn1 (some ([1, 3, 4, 6, 8, 9], none)) _ ?_
    refine ev_seq_k fun K3 hn3 hr3 he3 => ?_
    refine ev_seq_k fun K4 hn4 hr4 he4 => ?_
    refine ev_ops_k fun K5 hk5 => ?_
    refine sh0 ?_
    refine sd ?_
    refine hk5 _ ?_
    refine hn4 (some ([1, 3, 4, 6, 8, 9, 21], none)) _ ?_
    refine ev_block_k fun K6 hn6 hx6 hr6 he6 => ?_
    refine ev_seq_k fun K7 hn7 hr7 he7 => ?_
    refine ev_seq_k fun K8 hn8 hr8 he8 => ?_
    refine ev_ops_k fun K9 hk9 => ?_
    refine evL_take 1 fun K10 hk10 => ?_
    refine sh0 ?_
    refine sd ?_
    refine hk10 _ ?_
    refine sh0 ?_
    refine hk9 _ ?_
    refine hn8 (some ([1, 3, 4, 6, 8, 9, 21, 22], none)) _ ?_
    refine ev_cond_k rfl (fun hc0 => ?_) (fun hx => absurd hx (by simp at hx))
    clear hc0
    refine hn7 (some ([1, 3, 4, 6, 8, 9, 21, 22], none)) _ ?_
    refine ev_cond_k rfl (fun hc1 => ?_) (fun hx => absurd hx (by simp at hx))
    clear hc1
    refine ev_seq_k fun K11 hn11 hr11 he11 => ?_
    refine ev_ops_k fun K12 hk12 => ?_
    refine evL_take 1 fun K13 hk13 => ?_
    refine sh0 ?_
    refine sd ?_
    refine hk13 _ ?_
    refine evL_take 3 fun K14 hk14 => ?_
    refine sh0 ?_
    refine sd ?_
    refine hk14 _ ?_
    refine evL_take 2 fun K15 hk15 => ?_
    refine sh0 ?_
    refine sd ?_
    refine hk15 _ ?_
    refine evL_take 1 fun K16 hk16 => ?_
    refine sh0 ?_
    refine sd ?_
    refine hk16 _ ?_
    refine evL_take 1 fun K17 hk17 => ?_
    refine sh0 ?_
    refine hk17 _ ?_
    refine evL_take 1 fun K18 hk18 => ?_
    refine sh0 ?_
    refine Or.inl (Or.inl ⟨_, c0, ?_⟩)
    refine hk18 _ ?_
    refine evL_take 7 fun K19 hk19 => ?_
    refine sh0 ?_
    refine sd ?_
    refine hk19 _ ?_
    refine evL_take 1 fun K20 hk20 => ?_
    refine sh0 ?_
    refine sd ?_
    refine hk20 _ ?_
    refine sh0 ?_
    refine hk12 _ ?_
    refine hn11 (some ([8, 9, 12, 13, 14], none)) _ ?_
    refine ev_seq_k fun K21 hn21 hr21 he21 => ?_
    refine ev_ord_i ([]) [8, 9, 10, 11] [0, 1, 2, 3, 4, 7, 8] [5, 6] (by kernel_rfl) (fun K22 hk22 => ?_)
    refine sp0 ?_
    have F1 := @shPP
    refine evP_take 1 fun K23 hk23 => ?_
    refine sh1 F1 ?_
    refine sd ?_
    refine hk23 _ ?_
    refine evP_take 1 fun K24 hk24 => ?_
    refine sh1 F1 ?_
    refine sd ?_
    refine hk24 _ ?_
    refine evP_take 2 fun K25 hk25 => ?_
    refine sh1 F1 ?_
    refine sd ?_
    refine hk25 _ ?_
    refine sh1 F1 ?_
    refine hk22 _ (by rfl) (fun K26 hk26 => ?_)
    refine sp0 ?_
    refine evL_take 1 fun K27 hk27 => ?_
    refine sh1 F1 ?_
    refine sd ?_
    refine hk27 _ ?_
    refine sh1 F1 ?_
    refine sd ?_
    refine hk26 _ ?_
    refine so0 ?_
    refine hn21 (some ([8, 9, 10, 11], none)) _ ?_
    refine hr6 _ ?_
    refine hr3 _ ?_
    exact sf1 F1
  by_cases h2 : op = 2
  · subst h2
    have c0 := ok_r4Load M t a true c hM hn hI
    rw [if_pos (by decide), show ((2 : Int) == 2) = true from rfl]
    generalize loadM M t a true c = R at c0 ⊢
    unfold evFn sc_r4Do rv_r4Do
    refine ev_seq_k fun K1 hn1 hr1 he1 => ?_
    refine ev_ops_k fun K2 hk2 => ?_
    refine sh0 ?_
    refine hk2 _ ?_
    refine hn1 (some ([1, 3, 4, 6, 8, 9], none)) _ ?_
    refine ev_seq_k fun K3 hn3 hr3 he3 => ?_
    refine ev_seq_k fun K4 hn4 hr4 he4 => ?_
    refine ev_ops_k fun K5 hk5 => ?_
    refine sh0 ?_
    refine sd ?_
    refine hk5 _ ?_
    refine hn4 (some ([1, 3, 4, 6, 8, 9, 21], none)) _ ?_
    refine ev_block_k fun K6 hn6 hx6 hr6 he6 => ?_
    refine ev_seq_k fun K7 hn7 hr7 he7 => ?_
    refine ev_seq_k fun K8 hn8 hr8 he8 => ?_
    refine ev_ops_k fun K9 hk9 => ?_
    refine evL_take 1 fun K10 hk10 => ?_
    refine sh0 ?_
    refine sd ?_
    refine hk10 _ ?_
    refine sh0 ?_
    refine hk9 _ ?_
    refine hn8 (some ([1, 3, 4, 6, 8, 9, 21, 22], none)) _ ?_
    refine ev_cond_k rfl (fun hx => absurd hx (by simp at hx)) (fun hc0 => ?_)
    clear hc0
    refine ev_ops_k fun K11 hk11 => ?_
    refine evL_take 1 fun K12 hk12 => ?_
    refine sh0 ?_
    refine sd ?_
    refine hk12 _ ?_
    refine sh0 ?_
    refine hk11 _ ?_
    refine hn7 (some ([1, 3, 4, 6, 8, 9, 21, 22], none)) _ ?_
    refine ev_cond_k rfl (fun hc1 => ?_) (fun hx => absurd hx (by simp at hx))
    clear hc1
    refine ev_seq_k fun K13 hn13 hr13 he13 => ?_
    refine ev_ops_k fun K14 hk14 => ?_
    refine evL_take 1 fun K15 hk15 => ?_
    refine sh0 ?_
    refine sd ?_
    refine hk15 _ ?_
    refine evL_take 3 fun K16 hk16 => ?_
    refine sh0 ?_
    refine sd ?_
    refine hk16 _ ?_
    refine evL_take 2 fun K17 hk17 => ?_
    refine sh0 ?_
    refine sd ?_
    refine hk17 _ ?_
    refine evL_take 1 fun K18 hk18 => ?_
    refine sh0 ?_
    refine sd ?_
    refine hk18 _ ?_
    refine evL_take 1 fun K19 hk19 => ?_
    refine sh0 ?_
    refine hk19 _ ?_
    refine evL_take 1 fun K20 hk20 => ?_
    refine sh0 ?_
    refine Or.inl (Or.inl ⟨_, c0, ?_⟩)
    refine hk20 _ ?_
    refine evL_take 7 fun K21 hk21 => ?_
    refine sh0 ?_
    refine sd ?_
    refine hk21 _ ?_
    refine evL_take 1 fun K22 hk22 => ?_
    refine sh0 ?_
    refine sd ?_
    refine hk22 _ ?_
    refine sh0 ?_
    refine hk14 _ ?_
    refine hn13 (some ([8, 9, 12, 13, 14], none)) _ ?_
    refine ev_seq_k fun K23 hn23 hr23 he23 => ?_
    refine ev_ord_i ([]) [8, 9, 10, 11] [0, 1, 2, 3, 4, 7, 8] [5, 6] (by kernel_rfl) (fun K24 hk24 => ?_)
    refine sp0 ?_
    have F1 := @shPP
    refine evP_take 1 fun K25 hk25 => ?_
    refine sh1 F1 ?_
    refine sd ?_
    refine hk25 _ ?_
    refine evP_take 1 fun K26 hk26 => ?_
    refine sh1 F1 ?_
    refine sd ?_
    refine hk26 _ ?_
    refine evP_take 2 fun K27 hk27 => ?_
    refine sh1 F1 ?_
    refine sd ?_
    refine hk27 _ ?_
    refine sh1 F1 ?_
    refine hk24 _ (by rfl) (fun K28 hk28 => ?_)
    refine sp0 ?_
    refine evL_take 1 fun K29 hk29 => ?_
    refine sh1 F1 ?_
    refine sd ?_
    refine hk29 _ ?_
    refine sh1 F1 ?_
    refine sd ?_
    refine hk28 _ ?_
    refine so0 ?_
    refine hn23 (some ([8, 9, 10, 11], none)) _ ?_
    refine hr6 _ ?_
    refine hr3 _ ?_
    exact sf1 F1
  rw [if_neg (by omega)]
  by_cases h3 : op = 3
  · subst h3
    have c0 := ok_r4Store M t a w false hM hn hI
    rw [if_pos (by decide), show ((3 : Int) == 4) = false from rfl]
    generalize mstoreM M t a w false = R at c0 ⊢
    unfold evFn sc_r4Do rv_r4Do
    refine ev_seq_k fun K1 hn1 hr1 he1 => ?_
    refine ev_ops_k fun K2 hk2 => ?_
    refine sh0 ?_
    refine hk2 _ ?_
    refine hn1 (some ([1, 3, 4, 6, 8, 9], none)) _ ?_
    refine ev_seq_k fun K3 hn3 hr3 he3 => ?_
    refine ev_seq_k fun K4 hn4 hr4 he4 => ?_
    refine ev_ops_k fun K5 hk5 => ?_
    refine sh0 ?_
    refine sd ?_
    refine hk5 _ ?_
    refine hn4 (some ([1, 3, 4, 6, 8, 9, 21], none)) _ ?_
    refine ev_block_k fun K6 hn6 hx6 hr6 he6 => ?_
    refine ev_seq_k fun K7 hn7 hr7 he7 => ?_
    refine ev_seq_k fun K8 hn8 hr8 he8 => ?_
    refine ev_ops_k fun K9 hk9 => ?_
    refine evL_take 1 fun K10 hk10 => ?_
    refine sh0 ?_
    refine sd ?_
    refine hk10 _ ?_
    refine sh0 ?_
    refine hk9 _ ?_
    refine hn8 (some ([1, 3, 4, 6, 8, 9, 21, 22], none)) _ ?_
    refine ev_cond_k rfl (fun hx => absurd hx (by simp at hx)) (fun hc0 => ?_)
    clear hc0
    refine ev_ops_k fun K11 hk11 => ?_
    refine evL_take 1 fun K12 hk12 => ?_
    refine sh0 ?_
    refine sd ?_
    refine hk12 _ ?_
    refine sh0 ?_
    refine hk11 _ ?_
    refine hn7 (some ([1, 3, 4, 6, 8, 9, 21, 22], none)) _ ?_
    refine ev_cond_k rfl (fun hx => absurd hx (by simp at hx)) (fun hc1 => ?_)
    clear hc1
    refine ev_seq_k fun K13 hn13 hr13 he13 => ?_
    refine ev_seq_k fun K14 hn14 hr14 he14 => ?_
    refine ev_ops_k fun K15 hk15 => ?_
    refine evL_take 1 fun K16 hk16 => ?_
    refine sh0 ?_
    refine sd ?_
    refine hk16 _ ?_
    refine sh0 ?_
    refine hk15 _ ?_
    refine hn14 (some ([1, 4, 6, 8, 9, 21, 43], none)) _ ?_
    refine ev_cond_k rfl (fun hc2 => ?_) (fun hx => absurd hx (by simp at hx))
    clear hc2
    refine hn13 (some ([1, 4, 6, 8, 9, 21, 43], none)) _ ?_
    refine ev_cond_k rfl (fun hc3 => ?_) (fun hx => absurd hx (by simp at hx))
    clear hc3
    refine ev_seq_k fun K17 hn17 hr17 he17 => ?_
    refine ev_ops_k fun K18 hk18 => ?_
    refine evL_take 1 fun K19 hk19 => ?_
    refine sh0 ?_
    refine sd ?_
    refine hk19 _ ?_
    refine evL_take 3 fun K20 hk20 => ?_
    refine sh0 ?_
    refine sd ?_
    refine hk20 _ ?_
    refine evL_take 2 fun K21 hk21 => ?_
    refine sh0 ?_
    refine sd ?_
    refine hk21 _ ?_
    refine evL_take 2 fun K22 hk22 => ?_
    refine sh0 ?_
    refine sd ?_
    refine hk22 _ ?_
    refine evL_take 1 fun K23 hk23 => ?_
    refine sh0 ?_
    refine sd ?_
    refine hk23 _ ?_
    refine evL_take 1 fun K24 hk24 => ?_
    refine sh0 ?_
    refine Or.inl (Or.inl ⟨_, c0, ?_⟩)
    refine hk24 _ ?_
    refine evL_take 5 fun K25 hk25 => ?_
    refine sh0 ?_
    refine sd ?_
    refine hk25 _ ?_
    refine sh0 ?_
    refine hk18 _ ?_
    refine hn17 (some ([8, 9, 15, 16], none)) _ ?_
    refine ev_seq_k fun K26 hn26 hr26 he26 => ?_
    refine ev_ops_k fun K27 hk27 => ?_
    refine evL_take 1 fun K28 hk28 => ?_
    refine sh0 ?_
    refine sd ?_
    refine hk28 _ ?_
    refine evL_take 3 fun K29 hk29 => ?_
    refine sh0 ?_
    refine sd ?_
    refine hk29 _ ?_
    refine evL_take 2 fun K30 hk30 => ?_
    refine sh0 ?_
    refine sd ?_
    refine hk30 _ ?_
    refine evL_take 1 fun K31 hk31 => ?_
    refine sh0 ?_
    refine sd ?_
    refine hk31 _ ?_
    refine sh0 ?_
    refine hk27 _ ?_
    refine hn26 (some ([8, 9, 10, 11], none)) _ ?_
    refine hr6 _ ?_
    refine hr3 _ ?_
    exact sf0
  by_cases h4 : op = 4
  · subst h4
    have c0 := ok_r4Store M t a w true hM hn hI
    rw [if_pos (by decide), show ((4 : Int) == 4) = true from rfl]
    generalize mstoreM M t a w true = R at c0 ⊢
    unfold evFn sc_r4Do rv_r4Do
    refine ev_seq_k fun K1 hn1 hr1 he1 => ?_
    refine ev_ops_k fun K2 hk2 => ?_
    refine sh0 ?_
    refine hk2 _ ?_
    refine hn1 (some ([1, 3, 4, 6, 8, 9], none)) _ ?_
    refine ev_seq_k fun K3 hn3 hr3 he3 => ?_
    refine ev_seq_k fun K4 hn4 hr4 he4 => ?_
    refine ev_ops_k fun K5 hk5 => ?_
    refine sh0 ?_
    refine sd ?_
    refine hk5 _ ?_
    refine hn4 (some ([1, 3, 4, 6, 8, 9, 21], none)) _ ?_
    refine ev_block_k fun K6 hn6 hx6 hr6 he6 => ?_
    refine ev_seq_k fun K7 hn7 hr7 he7 => ?_
    refine ev_seq_k fun K8 hn8 hr8 he8 => ?_
    refine ev_ops_k fun K9 hk9 => ?_
    refine evL_take 1 fun K10 hk10 => ?_
    refine sh0 ?_
    refine sd ?_
    refine hk10 _ ?_
    refine sh0 ?_
    refine hk9 _ ?_
    refine hn8 (some ([1, 3, 4, 6, 8, 9, 21, 22], none)) _ ?_
    refine ev_cond_k rfl (fun hx => absurd hx (by simp at hx)) (fun hc0 => ?_)
    clear hc0
    refine ev_ops_k fun K11 hk11 => ?_
    refine evL_take 1 fun K12 hk12 => ?_
    refine sh0 ?_
    refine sd ?_
    refine hk12 _ ?_
    refine sh0 ?_
    refine hk11 _ ?_
    refine hn7 (some ([1, 3, 4, 6, 8, 9, 21, 22], none)) _ ?_
    refine ev_cond_k rfl (fun hx => absurd hx (by simp at hx)) (fun hc1 => ?_)
    clear hc1
    refine ev_seq_k fun K13 hn13 hr13 he13 => ?_
    refine ev_seq_k fun K14 hn14 hr14 he14 => ?_
    refine ev_ops_k fun K15 hk15 => ?_
    refine evL_take 1 fun K16 hk16 => ?_
    refine sh0 ?_
    refine sd ?_
    refine hk16 _ ?_
    refine sh0 ?_
    refine hk15 _ ?_
    refine hn14 (some ([1, 4, 6, 8, 9, 21, 43], none)) _ ?_
    refine ev_cond_k rfl (fun hx => absurd hx (by simp at hx)) (fun hc2 => ?_)
    clear hc2
    refine ev_ops_k fun K17 hk17 => ?_
    refine evL_take 1 fun K18 hk18 => ?_
    refine sh0 ?_
    refine sd ?_
    refine hk18 _ ?_
    refine sh0 ?_
    refine hk17 _ ?_
    refine hn13 (some ([1, 4, 6, 8, 9, 21, 43], none)) _ ?_
    refine ev_cond_k rfl (fun hc3 => ?_) (fun hx => absurd hx (by simp at hx))
    clear hc3
    refine ev_seq_k fun K19 hn19 hr19 he19 => ?_
    refine ev_ops_k fun K20 hk20 => ?_
    refine evL_take 1 fun K21 hk21 => ?_
    refine sh0 ?_
    refine sd ?_
    refine hk21 _ ?_
    refine evL_take 3 fun K22 hk22 => ?_
    refine sh0 ?_
    refine sd ?_
    refine hk22 _ ?_
    refine evL_take 2 fun K23 hk23 => ?_
    refine sh0 ?_
    refine sd ?_
    refine hk23 _ ?_
    refine evL_take 2 fun K24 hk24 => ?_
    refine sh0 ?_
    refine sd ?_
    refine hk24 _ ?_
    refine evL_take 1 fun K25 hk25 => ?_
    refine sh0 ?_
    refine sd ?_
    refine hk25 _ ?_
    refine evL_take 1 fun K26 hk26 => ?_
    refine sh0 ?_
    refine Or.inl (Or.inl ⟨_, c0, ?_⟩)
    refine hk26 _ ?_
    refine evL_take 5 fun K27 hk27 => ?_
    refine sh0 ?_
    refine sd ?_
    refine hk27 _ ?_
    refine sh0 ?_
    refine hk20 _ ?_
    refine hn19 (some ([8, 9, 15, 16], none)) _ ?_
    refine ev_seq_k fun K28 hn28 hr28 he28 => ?_
    refine ev_ops_k fun K29 hk29 => ?_
    refine evL_take 1 fun K30 hk30 => ?_
    refine sh0 ?_
    refine sd ?_
    refine hk30 _ ?_
    refine evL_take 3 fun K31 hk31 => ?_
    refine sh0 ?_
    refine sd ?_
    refine hk31 _ ?_
    refine evL_take 2 fun K32 hk32 => ?_
    refine sh0 ?_
    refine sd ?_
    refine hk32 _ ?_
    refine evL_take 1 fun K33 hk33 => ?_
    refine sh0 ?_
    refine sd ?_
    refine hk33 _ ?_
    refine sh0 ?_
    refine hk29 _ ?_
    refine hn28 (some ([8, 9, 10, 11], none)) _ ?_
    refine hr6 _ ?_
    refine hr3 _ ?_
    exact sf0
  rw [if_neg (by omega)]
  by_cases h5 : op = 5
  · subst h5
    have c0 := ok_r4Look M t a hM hn hI
    rw [if_pos rfl]
    generalize look1M M t a = R at c0 ⊢
    unfold evFn sc_r4Do rv_r4Do
    refine ev_seq_k fun K1 hn1 hr1 he1 => ?_
    refine ev_ops_k fun K2 hk2 => ?_
    refine sh0 ?_
    refine hk2 _ ?_
    refine hn1 (some ([1, 3, 4, 6, 8, 9], none)) _ ?_
    refine ev_seq_k fun K3 hn3 hr3 he3 => ?_
    refine ev_seq_k fun K4 hn4 hr4 he4 => ?_
    refine ev_ops_k fun K5 hk5 => ?_
    refine sh0 ?_
    refine sd ?_
    refine hk5 _ ?_
    refine hn4 (some ([1, 3, 4, 6, 8, 9, 21], none)) _ ?_
    refine ev_block_k fun K6 hn6 hx6 hr6 he6 => ?_
    refine ev_seq_k fun K7 hn7 hr7 he7 => ?_
    refine ev_seq_k fun K8 hn8 hr8 he8 => ?_
    refine ev_ops_k fun K9 hk9 => ?_
    refine evL_take 1 fun K10 hk10 => ?_
    refine sh0 ?_
    refine sd ?_
    refine hk10 _ ?_
    refine sh0 ?_
    refine hk9 _ ?_
    refine hn8 (some ([1, 3, 4, 6, 8, 9, 21, 22], none)) _ ?_
    refine ev_cond_k rfl (fun hx => absurd hx (by simp at hx)) (fun hc0 => ?_)
    clear hc0
    refine ev_ops_k fun K11 hk11 => ?_
    refine evL_take 1 fun K12 hk12 => ?_
    refine sh0 ?_
    refine sd ?_
    refine hk12 _ ?_
    refine sh0 ?_
    refine hk11 _ ?_
    refine hn7 (some ([1, 3, 4, 6, 8, 9, 21, 22], none)) _ ?_
    refine ev_cond_k rfl (fun hx => absurd hx (by simp at hx)) (fun hc1 => ?_)
    clear hc1
    refine ev_seq_k fun K13 hn13 hr13 he13 => ?_
    refine ev_seq_k fun K14 hn14 hr14 he14 => ?_
    refine ev_ops_k fun K15 hk15 => ?_
    refine evL_take 1 fun K16 hk16 => ?_
    refine sh0 ?_
    refine sd ?_
    refine hk16 _ ?_
    refine sh0 ?_
    refine hk15 _ ?_
    refine hn14 (some ([1, 4, 6, 8, 9, 21, 43], none)) _ ?_
    refine ev_cond_k rfl (fun hx => absurd hx (by simp at hx)) (fun hc2 => ?_)
    clear hc2
    refine ev_ops_k fun K17 hk17 => ?_
    refine evL_take 1 fun K18 hk18 => ?_
    refine sh0 ?_
    refine sd ?_
    refine hk18 _ ?_
    refine sh0 ?_
    refine hk17 _ ?_
    refine hn13 (some ([1, 4, 6, 8, 9, 21, 43], none)) _ ?_
    refine ev_cond_k rfl (fun hx => absurd hx (by simp at hx)) (fun hc3 => ?_)
    clear hc3
    refine ev_seq_k fun K19 hn19 hr19 he19 => ?_
    refine ev_ops_k fun K20 hk20 => ?_
    refine evL_take 1 fun K21 hk21 => ?_
    refine sh0 ?_
    refine sd ?_
    refine hk21 _ ?_
    refine sh0 ?_
    refine hk20 _ ?_
    refine hn19 (some ([1, 4, 6, 8, 9, 21, 64], none)) _ ?_
    refine ev_cond_k rfl (fun hc4 => ?_) (fun hx => absurd hx (by simp at hx))
    clear hc4
    refine ev_seq_k fun K22 hn22 hr22 he22 => ?_
    refine ev_ops_k fun K23 hk23 => ?_
    refine evL_take 1 fun K24 hk24 => ?_
    refine sh0 ?_
    refine sd ?_
    refine hk24 _ ?_
    refine evL_take 3 fun K25 hk25 => ?_
    refine sh0 ?_
    refine sd ?_
    refine hk25 _ ?_
    refine evL_take 1 fun K26 hk26 => ?_
    refine sh0 ?_
    refine Or.inl (Or.inl ⟨_, c0, ?_⟩)
    refine hk26 _ ?_
    refine evL_take 7 fun K27 hk27 => ?_
    refine sh0 ?_
    refine sd ?_
    refine hk27 _ ?_
    refine evL_take 1 fun K28 hk28 => ?_
    refine sh0 ?_
    refine sd ?_
    refine hk28 _ ?_
    refine sh0 ?_
    refine hk23 _ ?_
    refine hn22 (some ([8, 9, 17, 18, 19], none)) _ ?_
    refine ev_seq_k fun K29 hn29 hr29 he29 => ?_
    refine ev_ord_i ([]) [8, 9, 10, 11] [0, 1, 2, 3, 4, 7, 8] [5, 6] (by kernel_rfl) (fun K30 hk30 => ?_)
    refine sp0 ?_
    have F1 := @shPP
    refine evP_take 1 fun K31 hk31 => ?_
    refine sh1 F1 ?_
    refine sd ?_
    refine hk31 _ ?_
    refine evP_take 1 fun K32 hk32 => ?_
    refine sh1 F1 ?_
    refine sd ?_
    refine hk32 _ ?_
    refine evP_take 2 fun K33 hk33 => ?_
    refine sh1 F1 ?_
    refine sd ?_
    refine hk33 _ ?_
    refine sh1 F1 ?_
    refine hk30 _ (by rfl) (fun K34 hk34 => ?_)
    refine sp0 ?_
    refine evL_take 1 fun K35 hk35 => ?_
    refine sh1 F1 ?_
    refine sd ?_
    refine hk35 _ ?_
    refine sh1 F1 ?_
    refine sd ?_
    refine hk34 _ ?_
    refine so0 ?_
    refine hn29 (some ([8, 9, 10, 11], none)) _ ?_
    refine hr6 _ ?_
    refine hr3 _ ?_
    exact sf1 F1
  rw [if_neg h5]
  by_cases h6 : op = 6
  · subst h6
    have c0 := ok_r4Swap M t a o w hM hn hI
    rw [if_pos rfl]
    generalize mswapM M t a o w = R at c0 ⊢
    unfold evFn sc_r4Do rv_r4Do
    refine ev_seq_k fun K1 hn1 hr1 he1 => ?_
    refine ev_ops_k fun K2 hk2 => ?_
    refine sh0 ?_
    refine hk2 _ ?_
    refine hn1 (some ([1, 3, 4, 6, 8, 9], none)) _ ?_
    refine ev_seq_k fun K3 hn3 hr3 he3 => ?_
    refine ev_seq_k fun K4 hn4 hr4 he4 => ?_
    refine ev_ops_k fun K5 hk5 => ?_
    refine sh0 ?_
    refine sd ?_
    refine hk5 _ ?_
    refine hn4 (some ([1, 3, 4, 6, 8, 9, 21], none)) _ ?_
    refine ev_block_k fun K6 hn6 hx6 hr6 he6 => ?_
    refine ev_seq_k fun K7 hn7 hr7 he7 => ?_
    refine ev_seq_k fun K8 hn8 hr8 he8 => ?_
    refine ev_ops_k fun K9 hk9 => ?_
    refine evL_take 1 fun K10 hk10 => ?_
    refine sh0 ?_
    refine sd ?_
    refine hk10 _ ?_
    refine sh0 ?_
    refine hk9 _ ?_
    refine hn8 (some ([1, 3, 4, 6, 8, 9, 21, 22], none)) _ ?_
    refine ev_cond_k rfl (fun hx => absurd hx (by simp at hx)) (fun hc0 => ?_)
    clear hc0
    refine ev_ops_k fun K11 hk11 => ?_
    refine evL_take 1 fun K12 hk12 => ?_
    refine sh0 ?_
    refine sd ?_
    refine hk12 _ ?_
    refine sh0 ?_
    refine hk11 _ ?_
    refine hn7 (some ([1, 3, 4, 6, 8, 9, 21, 22], none)) _ ?_
    refine ev_cond_k rfl (fun hx => absurd hx (by simp at hx)) (fun hc1 => ?_)
    clear hc1
    refine ev_seq_k fun K13 hn13 hr13 he13 => ?_
    refine ev_seq_k fun K14 hn14 hr14 he14 => ?_
    refine ev_ops_k fun K15 hk15 => ?_
    refine evL_take 1 fun K16 hk16 => ?_
    refine sh0 ?_
    refine sd ?_
    refine hk16 _ ?_
    refine sh0 ?_
    refine hk15 _ ?_
    refine hn14 (some ([1, 4, 6, 8, 9, 21, 43], none)) _ ?_
    refine ev_cond_k rfl (fun hx => absurd hx (by simp at hx)) (fun hc2 => ?_)
    clear hc2
    refine ev_ops_k fun K17 hk17 => ?_
    refine evL_take 1 fun K18 hk18 => ?_
    refine sh0 ?_
    refine sd ?_
    refine hk18 _ ?_
    refine sh0 ?_
    refine hk17 _ ?_
    refine hn13 (some ([1, 4, 6, 8, 9, 21, 43], none)) _ ?_
    refine ev_cond_k rfl (fun hx => absurd hx (by simp at hx)) (fun hc3 => ?_)
    clear hc3
    refine ev_seq_k fun K19 hn19 hr19 he19 => ?_
    refine ev_ops_k fun K20 hk20 => ?_
    refine evL_take 1 fun K21 hk21 => ?_
    refine sh0 ?_
    refine sd ?_
    refine hk21 _ ?_
    refine sh0 ?_
    refine hk20 _ ?_
    refine hn19 (some ([1, 4, 6, 8, 9, 21, 64], none)) _ ?_
    refine ev_cond_k rfl (fun hx => absurd hx (by simp at hx)) (fun hc4 => ?_)
    clear hc4
    refine ev_seq_k fun K22 hn22 hr22 he22 => ?_
    refine ev_ops_k fun K23 hk23 => ?_
    refine evL_take 1 fun K24 hk24 => ?_
    refine sh0 ?_
    refine sd ?_
    refine hk24 _ ?_
    refine sh0 ?_
    refine hk23 _ ?_
    refine hn22 (some ([1, 4, 6, 8, 9, 80], none)) _ ?_
    refine ev_cond_k rfl (fun hc5 => ?_) (fun hx => absurd hx (by simp at hx))
    clear hc5
    refine ev_seq_k fun K25 hn25 hr25 he25 => ?_
    refine ev_ops_k fun K26 hk26 => ?_
    refine evL_take 1 fun K27 hk27 => ?_
    refine sh0 ?_
    refine sd ?_
    refine hk27 _ ?_
    refine evL_take 3 fun K28 hk28 => ?_
    refine sh0 ?_
    refine sd ?_
    refine hk28 _ ?_
    refine evL_take 2 fun K29 hk29 => ?_
    refine sh0 ?_
    refine sd ?_
    refine hk29 _ ?_
    refine evL_take 2 fun K30 hk30 => ?_
    refine sh0 ?_
    refine sd ?_
    refine hk30 _ ?_
    refine evL_take 1 fun K31 hk31 => ?_
    refine sh0 ?_
    refine Or.inl (Or.inl ⟨_, c0, ?_⟩)
    refine hk31 _ ?_
    refine evL_take 5 fun K32 hk32 => ?_
    refine sh0 ?_
    refine sd ?_
    refine hk32 _ ?_
    refine evL_take 1 fun K33 hk33 => ?_
    refine sh0 ?_
    refine sd ?_
    refine hk33 _ ?_
    refine sh0 ?_
    refine hk26 _ ?_
    refine hn25 (some ([8, 9, 10, 11], none)) _ ?_
    refine hr6 _ ?_
    refine hr3 _ ?_
    exact sf0
  rw [if_neg h6]
  have e1 : (op == 1) = false := by simpa using h1
  have e2 : (op == 2) = false := by simpa using h2
  have e3 : (op == 3) = false := by simpa using h3
  have e4 : (op == 4) = false := by simpa using h4
  have e5 : (op == 5) = false := by simpa using h5
  have e6 : (op == 6) = false := by simpa using h6
  unfold evFn sc_r4Do rv_r4Do
  have F1 := And.intro @e1 (And.intro @e2 (And.intro @e3 (And.intro @e4 (And.intro @e5 @e6))))
  refine ev_seq_k fun K1 hn1 hr1 he1 => ?_
  refine ev_ops_k fun K2 hk2 => ?_
  refine sh1 F1 ?_
  refine hk2 _ ?_
  refine hn1 (some ([1, 3, 4, 6, 8, 9], none)) _ ?_
  refine ev_seq_k fun K3 hn3 hr3 he3 => ?_
  refine ev_seq_k fun K4 hn4 hr4 he4 => ?_
  refine ev_ops_k fun K5 hk5 => ?_
  refine sh1 F1 ?_
  refine sd ?_
  refine hk5 _ ?_
  refine hn4 (some ([1, 3, 4, 6, 8, 9, 21], none)) _ ?_
  refine ev_block_k fun K6 hn6 hx6 hr6 he6 => ?_
  refine ev_seq_k fun K7 hn7 hr7 he7 => ?_
  refine ev_seq_k fun K8 hn8 hr8 he8 => ?_
  refine ev_ops_k fun K9 hk9 => ?_
  refine evL_take 1 fun K10 hk10 => ?_
  refine sh1 F1 ?_
  refine sd ?_
  refine hk10 _ ?_
  refine sh1 F1 ?_
  refine hk9 _ ?_
  refine hn8 (some ([1, 3, 4, 6, 8, 9, 21, 22], none)) _ ?_
  refine ev_cond_k rfl (fun hx => absurd hx (by simp at hx)) (fun hc0 => ?_)
  clear hc0
  refine ev_ops_k fun K11 hk11 => ?_
  refine evL_take 1 fun K12 hk12 => ?_
  refine sh1 F1 ?_
  refine sd ?_
  refine hk12 _ ?_
  refine sh1 F1 ?_
  refine hk11 _ ?_
  refine hn7 (some ([1, 3, 4, 6, 8, 9, 21, 22], none)) _ ?_
  refine ev_cond_k rfl (fun hx => absurd hx (by simp at hx)) (fun hc1 => ?_)
  clear hc1
  refine ev_seq_k fun K13 hn13 hr13 he13 => ?_
  refine ev_seq_k fun K14 hn14 hr14 he14 => ?_
  refine ev_ops_k fun K15 hk15 => ?_
  refine evL_take 1 fun K16 hk16 => ?_
  refine sh1 F1 ?_
  refine sd ?_
  refine hk16 _ ?_
  refine sh1 F1 ?_
  refine hk15 _ ?_
  refine hn14 (some ([1, 4, 6, 8, 9, 21, 43], none)) _ ?_
  refine ev_cond_k rfl (fun hx => absurd hx (by simp at hx)) (fun hc2 => ?_)
  clear hc2
  refine ev_ops_k fun K17 hk17 => ?_
  refine evL_take 1 fun K18 hk18 => ?_
  refine sh1 F1 ?_
  refine sd ?_
  refine hk18 _ ?_
  refine sh1 F1 ?_
  refine hk17 _ ?_
  refine hn13 (some ([1, 4, 6, 8, 9, 21, 43], none)) _ ?_
  refine ev_cond_k rfl (fun hx => absurd hx (by simp at hx)) (fun hc3 => ?_)
  clear hc3
  refine ev_seq_k fun K19 hn19 hr19 he19 => ?_
  refine ev_ops_k fun K20 hk20 => ?_
  refine evL_take 1 fun K21 hk21 => ?_
  refine sh1 F1 ?_
  refine sd ?_
  refine hk21 _ ?_
  refine sh1 F1 ?_
  refine hk20 _ ?_
  refine hn19 (some ([1, 4, 6, 8, 9, 21, 64], none)) _ ?_
  refine ev_cond_k rfl (fun hx => absurd hx (by simp at hx)) (fun hc4 => ?_)
  clear hc4
  refine ev_seq_k fun K22 hn22 hr22 he22 => ?_
  refine ev_ops_k fun K23 hk23 => ?_
  refine evL_take 1 fun K24 hk24 => ?_
  refine sh1 F1 ?_
  refine sd ?_
  refine hk24 _ ?_
  refine sh1 F1 ?_
  refine hk23 _ ?_
  refine hn22 (some ([1, 4, 6, 8, 9, 80], none)) _ ?_
  refine ev_cond_k rfl (fun hx => absurd hx (by simp at hx)) (fun hc5 => ?_)
  clear hc5
  refine hn6 _ ?_
  refine hn3 (some ([4, 8, 9], none)) _ ?_
  refine ev_seq_k fun K25 hn25 hr25 he25 => ?_
  refine ev_ops_k fun K26 hk26 => ?_
  refine evL_take 1 fun K27 hk27 => ?_
  refine sh1 F1 ?_
  refine sd ?_
  refine hk27 _ ?_
  refine evL_take 2 fun K28 hk28 => ?_
  refine sh1 F1 ?_
  refine sd ?_
  refine hk28 _ ?_
  refine evL_take 1 fun K29 hk29 => ?_
  refine sh1 F1 ?_
  refine sd ?_
  refine hk29 _ ?_
  refine sh1 F1 ?_
  refine hk26 _ ?_
  refine hn25 (some ([8, 9, 10, 11], none)) _ ?_
  exact sf1 F1
end Go.Proofs.Ytfcjkchpldfamaa

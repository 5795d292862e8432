/-
  The reference of layer 4 by shadows: the operations.
-/
import Derived.Test.YtfcjkchpldfamaaK4x
import Derived.Test.YtfcjkchpldfamaaMC
namespace Go.Proofs.Ytfcjkchpldfamaa
set_option linter.unusedSimpArgs false
set_option linter.unusedVariables false
open Go.RowKit Go.Maps

theorem ok_r4wrong' (M : MemM) (t a : Int) : Ok 79 [eRef4 (refOf M), sI t, sI a] (sI (wrongM M t a)) := by rw [← ref_wrong]; exact ok_r4wrong _ t a
theorem hist_at {M : MemM} {n : Nat} (hM : MemOk M n) {a : Int} {i : Nat} (h : i < (histM M a).length) : ((histM M a).map (refMsg M.places.length))[i]? = some (refMsg M.places.length (atM (histM M a) i)) := by
  unfold atM
  rw [if_pos (by omega), Int.toNat_natCast, List.getElem?_map, List.getElem?_eq_getElem h]; rfl
theorem ok_r4know' {M : MemM} {n : Nat} (hM : MemOk M n) {m : Nat} (hm : m < M.views.length) (v : ViewV) : Ok 83 [eRef4 (refOf M), sI ((m : Int) + 1), .sl 1 0 ((toL M.places.length v).map eRI)] (eRef4 (refOf (withM M ((m : Int) + 1) v))) := by
  rw [ref_with]
  exact ok_r4know (refOf M) m _ (by rw [(ref_len M).1]; exact hm) (by rw [(ref_len M).1]; exact hM.vl)
set_option maxHeartbeats 4000000 in
theorem ok_r4Load (M : MemM) (t a : Int) (q : Bool) (c : Int) {n : Nat} (hM : MemOk M n) (hn : n ≤ 10000) (hI : MemIn M) : Ok 58 [eRef4 (refOf M), sI t, sI a, sB q, sI c] (.tup [eRef4 (refOf (loadM M t a q c).1), .agg (eWord (loadM M t a q c).2.1), sI (loadM M t a q c).2.2]) := by
  have c0 := ok_r4wrong' M t a
  refine ok_of_tr Try.func58 tr_r4Load rfl ?_
  by_cases hw : wrongM M t a = 0
  case neg =>
    have e : loadM M t a q c = (M, zWord, wrongM M t a) := if_neg hw
    rw [e]
    have d : (wrongM M t a != 0) = true := by simpa using hw
    generalize wrongM M t a = z at c0 d ⊢
    unfold evFn sc_r4Load rv_r4Load
    have F1 := @d
    refine ev_seq_k fun K1 hn1 hr1 he1 => ?_
    refine ev_ops_k fun K2 hk2 => ?_
    refine sh1 F1 ?_
    refine hk2 _ ?_
    refine hn1 (some ([1, 2, 3, 4, 5, 10, 11], none)) _ ?_
    refine ev_seq_k fun K3 hn3 hr3 he3 => ?_
    refine ev_ops_k fun K4 hk4 => ?_
    refine evL_take 1 fun K5 hk5 => ?_
    refine sh1 F1 ?_
    refine sd ?_
    refine hk5 _ ?_
    refine evL_take 2 fun K6 hk6 => ?_
    refine sh1 F1 ?_
    refine hk6 _ ?_
    refine evL_take 1 fun K7 hk7 => ?_
    refine sh1 F1 ?_
    refine Or.inl (Or.inl ⟨_, c0, ?_⟩)
    refine hk7 _ ?_
    refine sh1 F1 ?_
    refine hk4 _ ?_
    refine hn3 (some ([1, 2, 3, 4, 5, 10, 11, 13], none)) _ ?_
    refine ev_seq_k fun K8 hn8 hr8 he8 => ?_
    refine ev_seq_k fun K9 hn9 hr9 he9 => ?_
    refine ev_ops_k fun K10 hk10 => ?_
    refine sh1 F1 ?_
    refine sd ?_
    refine hk10 _ ?_
    refine hn9 (some ([1, 2, 3, 4, 5, 10, 11, 13, 22], none)) _ ?_
    refine ev_cond_k rfl (fun hc0 => ?_) (fun hx => absurd hx (by simp at hx))
    clear hc0
    refine ev_seq_k fun K11 hn11 hr11 he11 => ?_
    refine ev_ops_k fun K12 hk12 => ?_
    refine evL_take 1 fun K13 hk13 => ?_
    refine sh1 F1 ?_
    refine sd ?_
    refine hk13 _ ?_
    refine evL_take 3 fun K14 hk14 => ?_
    refine sh1 F1 ?_
    refine sd ?_
    refine hk14 _ ?_
    refine evL_take 1 fun K15 hk15 => ?_
    refine sh1 F1 ?_
    refine sd ?_
    refine hk15 _ ?_
    refine sh1 F1 ?_
    refine hk12 _ ?_
    refine hn11 (some ([10, 11, 12], none)) _ ?_
    refine hr8 _ ?_
    refine sg1 F1 ?_
    rfl
  rw [hw] at c0
  obtain ⟨ht, ha⟩ := wrong_zero.1 hw
  have hl := hist_len hM a
  have hp := hist_pos hM ha
  have hv := seen_ok hM t
  have v0 := vGet_nonneg hv a
  have v1 := hI.seen t a ha
  have hin := (plc_in hM ha)
  obtain ⟨k1, k2⟩ := chooseF_le hp (vGet (seenM M t) a) c
  obtain ⟨i, hi⟩ := Int.eq_ofNat_of_zero_le (show 0 ≤ chooseF (histM M a).length (vGet (seenM M t) a) c by omega)
  have c1 := ok_rChoose (histM M a).length (vGet (seenM M t) a) c (by omega) hp ⟨v0, by omega⟩
  have hd : loadM M t a q c = ((findsM M t a i q).1, (findsM M t a i q).2, 0) := by unfold loadM; rw [if_pos hw, hi]
  rw [hd]
  rw [hi] at c1 k1 k2
  obtain ⟨p, rfl, hpl, em⟩ := ref_msgs ha
  obtain ⟨m, rfl, hml, ev⟩ := ref_views ht
  have hpl2 := hM.pl
  have hvl2 := hM.vl
  have evp := toL_get M.places.length (seenM M ((m : Int) + 1)) hpl
  have hxi := hist_at hM (a := p) (i := i) (by omega)
  have c2 := ok_r4with 0 (toL M.places.length (seenM M ((m : Int) + 1))) p i (by rw [toL_len]; exact hpl) (by rw [toL_len]; omega)
  rw [← toL_with _ _ p i (by omega) hpl (by omega)] at c2
  have hxv := at_ok hM p i
  have hwv := viewOk_with hv p i
  have c3 := ok_r4join 0 0 (toL M.places.length (vWith (seenM M ((m : Int) + 1)) p i)) (toL M.places.length (atM (histM M p) i).view) (by rw [toL_len, toL_len]) (by rw [toL_len]; omega)
  rw [← toL_join _ hwv hxv] at c3
  have c4 := fun v => ok_r4know' hM hml v
  have q2 : IntKind.i64.wrap ((m : Int) + 1 - 1) = (m : Int) := by rw [IntKind.wrap_i64]; omega
  have d1 : (p : Int) < ((refOf M).msgs.length : Int) := by rw [(ref_len M).2]; omega
  have d2 : (m : Int) < ((refOf M).views.length : Int) := by rw [(ref_len M).1]; omega
  have d3 : p < M.places.length := hpl
  have d4 : i < (histM M p).length := by omega
  have ew : (refMsg M.places.length (atM (histM M p) i)).word = (atM (histM M p) i).word := rfl
  have evw : (refMsg M.places.length (atM (histM M p) i)).view = toL M.places.length (atM (histM M p) i).view := rfl
  unfold findsM
  have elen : ((histM M p).map (refMsg M.places.length)).length = (histM M p).length := by simp
  generalize (histM M p).map (refMsg M.places.length) = hs at em hxi elen
  generalize hx0 : atM (histM M p) i = x at hxi c3 ew evw ⊢
  generalize refMsg M.places.length x = rx at hxi ew evw
  generalize hu0 : vWith (seenM M ((m : Int) + 1)) p i = v at c2 c3 ⊢
  generalize vJoin v x.view = u at c3 ⊢
  generalize toL M.places.length (seenM M ((m : Int) + 1)) = sv at ev evp c2
  rw [← elen] at c1
  generalize refOf M = R at c0 c4 em ev d1 d2
  cases q
  · simp only [Bool.false_eq_true, if_false]
    unfold evFn sc_r4Load rv_r4Load
    have F1 := And.intro @q2 (And.intro @d1 (And.intro @d2 (And.intro @em (And.intro @ev (And.intro @evp (And.intro @hxi (And.intro @ew @evw)))))))
    refine ev_seq_k fun K1 hn1 hr1 he1 => ?_
    refine ev_ops_k fun K2 hk2 => ?_
    refine sh1 F1 ?_
    refine hk2 _ ?_
    refine hn1 (some ([1, 2, 3, 4, 5, 10, 11], none)) _ ?_
    refine ev_seq_k fun K3 hn3 hr3 he3 => ?_
    refine ev_ops_k fun K4 hk4 => ?_
    refine evL_take 1 fun K5 hk5 => ?_
    refine sh1 F1 ?_
    refine sd ?_
    refine hk5 _ ?_
    refine evL_take 2 fun K6 hk6 => ?_
    refine sh1 F1 ?_
    refine hk6 _ ?_
    refine evL_take 1 fun K7 hk7 => ?_
    refine sh1 F1 ?_
    refine Or.inl (Or.inl ⟨_, c0, ?_⟩)
    refine hk7 _ ?_
    refine sh1 F1 ?_
    refine hk4 _ ?_
    refine hn3 (some ([1, 2, 3, 4, 5, 10, 11, 13], none)) _ ?_
    refine ev_seq_k fun K8 hn8 hr8 he8 => ?_
    refine ev_seq_k fun K9 hn9 hr9 he9 => ?_
    refine ev_ops_k fun K10 hk10 => ?_
    refine sh1 F1 ?_
    refine sd ?_
    refine hk10 _ ?_
    refine hn9 (some ([1, 2, 3, 4, 5, 10, 11, 13, 22], none)) _ ?_
    refine ev_cond_k rfl (fun hx => absurd hx (by simp at hx)) (fun hc0 => ?_)
    clear hc0
    refine hn8 (some ([1, 2, 3, 4, 5, 10, 11], none)) _ ?_
    refine ev_seq_k fun K11 hn11 hr11 he11 => ?_
    refine ev_ops_k fun K12 hk12 => ?_
    refine evL_take 2 fun K13 hk13 => ?_
    refine sh1 F1 ?_
    refine sd ?_
    refine hk13 _ ?_
    refine evL_take 2 fun K14 hk14 => ?_
    refine sh1 F1 ?_
    refine sd ?_
    refine hk14 _ ?_
    refine evL_take 1 fun K15 hk15 => ?_
    refine sh1 F1 ?_
    refine sd ?_
    refine hk15 _ ?_
    refine evL_take 1 fun K16 hk16 => ?_
    refine sh1 F1 ?_
    refine sd ?_
    refine hk16 _ ?_
    refine sh1 F1 ?_
    refine hk12 _ ?_
    refine hn11 (some ([1, 2, 3, 4, 5, 10, 11, 14], none)) _ ?_
    refine ev_seq_k fun K17 hn17 hr17 he17 => ?_
    refine ev_drw_k [] (n := 11) fun K18 hk18 => ?_
    refine sq0 ?_
    refine evF_take 2 fun K20 hk20 => ?_
    refine sh1 F1 ?_
    refine sd ?_
    refine hk20 _ _ _ ?_
    refine evF_take 2 fun K21 hk21 => ?_
    refine sh1 F1 ?_
    refine sd ?_
    refine hk21 _ _ _ ?_
    refine evF_take 1 fun K22 hk22 => ?_
    refine sh1 F1 ?_
    refine sd ?_
    refine hk22 _ _ _ ?_
    refine evF_take 4 fun K23 hk23 => ?_
    refine sh1 F1 ?_
    refine sd ?_
    refine hk23 _ _ _ ?_
    refine evF_take 1 fun K24 hk24 => ?_
    refine sh1 F1 ?_
    refine sd ?_
    refine hk24 _ _ _ ?_
    refine sh1 F1 ?_
    refine hk18 _ ?_
    refine sr0 ?_
    refine evL_take 1 fun K25 hk25 => ?_
    refine sh1 F1 ?_
    refine Or.inl (Or.inl ⟨_, c1, ?_⟩)
    refine hk25 _ ?_
    refine sh1 F1 ?_
    refine hn17 (some ([1, 2, 3, 5, 10, 11, 14, 15], none)) _ ?_
    refine ev_seq_k fun K26 hn26 hr26 he26 => ?_
    refine ev_ops_k fun K27 hk27 => ?_
    refine evL_take 2 fun K28 hk28 => ?_
    refine sh1 F1 ?_
    refine sd ?_
    refine hk28 _ ?_
    refine evL_take 2 fun K29 hk29 => ?_
    refine sh1 F1 ?_
    refine sd ?_
    refine hk29 _ ?_
    refine evL_take 1 fun K30 hk30 => ?_
    refine sh1 F1 ?_
    refine sd ?_
    refine hk30 _ ?_
    refine evL_take 2 fun K31 hk31 => ?_
    refine sh1 F1 ?_
    refine sd ?_
    refine hk31 _ ?_
    refine evL_take 1 fun K32 hk32 => ?_
    refine sh1 F1 ?_
    refine sd ?_
    refine hk32 _ ?_
    refine sh1 F1 ?_
    refine sd ?_
    refine hk27 _ ?_
    refine hn26 (some ([1, 2, 3, 5, 10, 11, 14, 15, 16], none)) _ ?_
    refine ev_seq_k fun K33 hn33 hr33 he33 => ?_
    refine ev_ops_k fun K34 hk34 => ?_
    refine evL_take 3 fun K35 hk35 => ?_
    refine sh1 F1 ?_
    refine hk35 _ ?_
    refine evL_take 1 fun K36 hk36 => ?_
    refine sh1 F1 ?_
    refine Or.inl (Or.inl ⟨_, c2, ?_⟩)
    refine hk36 _ ?_
    refine sh1 F1 ?_
    refine hk34 _ ?_
    refine hn33 (some ([1, 3, 5, 10, 11, 14, 16], none)) _ ?_
    refine ev_seq_k fun K37 hn37 hr37 he37 => ?_
    refine ev_seq_k fun K38 hn38 hr38 he38 => ?_
    refine ev_ops_k fun K39 hk39 => ?_
    refine sh1 F1 ?_
    refine hk39 _ ?_
    refine hn38 (some ([1, 5, 10, 11, 14, 16, 56], none)) _ ?_
    refine ev_cond_k rfl (fun hx => absurd hx (by simp at hx)) (fun hc1 => ?_)
    clear hc1
    refine hn37 (some ([1, 5, 10, 11, 14, 16], none)) _ ?_
    refine ev_seq_k fun K40 hn40 hr40 he40 => ?_
    refine ev_ord_i ([]) [10, 11, 12] [0, 1, 2, 3, 4, 5, 8] [6, 7] (by kernel_rfl) (fun K41 hk41 => ?_)
    refine sp0 ?_
    have F2 := And.intro F1 @shPP
    refine evP_take 1 fun K42 hk42 => ?_
    refine sh1 F2 ?_
    refine sd ?_
    refine hk42 _ ?_
    refine evP_take 2 fun K43 hk43 => ?_
    refine sh1 F2 ?_
    refine hk43 _ ?_
    refine evP_take 1 fun K44 hk44 => ?_
    refine sh1 F2 ?_
    refine ⟨_, c4 v, ?_⟩
    refine hk44 _ ?_
    refine evP_take 2 fun K45 hk45 => ?_
    refine sh1 F2 ?_
    refine sd ?_
    refine hk45 _ ?_
    refine sh1 F2 ?_
    refine hk41 _ (by rfl) (fun K46 hk46 => ?_)
    refine sp0 ?_
    refine evL_take 1 fun K47 hk47 => ?_
    refine sh1 F2 ?_
    refine sd ?_
    refine hk47 _ ?_
    refine sh1 F2 ?_
    refine sd ?_
    refine hk46 _ ?_
    refine so0 ?_
    refine hn40 (some ([10, 11, 12], none)) _ ?_
    exact sf1 F2
  · simp only [if_true]
    unfold evFn sc_r4Load rv_r4Load
    have F1 := And.intro @q2 (And.intro @d1 (And.intro @d2 (And.intro @em (And.intro @ev (And.intro @evp (And.intro @hxi (And.intro @ew @evw)))))))
    refine ev_seq_k fun K1 hn1 hr1 he1 => ?_
    refine ev_ops_k fun K2 hk2 => ?_
    refine sh1 F1 ?_
    refine hk2 _ ?_
    refine hn1 (some ([1, 2, 3, 4, 5, 10, 11], none)) _ ?_
    refine ev_seq_k fun K3 hn3 hr3 he3 => ?_
    refine ev_ops_k fun K4 hk4 => ?_
    refine evL_take 1 fun K5 hk5 => ?_
    refine sh1 F1 ?_
    refine sd ?_
    refine hk5 _ ?_
    refine evL_take 2 fun K6 hk6 => ?_
    refine sh1 F1 ?_
    refine hk6 _ ?_
    refine evL_take 1 fun K7 hk7 => ?_
    refine sh1 F1 ?_
    refine Or.inl (Or.inl ⟨_, c0, ?_⟩)
    refine hk7 _ ?_
    refine sh1 F1 ?_
    refine hk4 _ ?_
    refine hn3 (some ([1, 2, 3, 4, 5, 10, 11, 13], none)) _ ?_
    refine ev_seq_k fun K8 hn8 hr8 he8 => ?_
    refine ev_seq_k fun K9 hn9 hr9 he9 => ?_
    refine ev_ops_k fun K10 hk10 => ?_
    refine sh1 F1 ?_
    refine sd ?_
    refine hk10 _ ?_
    refine hn9 (some ([1, 2, 3, 4, 5, 10, 11, 13, 22], none)) _ ?_
    refine ev_cond_k rfl (fun hx => absurd hx (by simp at hx)) (fun hc0 => ?_)
    clear hc0
    refine hn8 (some ([1, 2, 3, 4, 5, 10, 11], none)) _ ?_
    refine ev_seq_k fun K11 hn11 hr11 he11 => ?_
    refine ev_ops_k fun K12 hk12 => ?_
    refine evL_take 2 fun K13 hk13 => ?_
    refine sh1 F1 ?_
    refine sd ?_
    refine hk13 _ ?_
    refine evL_take 2 fun K14 hk14 => ?_
    refine sh1 F1 ?_
    refine sd ?_
    refine hk14 _ ?_
    refine evL_take 1 fun K15 hk15 => ?_
    refine sh1 F1 ?_
    refine sd ?_
    refine hk15 _ ?_
    refine evL_take 1 fun K16 hk16 => ?_
    refine sh1 F1 ?_
    refine sd ?_
    refine hk16 _ ?_
    refine sh1 F1 ?_
    refine hk12 _ ?_
    refine hn11 (some ([1, 2, 3, 4, 5, 10, 11, 14], none)) _ ?_
    refine ev_seq_k fun K17 hn17 hr17 he17 => ?_
    refine ev_drw_k [] (n := 11) fun K18 hk18 => ?_
    refine sq0 ?_
    refine evF_take 2 fun K20 hk20 => ?_
    refine sh1 F1 ?_
    refine sd ?_
    refine hk20 _ _ _ ?_
    refine evF_take 2 fun K21 hk21 => ?_
    refine sh1 F1 ?_
    refine sd ?_
    refine hk21 _ _ _ ?_
    refine evF_take 1 fun K22 hk22 => ?_
    refine sh1 F1 ?_
    refine sd ?_
    refine hk22 _ _ _ ?_
    refine evF_take 4 fun K23 hk23 => ?_
    refine sh1 F1 ?_
    refine sd ?_
    refine hk23 _ _ _ ?_
    refine evF_take 1 fun K24 hk24 => ?_
    refine sh1 F1 ?_
    refine sd ?_
    refine hk24 _ _ _ ?_
    refine sh1 F1 ?_
    refine hk18 _ ?_
    refine sr0 ?_
    refine evL_take 1 fun K25 hk25 => ?_
    refine sh1 F1 ?_
    refine Or.inl (Or.inl ⟨_, c1, ?_⟩)
    refine hk25 _ ?_
    refine sh1 F1 ?_
    refine hn17 (some ([1, 2, 3, 5, 10, 11, 14, 15], none)) _ ?_
    refine ev_seq_k fun K26 hn26 hr26 he26 => ?_
    refine ev_ops_k fun K27 hk27 => ?_
    refine evL_take 2 fun K28 hk28 => ?_
    refine sh1 F1 ?_
    refine sd ?_
    refine hk28 _ ?_
    refine evL_take 2 fun K29 hk29 => ?_
    refine sh1 F1 ?_
    refine sd ?_
    refine hk29 _ ?_
    refine evL_take 1 fun K30 hk30 => ?_
    refine sh1 F1 ?_
    refine sd ?_
    refine hk30 _ ?_
    refine evL_take 2 fun K31 hk31 => ?_
    refine sh1 F1 ?_
    refine sd ?_
    refine hk31 _ ?_
    refine evL_take 1 fun K32 hk32 => ?_
    refine sh1 F1 ?_
    refine sd ?_
    refine hk32 _ ?_
    refine sh1 F1 ?_
    refine sd ?_
    refine hk27 _ ?_
    refine hn26 (some ([1, 2, 3, 5, 10, 11, 14, 15, 16], none)) _ ?_
    refine ev_seq_k fun K33 hn33 hr33 he33 => ?_
    refine ev_ops_k fun K34 hk34 => ?_
    refine evL_take 3 fun K35 hk35 => ?_
    refine sh1 F1 ?_
    refine hk35 _ ?_
    refine evL_take 1 fun K36 hk36 => ?_
    refine sh1 F1 ?_
    refine Or.inl (Or.inl ⟨_, c2, ?_⟩)
    refine hk36 _ ?_
    refine sh1 F1 ?_
    refine hk34 _ ?_
    refine hn33 (some ([1, 3, 5, 10, 11, 14, 16], none)) _ ?_
    refine ev_seq_k fun K37 hn37 hr37 he37 => ?_
    refine ev_seq_k fun K38 hn38 hr38 he38 => ?_
    refine ev_ops_k fun K39 hk39 => ?_
    refine sh1 F1 ?_
    refine hk39 _ ?_
    refine hn38 (some ([1, 5, 10, 11, 14, 16, 56], none)) _ ?_
    refine ev_cond_k rfl (fun hc1 => ?_) (fun hx => absurd hx (by simp at hx))
    clear hc1
    refine ev_ops_k fun K40 hk40 => ?_
    refine evL_take 3 fun K41 hk41 => ?_
    refine sh1 F1 ?_
    refine sd ?_
    refine hk41 _ ?_
    refine evL_take 1 fun K42 hk42 => ?_
    refine sh1 F1 ?_
    refine Or.inl (Or.inl ⟨_, c3, ?_⟩)
    refine hk42 _ ?_
    refine sh1 F1 ?_
    refine hk40 _ ?_
    refine hn37 (some ([1, 5, 10, 11, 14, 16], none)) _ ?_
    refine ev_seq_k fun K43 hn43 hr43 he43 => ?_
    refine ev_ord_i ([]) [10, 11, 12] [0, 1, 2, 3, 4, 5, 8] [6, 7] (by kernel_rfl) (fun K44 hk44 => ?_)
    refine sp0 ?_
    have F2 := And.intro F1 @shPP
    refine evP_take 1 fun K45 hk45 => ?_
    refine sh1 F2 ?_
    refine sd ?_
    refine hk45 _ ?_
    refine evP_take 2 fun K46 hk46 => ?_
    refine sh1 F2 ?_
    refine hk46 _ ?_
    refine evP_take 1 fun K47 hk47 => ?_
    refine sh1 F2 ?_
    refine ⟨_, c4 u, ?_⟩
    refine hk47 _ ?_
    refine evP_take 2 fun K48 hk48 => ?_
    refine sh1 F2 ?_
    refine sd ?_
    refine hk48 _ ?_
    refine sh1 F2 ?_
    refine hk44 _ (by rfl) (fun K49 hk49 => ?_)
    refine sp0 ?_
    refine evL_take 1 fun K50 hk50 => ?_
    refine sh1 F2 ?_
    refine sd ?_
    refine hk50 _ ?_
    refine sh1 F2 ?_
    refine sd ?_
    refine hk49 _ ?_
    refine so0 ?_
    refine hn43 (some ([10, 11, 12], none)) _ ?_
    exact sf1 F2
set_option maxHeartbeats 4000000 in
theorem ok_r4Look (M : MemM) (t a : Int) {n : Nat} (hM : MemOk M n) (hn : n ≤ 10000) (hI : MemIn M) : Ok 60 [eRef4 (refOf M), sI t, sI a] (.tup [eRef4 (refOf (look1M M t a).1), .agg (eWord (look1M M t a).2.1), sI (look1M M t a).2.2]) := by
  have c0 := ok_r4wrong' M t a
  refine ok_of_tr Try.func60 tr_r4Look rfl ?_
  by_cases hw : wrongM M t a = 0
  case neg =>
    have e : look1M M t a = (M, zWord, wrongM M t a) := if_neg hw
    rw [e]
    have d : (wrongM M t a != 0) = true := by simpa using hw
    generalize wrongM M t a = z at c0 d ⊢
    unfold evFn sc_r4Look rv_r4Look
    have F1 := @d
    refine ev_seq_k fun K1 hn1 hr1 he1 => ?_
    refine ev_ops_k fun K2 hk2 => ?_
    refine sh1 F1 ?_
    refine hk2 _ ?_
    refine hn1 (some ([1, 2, 3, 6, 7], none)) _ ?_
    refine ev_seq_k fun K3 hn3 hr3 he3 => ?_
    refine ev_ops_k fun K4 hk4 => ?_
    refine evL_take 1 fun K5 hk5 => ?_
    refine sh1 F1 ?_
    refine sd ?_
    refine hk5 _ ?_
    refine evL_take 2 fun K6 hk6 => ?_
    refine sh1 F1 ?_
    refine hk6 _ ?_
    refine evL_take 1 fun K7 hk7 => ?_
    refine sh1 F1 ?_
    refine Or.inl (Or.inl ⟨_, c0, ?_⟩)
    refine hk7 _ ?_
    refine sh1 F1 ?_
    refine hk4 _ ?_
    refine hn3 (some ([1, 2, 3, 6, 7, 9], none)) _ ?_
    refine ev_seq_k fun K8 hn8 hr8 he8 => ?_
    refine ev_seq_k fun K9 hn9 hr9 he9 => ?_
    refine ev_ops_k fun K10 hk10 => ?_
    refine sh1 F1 ?_
    refine sd ?_
    refine hk10 _ ?_
    refine hn9 (some ([1, 2, 3, 6, 7, 9, 17], none)) _ ?_
    refine ev_cond_k rfl (fun hc0 => ?_) (fun hx => absurd hx (by simp at hx))
    clear hc0
    refine ev_seq_k fun K11 hn11 hr11 he11 => ?_
    refine ev_ops_k fun K12 hk12 => ?_
    refine evL_take 1 fun K13 hk13 => ?_
    refine sh1 F1 ?_
    refine sd ?_
    refine hk13 _ ?_
    refine evL_take 3 fun K14 hk14 => ?_
    refine sh1 F1 ?_
    refine sd ?_
    refine hk14 _ ?_
    refine evL_take 1 fun K15 hk15 => ?_
    refine sh1 F1 ?_
    refine sd ?_
    refine hk15 _ ?_
    refine sh1 F1 ?_
    refine hk12 _ ?_
    refine hn11 (some ([6, 7, 8], none)) _ ?_
    refine hr8 _ ?_
    refine sg1 F1 ?_
    rfl
  rw [hw] at c0
  obtain ⟨ht, ha⟩ := wrong_zero.1 hw
  have hl := hist_len hM a
  have hp := hist_pos hM ha
  have hv := seen_ok hM t
  have v0 := vGet_nonneg hv a
  have v1 := hI.seen t a ha
  have hin := (plc_in hM ha)
  obtain ⟨i, hi⟩ := Int.eq_ofNat_of_zero_le (show 0 ≤ ((histM M a).length : Int) - 1 by omega)
  have hd : look1M M t a = ((findsM M t a i true).1, (findsM M t a i true).2, 0) := by unfold look1M; rw [if_pos hw, hi]
  rw [hd]
  obtain ⟨p, rfl, hpl, em⟩ := ref_msgs ha
  obtain ⟨m, rfl, hml, ev⟩ := ref_views ht
  have hpl2 := hM.pl
  have hvl2 := hM.vl
  have evp := toL_get M.places.length (seenM M ((m : Int) + 1)) hpl
  have hxi := hist_at hM (a := p) (i := i) (by omega)
  have c2 := ok_r4with 0 (toL M.places.length (seenM M ((m : Int) + 1))) p i (by rw [toL_len]; exact hpl) (by rw [toL_len]; omega)
  rw [← toL_with _ _ p i (by omega) hpl (by omega)] at c2
  have hxv := at_ok hM p i
  have hwv := viewOk_with hv p i
  have c3 := ok_r4join 0 0 (toL M.places.length (vWith (seenM M ((m : Int) + 1)) p i)) (toL M.places.length (atM (histM M p) i).view) (by rw [toL_len, toL_len]) (by rw [toL_len]; omega)
  rw [← toL_join _ hwv hxv] at c3
  have c4 := fun v => ok_r4know' hM hml v
  have q2 : IntKind.i64.wrap ((m : Int) + 1 - 1) = (m : Int) := by rw [IntKind.wrap_i64]; omega
  have q6 : IntKind.i64.wrap (((histM M p).length : Int) - 1) = (i : Int) := by rw [IntKind.wrap_i64]; omega
  have d1 : (p : Int) < ((refOf M).msgs.length : Int) := by rw [(ref_len M).2]; omega
  have d2 : (m : Int) < ((refOf M).views.length : Int) := by rw [(ref_len M).1]; omega
  have d3 : p < M.places.length := hpl
  have d4 : i < (histM M p).length := by omega
  have ew : (refMsg M.places.length (atM (histM M p) i)).word = (atM (histM M p) i).word := rfl
  have evw : (refMsg M.places.length (atM (histM M p) i)).view = toL M.places.length (atM (histM M p) i).view := rfl
  unfold findsM
  have elen : ((histM M p).map (refMsg M.places.length)).length = (histM M p).length := by simp
  generalize (histM M p).map (refMsg M.places.length) = hs at em hxi elen
  generalize hx0 : atM (histM M p) i = x at hxi c3 ew evw ⊢
  generalize refMsg M.places.length x = rx at hxi ew evw
  generalize hu0 : vWith (seenM M ((m : Int) + 1)) p i = v at c2 c3 ⊢
  simp only [if_true]
  generalize vJoin v x.view = u at c3 ⊢
  generalize toL M.places.length (seenM M ((m : Int) + 1)) = sv at ev evp c2
  rw [← elen] at q6
  generalize refOf M = R at c0 c4 em ev d1 d2
  unfold evFn sc_r4Look rv_r4Look
  have F1 := And.intro @q2 (And.intro @q6 (And.intro @d1 (And.intro @d2 (And.intro @em (And.intro @ev (And.intro @evp (And.intro @hxi (And.intro @ew @evw))))))))
  refine ev_seq_k fun K1 hn1 hr1 he1 => ?_
  refine ev_ops_k fun K2 hk2 => ?_
  refine sh1 F1 ?_
  refine hk2 _ ?_
  refine hn1 (some ([1, 2, 3, 6, 7], none)) _ ?_
  refine ev_seq_k fun K3 hn3 hr3 he3 => ?_
  refine ev_ops_k fun K4 hk4 => ?_
  refine evL_take 1 fun K5 hk5 => ?_
  refine sh1 F1 ?_
  refine sd ?_
  refine hk5 _ ?_
  refine evL_take 2 fun K6 hk6 => ?_
  refine sh1 F1 ?_
  refine hk6 _ ?_
  refine evL_take 1 fun K7 hk7 => ?_
  refine sh1 F1 ?_
  refine Or.inl (Or.inl ⟨_, c0, ?_⟩)
  refine hk7 _ ?_
  refine sh1 F1 ?_
  refine hk4 _ ?_
  refine hn3 (some ([1, 2, 3, 6, 7, 9], none)) _ ?_
  refine ev_seq_k fun K8 hn8 hr8 he8 => ?_
  refine ev_seq_k fun K9 hn9 hr9 he9 => ?_
  refine ev_ops_k fun K10 hk10 => ?_
  refine sh1 F1 ?_
  refine sd ?_
  refine hk10 _ ?_
  refine hn9 (some ([1, 2, 3, 6, 7, 9, 17], none)) _ ?_
  refine ev_cond_k rfl (fun hx => absurd hx (by simp at hx)) (fun hc0 => ?_)
  clear hc0
  refine hn8 (some ([1, 2, 3, 6, 7], none)) _ ?_
  refine ev_seq_k fun K11 hn11 hr11 he11 => ?_
  refine ev_ops_k fun K12 hk12 => ?_
  refine evL_take 2 fun K13 hk13 => ?_
  refine sh1 F1 ?_
  refine sd ?_
  refine hk13 _ ?_
  refine evL_take 2 fun K14 hk14 => ?_
  refine sh1 F1 ?_
  refine sd ?_
  refine hk14 _ ?_
  refine evL_take 1 fun K15 hk15 => ?_
  refine sh1 F1 ?_
  refine sd ?_
  refine hk15 _ ?_
  refine evL_take 2 fun K16 hk16 => ?_
  refine sh1 F1 ?_
  refine sd ?_
  refine hk16 _ ?_
  refine sh1 F1 ?_
  refine hk12 _ ?_
  refine hn11 (some ([1, 2, 3, 6, 7, 10], none)) _ ?_
  refine ev_seq_k fun K17 hn17 hr17 he17 => ?_
  refine ev_ops_k fun K18 hk18 => ?_
  refine evL_take 2 fun K19 hk19 => ?_
  refine sh1 F1 ?_
  refine sd ?_
  refine hk19 _ ?_
  refine evL_take 2 fun K20 hk20 => ?_
  refine sh1 F1 ?_
  refine sd ?_
  refine hk20 _ ?_
  refine evL_take 1 fun K21 hk21 => ?_
  refine sh1 F1 ?_
  refine sd ?_
  refine hk21 _ ?_
  refine evL_take 2 fun K22 hk22 => ?_
  refine sh1 F1 ?_
  refine sd ?_
  refine hk22 _ ?_
  refine evL_take 1 fun K23 hk23 => ?_
  refine sh1 F1 ?_
  refine sd ?_
  refine hk23 _ ?_
  refine sh1 F1 ?_
  refine sd ?_
  refine hk18 _ ?_
  refine hn17 (some ([1, 2, 3, 6, 7, 10, 11], none)) _ ?_
  refine ev_seq_k fun K24 hn24 hr24 he24 => ?_
  refine ev_ord_i ([]) [6, 7, 8] [0, 1, 2, 3, 4, 5, 6, 7, 8, 9, 10, 11, 12, 13, 14, 15, 16, 19] [17, 18] (by kernel_rfl) (fun K25 hk25 => ?_)
  refine sp0 ?_
  have F2 := And.intro F1 @shPP
  refine evP_take 1 fun K26 hk26 => ?_
  refine sh1 F2 ?_
  refine sd ?_
  refine hk26 _ ?_
  refine evP_take 3 fun K27 hk27 => ?_
  refine sh1 F2 ?_
  refine sd ?_
  refine hk27 _ ?_
  refine evP_take 2 fun K28 hk28 => ?_
  refine sh1 F2 ?_
  refine sd ?_
  refine hk28 _ ?_
  refine evP_take 1 fun K29 hk29 => ?_
  refine sh1 F2 ?_
  refine sd ?_
  refine hk29 _ ?_
  refine evP_take 1 fun K30 hk30 => ?_
  refine sh1 F2 ?_
  refine sd ?_
  refine hk30 _ ?_
  refine evP_take 2 fun K31 hk31 => ?_
  refine sh1 F2 ?_
  refine hk31 _ ?_
  refine evP_take 1 fun K32 hk32 => ?_
  refine sh1 F2 ?_
  refine ⟨_, c2, ?_⟩
  refine hk32 _ ?_
  refine evP_take 2 fun K33 hk33 => ?_
  refine sh1 F2 ?_
  refine sd ?_
  refine hk33 _ ?_
  refine evP_take 1 fun K34 hk34 => ?_
  refine sh1 F2 ?_
  refine ⟨_, c3, ?_⟩
  refine hk34 _ ?_
  refine evP_take 1 fun K35 hk35 => ?_
  refine sh1 F2 ?_
  refine ⟨_, c4 u, ?_⟩
  refine hk35 _ ?_
  refine evP_take 2 fun K36 hk36 => ?_
  refine sh1 F2 ?_
  refine sd ?_
  refine hk36 _ ?_
  refine sh1 F2 ?_
  refine hk25 _ (by rfl) (fun K37 hk37 => ?_)
  refine sp0 ?_
  refine evL_take 1 fun K38 hk38 => ?_
  refine sh1 F2 ?_
  refine sd ?_
  refine hk38 _ ?_
  refine sh1 F2 ?_
  refine sd ?_
  refine hk37 _ ?_
  refine so0 ?_
  refine hn24 (some ([6, 7, 8], none)) _ ?_
  exact sf1 F2
set_option maxHeartbeats 4000000 in
theorem ok_r4Store (M : MemM) (t a : Int) (w : WordV) (q : Bool) {n : Nat} (hM : MemOk M n) (hn : n ≤ 10000) (hI : MemIn M) : Ok 59 [eRef4 (refOf M), sI t, sI a, .agg (eWord w), sB q] (.tup [eRef4 (refOf (mstoreM M t a w q).1), sI (mstoreM M t a w q).2]) := by
  have c0 := ok_r4wrong' M t a
  refine ok_of_tr Try.func59 tr_r4Store rfl ?_
  by_cases hw : wrongM M t a = 0
  case neg =>
    have e : mstoreM M t a w q = (M, wrongM M t a) := if_neg hw
    rw [e]
    have d : (wrongM M t a != 0) = true := by simpa using hw
    generalize wrongM M t a = z at c0 d ⊢
    unfold evFn sc_r4Store rv_r4Store
    have F1 := @d
    refine ev_seq_k fun K1 hn1 hr1 he1 => ?_
    refine ev_ops_k fun K2 hk2 => ?_
    refine sh1 F1 ?_
    refine hk2 _ ?_
    refine hn1 (some ([1, 2, 4, 5, 8, 10], none)) _ ?_
    refine ev_seq_k fun K3 hn3 hr3 he3 => ?_
    refine ev_ops_k fun K4 hk4 => ?_
    refine evL_take 1 fun K5 hk5 => ?_
    refine sh1 F1 ?_
    refine sd ?_
    refine hk5 _ ?_
    refine evL_take 2 fun K6 hk6 => ?_
    refine sh1 F1 ?_
    refine hk6 _ ?_
    refine evL_take 1 fun K7 hk7 => ?_
    refine sh1 F1 ?_
    refine Or.inl (Or.inl ⟨_, c0, ?_⟩)
    refine hk7 _ ?_
    refine sh1 F1 ?_
    refine hk4 _ ?_
    refine hn3 (some ([1, 2, 4, 5, 8, 10, 12], none)) _ ?_
    refine ev_seq_k fun K8 hn8 hr8 he8 => ?_
    refine ev_seq_k fun K9 hn9 hr9 he9 => ?_
    refine ev_ops_k fun K10 hk10 => ?_
    refine sh1 F1 ?_
    refine sd ?_
    refine hk10 _ ?_
    refine hn9 (some ([1, 2, 4, 5, 8, 10, 12, 21], none)) _ ?_
    refine ev_cond_k rfl (fun hc0 => ?_) (fun hx => absurd hx (by simp at hx))
    clear hc0
    refine ev_seq_k fun K11 hn11 hr11 he11 => ?_
    refine ev_ops_k fun K12 hk12 => ?_
    refine evL_take 1 fun K13 hk13 => ?_
    refine sh1 F1 ?_
    refine sd ?_
    refine hk13 _ ?_
    refine evL_take 2 fun K14 hk14 => ?_
    refine sh1 F1 ?_
    refine sd ?_
    refine hk14 _ ?_
    refine sh1 F1 ?_
    refine hk12 _ ?_
    refine hn11 (some ([10, 11], none)) _ ?_
    refine hr8 _ ?_
    exact sf1 F1
  rw [hw] at c0
  obtain ⟨ht, ha⟩ := wrong_zero.1 hw
  have hl := hist_len hM a
  have hp := hist_pos hM ha
  have hv := seen_ok hM t
  have v0 := vGet_nonneg hv a
  have v1 := hI.seen t a ha
  have hin := (plc_in hM ha)
  have hd : mstoreM M t a w q = (addsM M t a w q, 0) := if_pos hw
  rw [hd]
  obtain ⟨p, rfl, hpl, em⟩ := ref_msgs ha
  obtain ⟨m, rfl, hml, ev⟩ := ref_views ht
  have hpl2 := hM.pl
  have hvl2 := hM.vl
  have evp := toL_get M.places.length (seenM M ((m : Int) + 1)) hpl
  have c2 := ok_r4with 0 (toL M.places.length (seenM M ((m : Int) + 1))) p (histM M p).length (by rw [toL_len]; exact hpl) (by rw [toL_len]; omega)
  rw [← toL_with _ _ p _ (by omega) hpl (by omega)] at c2
  have c3 := ok_r4with 0 (toL M.places.length fun _ => none) p (histM M p).length (by rw [toL_len]; exact hpl) (by rw [toL_len]; omega)
  rw [← toL_with _ _ p _ (by omega) hpl (by simp [vGet]), toL_none] at c3
  have er : (List.replicate M.places.length (0 : Int)).map eRI = List.replicate M.places.length [sI 0] := by simp
  rw [er] at c3
  have elv : (toL M.places.length (vWith (seenM M ((m : Int) + 1)) p (histM M p).length)).length = M.places.length := toL_len _ _
  have c4 := ok_r4know' hM hml (vWith (seenM M ((m : Int) + 1)) p (histM M p).length)
  have ek : (refOf (withM M ((m : Int) + 1) (vWith (seenM M ((m : Int) + 1)) p (histM M p).length))).msgs[p]? = some ((histM M p).map (refMsg M.places.length)) := by rw [ref_with]; exact em
  have c5 := fun (x : MsgV) => ok_r4add (refOf (withM M ((m : Int) + 1) (vWith (seenM M ((m : Int) + 1)) p (histM M p).length))) p (refMsg M.places.length x) ek (by simp; omega) (by rw [ref_with, (ref_len M).2]; exact hpl2)
  have e5 : ∀ x : MsgV, (⟨(refOf (withM M ((m : Int) + 1) (vWith (seenM M ((m : Int) + 1)) p (histM M p).length))).views, (refOf (withM M ((m : Int) + 1) (vWith (seenM M ((m : Int) + 1)) p (histM M p).length))).msgs.set p ((histM M p).map (refMsg M.places.length) ++ [refMsg M.places.length x])⟩ : RefM4) = refOf (withM ⟨M.places.set p (histM M p ++ [x]), M.views⟩ ((m : Int) + 1) (vWith (seenM M ((m : Int) + 1)) p (histM M p).length)) := fun x => by
    rw [ref_with, ref_with, ref_put]
    simp only [List.map_append, List.map_cons, List.map_nil, List.length_set]
  have c6 := fun x => Eq.mp (congrArg (fun r => Ok 84 [eRef4 (refOf (withM M ((m : Int) + 1) (vWith (seenM M ((m : Int) + 1)) p (histM M p).length))), sI p, .agg (eRM (refMsg M.places.length x))] (eRef4 r)) (e5 x)) (c5 x)
  have q2 : IntKind.i64.wrap ((m : Int) + 1 - 1) = (m : Int) := by rw [IntKind.wrap_i64]; omega
  have d1 : (p : Int) < ((refOf M).msgs.length : Int) := by rw [(ref_len M).2]; omega
  have d2 : (m : Int) < ((refOf M).views.length : Int) := by rw [(ref_len M).1]; omega
  have d3 : p < M.places.length := hpl
  have q3 : M.places.length * 8 ≤ 140737488355328 := by omega
  have q4 : M.places.length ≤ 1000000 := by omega
  have elen : ((histM M p).map (refMsg M.places.length)).length = (histM M p).length := by simp
  have hdef : addsM M ((m : Int) + 1) p w q = withM ⟨M.places.set p (histM M p ++ [⟨w, (m : Int) + 1, toldM M ((m : Int) + 1) p q⟩]), M.views⟩ ((m : Int) + 1) (vWith (seenM M ((m : Int) + 1)) p (histM M p).length) := rfl
  rw [hdef]
  unfold toldM
  cases q
  · simp only [Bool.false_eq_true, if_false]
    have c7 := c6 ⟨w, (m : Int) + 1, vWith (fun _ => none) p (histM M p).length⟩
    simp only [refMsg] at c7
    clear hdef c5 c6 e5 ek hd
    rw [← elen] at c2 c3 elv c4 c7 ⊢
    generalize (histM M p).map (refMsg M.places.length) = hs at em elen c2 c3 elv c4 c7 ⊢
    generalize vWith (seenM M ((m : Int) + 1)) p hs.length = v at c2 elv c4 c7 ⊢
    generalize vWith (fun _ => none) p hs.length = u at c3 c7 ⊢
    generalize toL M.places.length (seenM M ((m : Int) + 1)) = sv at ev evp c2
    generalize refOf M = R at c0 c4 em ev d1 d2
    unfold evFn sc_r4Store rv_r4Store
    have F1 := And.intro @q2 (And.intro @q3 (And.intro @q4 (And.intro @d1 (And.intro @d2 (And.intro @em (And.intro @ev (And.intro @evp @elv)))))))
    refine ev_seq_k fun K1 hn1 hr1 he1 => ?_
    refine ev_ops_k fun K2 hk2 => ?_
    refine sh1 F1 ?_
    refine hk2 _ ?_
    refine hn1 (some ([1, 2, 4, 5, 8, 10], none)) _ ?_
    refine ev_seq_k fun K3 hn3 hr3 he3 => ?_
    refine ev_ops_k fun K4 hk4 => ?_
    refine evL_take 1 fun K5 hk5 => ?_
    refine sh1 F1 ?_
    refine sd ?_
    refine hk5 _ ?_
    refine evL_take 2 fun K6 hk6 => ?_
    refine sh1 F1 ?_
    refine hk6 _ ?_
    refine evL_take 1 fun K7 hk7 => ?_
    refine sh1 F1 ?_
    refine Or.inl (Or.inl ⟨_, c0, ?_⟩)
    refine hk7 _ ?_
    refine sh1 F1 ?_
    refine hk4 _ ?_
    refine hn3 (some ([1, 2, 4, 5, 8, 10, 12], none)) _ ?_
    refine ev_seq_k fun K8 hn8 hr8 he8 => ?_
    refine ev_seq_k fun K9 hn9 hr9 he9 => ?_
    refine ev_ops_k fun K10 hk10 => ?_
    refine sh1 F1 ?_
    refine sd ?_
    refine hk10 _ ?_
    refine hn9 (some ([1, 2, 4, 5, 8, 10, 12, 21], none)) _ ?_
    refine ev_cond_k rfl (fun hx => absurd hx (by simp at hx)) (fun hc0 => ?_)
    clear hc0
    refine hn8 (some ([1, 2, 4, 5, 8, 10], none)) _ ?_
    refine ev_seq_k fun K11 hn11 hr11 he11 => ?_
    refine ev_ops_k fun K12 hk12 => ?_
    refine evL_take 2 fun K13 hk13 => ?_
    refine sh1 F1 ?_
    refine sd ?_
    refine hk13 _ ?_
    refine evL_take 2 fun K14 hk14 => ?_
    refine sh1 F1 ?_
    refine sd ?_
    refine hk14 _ ?_
    refine evL_take 1 fun K15 hk15 => ?_
    refine sh1 F1 ?_
    refine sd ?_
    refine hk15 _ ?_
    refine sh1 F1 ?_
    refine hk12 _ ?_
    refine hn11 (some ([1, 2, 4, 5, 8, 10, 13], none)) _ ?_
    refine ev_seq_k fun K16 hn16 hr16 he16 => ?_
    refine ev_ops_k fun K17 hk17 => ?_
    refine evL_take 2 fun K18 hk18 => ?_
    refine sh1 F1 ?_
    refine sd ?_
    refine hk18 _ ?_
    refine evL_take 2 fun K19 hk19 => ?_
    refine sh1 F1 ?_
    refine sd ?_
    refine hk19 _ ?_
    refine evL_take 1 fun K20 hk20 => ?_
    refine sh1 F1 ?_
    refine sd ?_
    refine hk20 _ ?_
    refine evL_take 1 fun K21 hk21 => ?_
    refine sh1 F1 ?_
    refine sd ?_
    refine hk21 _ ?_
    refine evL_take 2 fun K22 hk22 => ?_
    refine sh1 F1 ?_
    refine hk22 _ ?_
    refine evL_take 1 fun K23 hk23 => ?_
    refine sh1 F1 ?_
    refine Or.inl (Or.inl ⟨_, c2, ?_⟩)
    refine hk23 _ ?_
    refine sh1 F1 ?_
    refine hk17 _ ?_
    refine hn16 (some ([1, 2, 4, 5, 8, 10, 13, 14], none)) _ ?_
    refine ev_seq_k fun K24 hn24 hr24 he24 => ?_
    refine ev_drw_k [] (n := 9) fun K25 hk25 => ?_
    refine sq0 ?_
    refine evF_take 1 fun K27 hk27 => ?_
    refine sh1 F1 ?_
    refine sd ?_
    refine hk27 _ _ _ ?_
    refine evF_take 3 fun K28 hk28 => ?_
    refine sh1 F1 ?_
    refine sd ?_
    refine hk28 _ _ _ ?_
    refine evF_take 2 fun K29 hk29 => ?_
    refine sh1 F1 ?_
    refine hk29 _ _ _ ?_
    refine evF_take 1 fun K30 hk30 => ?_
    refine sh1 F1 ?_
    refine ⟨_, c3, ?_⟩
    refine hk30 _ _ _ ?_
    refine sh1 F1 ?_
    refine hk25 _ ?_
    refine sr0 ?_
    refine sh1 F1 ?_
    refine sd ?_
    refine hn24 (some ([1, 2, 4, 5, 10, 14, 15], none)) _ ?_
    refine ev_seq_k fun K31 hn31 hr31 he31 => ?_
    refine ev_seq_k fun K32 hn32 hr32 he32 => ?_
    refine ev_ops_k fun K33 hk33 => ?_
    refine sh1 F1 ?_
    refine hk33 _ ?_
    refine hn32 (some ([1, 2, 5, 10, 14, 15, 47], none)) _ ?_
    refine ev_cond_k rfl (fun hx => absurd hx (by simp at hx)) (fun hc1 => ?_)
    clear hc1
    refine hn31 (some ([1, 2, 5, 10, 14, 15], none)) _ ?_
    refine ev_seq_k fun K34 hn34 hr34 he34 => ?_
    refine ev_drw_k [] (n := 6) fun K35 hk35 => ?_
    refine sq0 ?_
    refine evF_take 1 fun K37 hk37 => ?_
    refine sh1 F1 ?_
    refine sd ?_
    refine hk37 _ _ _ ?_
    refine evF_take 2 fun K38 hk38 => ?_
    refine sh1 F1 ?_
    refine hk38 _ _ _ ?_
    refine evF_take 1 fun K39 hk39 => ?_
    refine sh1 F1 ?_
    refine ⟨_, c4, ?_⟩
    refine hk39 _ _ _ ?_
    refine sh1 F1 ?_
    refine sd ?_
    refine hk35 _ ?_
    refine sr0 ?_
    refine evL_take 1 fun K40 hk40 => ?_
    refine sh1 F1 ?_
    refine Or.inl (Or.inl ⟨_, c7, ?_⟩)
    refine hk40 _ ?_
    refine evL_take 1 fun K41 hk41 => ?_
    refine sh1 F1 ?_
    refine sd ?_
    refine hk41 _ ?_
    refine sh1 F1 ?_
    refine hn34 (some ([10, 11], none)) _ ?_
    exact sf1 F1
  · simp only [if_true]
    have c7 := c6 ⟨w, (m : Int) + 1, vWith (seenM M ((m : Int) + 1)) p (histM M p).length⟩
    simp only [refMsg] at c7
    clear hdef c5 c6 e5 ek hd
    rw [← elen] at c2 c3 elv c4 c7 ⊢
    generalize (histM M p).map (refMsg M.places.length) = hs at em elen c2 c3 elv c4 c7 ⊢
    generalize vWith (seenM M ((m : Int) + 1)) p hs.length = v at c2 elv c4 c7 ⊢
    generalize vWith (fun _ => none) p hs.length = u at c3
    generalize toL M.places.length (seenM M ((m : Int) + 1)) = sv at ev evp c2
    generalize refOf M = R at c0 c4 em ev d1 d2
    unfold evFn sc_r4Store rv_r4Store
    have F1 := And.intro @q2 (And.intro @q3 (And.intro @q4 (And.intro @d1 (And.intro @d2 (And.intro @em (And.intro @ev (And.intro @evp @elv)))))))
    refine ev_seq_k fun K1 hn1 hr1 he1 => ?_
    refine ev_ops_k fun K2 hk2 => ?_
    refine sh1 F1 ?_
    refine hk2 _ ?_
    refine hn1 (some ([1, 2, 4, 5, 8, 10], none)) _ ?_
    refine ev_seq_k fun K3 hn3 hr3 he3 => ?_
    refine ev_ops_k fun K4 hk4 => ?_
    refine evL_take 1 fun K5 hk5 => ?_
    refine sh1 F1 ?_
    refine sd ?_
    refine hk5 _ ?_
    refine evL_take 2 fun K6 hk6 => ?_
    refine sh1 F1 ?_
    refine hk6 _ ?_
    refine evL_take 1 fun K7 hk7 => ?_
    refine sh1 F1 ?_
    refine Or.inl (Or.inl ⟨_, c0, ?_⟩)
    refine hk7 _ ?_
    refine sh1 F1 ?_
    refine hk4 _ ?_
    refine hn3 (some ([1, 2, 4, 5, 8, 10, 12], none)) _ ?_
    refine ev_seq_k fun K8 hn8 hr8 he8 => ?_
    refine ev_seq_k fun K9 hn9 hr9 he9 => ?_
    refine ev_ops_k fun K10 hk10 => ?_
    refine sh1 F1 ?_
    refine sd ?_
    refine hk10 _ ?_
    refine hn9 (some ([1, 2, 4, 5, 8, 10, 12, 21], none)) _ ?_
    refine ev_cond_k rfl (fun hx => absurd hx (by simp at hx)) (fun hc0 => ?_)
    clear hc0
    refine hn8 (some ([1, 2, 4, 5, 8, 10], none)) _ ?_
    refine ev_seq_k fun K11 hn11 hr11 he11 => ?_
    refine ev_ops_k fun K12 hk12 => ?_
    refine evL_take 2 fun K13 hk13 => ?_
    refine sh1 F1 ?_
    refine sd ?_
    refine hk13 _ ?_
    refine evL_take 2 fun K14 hk14 => ?_
    refine sh1 F1 ?_
    refine sd ?_
    refine hk14 _ ?_
    refine evL_take 1 fun K15 hk15 => ?_
    refine sh1 F1 ?_
    refine sd ?_
    refine hk15 _ ?_
    refine sh1 F1 ?_
    refine hk12 _ ?_
    refine hn11 (some ([1, 2, 4, 5, 8, 10, 13], none)) _ ?_
    refine ev_seq_k fun K16 hn16 hr16 he16 => ?_
    refine ev_ops_k fun K17 hk17 => ?_
    refine evL_take 2 fun K18 hk18 => ?_
    refine sh1 F1 ?_
    refine sd ?_
    refine hk18 _ ?_
    refine evL_take 2 fun K19 hk19 => ?_
    refine sh1 F1 ?_
    refine sd ?_
    refine hk19 _ ?_
    refine evL_take 1 fun K20 hk20 => ?_
    refine sh1 F1 ?_
    refine sd ?_
    refine hk20 _ ?_
    refine evL_take 1 fun K21 hk21 => ?_
    refine sh1 F1 ?_
    refine sd ?_
    refine hk21 _ ?_
    refine evL_take 2 fun K22 hk22 => ?_
    refine sh1 F1 ?_
    refine hk22 _ ?_
    refine evL_take 1 fun K23 hk23 => ?_
    refine sh1 F1 ?_
    refine Or.inl (Or.inl ⟨_, c2, ?_⟩)
    refine hk23 _ ?_
    refine sh1 F1 ?_
    refine hk17 _ ?_
    refine hn16 (some ([1, 2, 4, 5, 8, 10, 13, 14], none)) _ ?_
    refine ev_seq_k fun K24 hn24 hr24 he24 => ?_
    refine ev_drw_k [] (n := 9) fun K25 hk25 => ?_
    refine sq0 ?_
    refine evF_take 1 fun K27 hk27 => ?_
    refine sh1 F1 ?_
    refine sd ?_
    refine hk27 _ _ _ ?_
    refine evF_take 3 fun K28 hk28 => ?_
    refine sh1 F1 ?_
    refine sd ?_
    refine hk28 _ _ _ ?_
    refine evF_take 2 fun K29 hk29 => ?_
    refine sh1 F1 ?_
    refine hk29 _ _ _ ?_
    refine evF_take 1 fun K30 hk30 => ?_
    refine sh1 F1 ?_
    refine ⟨_, c3, ?_⟩
    refine hk30 _ _ _ ?_
    refine sh1 F1 ?_
    refine hk25 _ ?_
    refine sr0 ?_
    refine sh1 F1 ?_
    refine sd ?_
    refine hn24 (some ([1, 2, 4, 5, 10, 14, 15], none)) _ ?_
    refine ev_seq_k fun K31 hn31 hr31 he31 => ?_
    refine ev_seq_k fun K32 hn32 hr32 he32 => ?_
    refine ev_ops_k fun K33 hk33 => ?_
    refine sh1 F1 ?_
    refine hk33 _ ?_
    refine hn32 (some ([1, 2, 5, 10, 14, 15, 47], none)) _ ?_
    refine ev_cond_k rfl (fun hc1 => ?_) (fun hx => absurd hx (by simp at hx))
    clear hc1
    refine ev_ops_k fun K34 hk34 => ?_
    refine sh1 F1 ?_
    refine sd ?_
    refine hk34 _ ?_
    refine hn31 (some ([1, 2, 5, 10, 14, 15], none)) _ ?_
    refine ev_seq_k fun K35 hn35 hr35 he35 => ?_
    refine ev_drw_k [] (n := 6) fun K36 hk36 => ?_
    refine sq0 ?_
    refine evF_take 1 fun K38 hk38 => ?_
    refine sh1 F1 ?_
    refine sd ?_
    refine hk38 _ _ _ ?_
    refine evF_take 2 fun K39 hk39 => ?_
    refine sh1 F1 ?_
    refine hk39 _ _ _ ?_
    refine evF_take 1 fun K40 hk40 => ?_
    refine sh1 F1 ?_
    refine ⟨_, c4, ?_⟩
    refine hk40 _ _ _ ?_
    refine sh1 F1 ?_
    refine sd ?_
    refine hk36 _ ?_
    refine sr0 ?_
    refine evL_take 1 fun K41 hk41 => ?_
    refine sh1 F1 ?_
    refine Or.inl (Or.inl ⟨_, c7, ?_⟩)
    refine hk41 _ ?_
    refine evL_take 1 fun K42 hk42 => ?_
    refine sh1 F1 ?_
    refine sd ?_
    refine hk42 _ ?_
    refine sh1 F1 ?_
    refine hn35 (some ([10, 11], none)) _ ?_
    exact sf1 F1
end Go.Proofs.Ytfcjkchpldfamaa

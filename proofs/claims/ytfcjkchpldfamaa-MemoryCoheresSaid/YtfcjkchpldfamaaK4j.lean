/-
  MemoryCoheres: the walk.
-/
import Derived.Test.YtfcjkchpldfamaaK4i
import Derived.Test.YtfcjkchpldfamaaScMemoryCoheres
namespace Go.Proofs.Ytfcjkchpldfamaa
set_option linter.unusedSimpArgs false
set_option linter.unusedVariables false
open Go.RowKit Go.Maps

def CInv0 (d : DoV) (M N : MemM) (m : Nat) (S : St) : Prop :=
  ∃ p, p ≤ M.places.length ∧ m = M.places.length - p ∧ S = ⟨[(3, .ptr 0 0 0), (5, .ptr 1 0 0), (7, .ptr 2 0 0), (11, sI M.views.length), (12, sI M.places.length), (13, sI p)], [(0, .box 33 (eDo d)), (1, boxM M), (2, boxM N)], 3⟩
def CInv1 (d : DoV) (M N : MemM) (p : Nat) (m : Nat) (S : St) : Prop :=
  ∃ s, 1 ≤ s ∧ s ≤ M.views.length + 1 ∧ m = M.views.length + 1 - s ∧ S = ⟨[(3, .ptr 0 0 0), (5, .ptr 1 0 0), (7, .ptr 2 0 0), (11, sI M.views.length), (12, sI M.places.length), (13, sI p), (14, sI p), (15, sI s)], [(0, .box 33 (eDo d)), (1, boxM M), (2, boxM N)], 3⟩
def CInv2 (d : DoV) (M N : MemM) (p : Nat) (h k : List MsgV) (m : Nat) (S : St) : Prop :=
  ∃ i, i ≤ h.length ∧ m = h.length - i ∧ S = ⟨[(3, .ptr 0 0 0), (5, .ptr 1 0 0), (7, .ptr 2 0 0), (11, sI M.views.length), (12, sI M.places.length), (13, sI p), (18, .ptr 3 0 0), (20, .ptr 4 0 0), (22, sI i)], [(0, .box 33 (eDo d)), (1, boxM M), (2, boxM N), (3, .box 53 (ePlace h)), (4, .box 53 (ePlace k))], 5⟩

set_option maxHeartbeats 8000000 in
theorem ok_MemoryCoheres (k : Int) (g : Nat) (ws : List WordV) (g2 : Nat) (ds : List DoV) (d : DoV) : Ok 3 [.agg (cCase k g ws g2 ds), .agg (eDo d)] (sB true) := by
  refine ok_of_tr Try.func3 tr_MemoryCoheres rfl ?_
  have c1 := ok_l4begun k g ws g2 ds
  have hM := memOk_begun k ws ds
  generalize begunM k ws ds = R at c1 hM
  obtain ⟨M, b⟩ := R
  simp only at c1 hM
  cases b
  · skip
    unfold evFn sc_MemoryCoheres rv_MemoryCoheres
    refine ev_seq_k fun K1 hn1 hr1 he1 => ?_
    refine ev_ops_k fun K2 hk2 => ?_
    refine sh0 ?_
    refine hk2 _ ?_
    refine hn1 (some ([2, 3, 74, 75, 76, 77, 78, 79, 80, 81, 82, 102, 103, 104, 105, 106, 107, 110, 111, 112, 113, 114, 115, 116, 117, 118, 119, 120, 121], none)) _ ?_
    refine ev_seq_k fun K3 hn3 hr3 he3 => ?_
    refine ev_seq_k fun K4 hn4 hr4 he4 => ?_
    refine ev_ops_k fun K5 hk5 => ?_
    refine evL_take 1 fun K6 hk6 => ?_
    refine sh0 ?_
    refine Or.inl (Or.inl ⟨_, ok_l4awake, ?_⟩)
    refine hk6 _ ?_
    refine sh0 ?_
    refine hk5 _ ?_
    refine hn4 (some ([2, 3, 28, 74, 75, 76, 77, 78, 79, 80, 81, 82, 102, 103, 104, 105, 106, 107, 110, 111, 112, 113, 114, 115, 116, 117, 118, 119, 120, 121], none)) _ ?_
    refine ev_cond_k rfl (fun hx => absurd hx (by simp at hx)) (fun hc0 => ?_)
    clear hc0
    refine hn3 (some ([2, 3, 74, 75, 76, 77, 78, 79, 80, 81, 82, 102, 103, 104, 105, 106, 107, 110, 111, 112, 113, 114, 115, 116, 117, 118, 119, 120, 121], none)) _ ?_
    refine ev_seq_k fun K7 hn7 hr7 he7 => ?_
    refine ev_ops_k fun K8 hk8 => ?_
    refine evL_take 1 fun K9 hk9 => ?_
    refine sh0 ?_
    refine sd ?_
    refine hk9 _ ?_
    refine evL_take 1 fun K10 hk10 => ?_
    refine sh0 ?_
    refine Or.inl (Or.inl ⟨_, c1, ?_⟩)
    refine hk10 _ ?_
    refine evL_take 5 fun K11 hk11 => ?_
    refine sh0 ?_
    refine sd ?_
    refine hk11 _ ?_
    refine sh0 ?_
    refine hk8 _ ?_
    refine hn7 (some ([3, 5, 6, 74, 75, 76, 77, 78, 79, 80, 81, 82, 102, 103, 104, 105, 106, 107, 110, 111, 112, 113, 114, 115, 116, 117, 118, 119, 120, 121], none)) _ ?_
    refine ev_seq_k fun K12 hn12 hr12 he12 => ?_
    refine ev_seq_k fun K13 hn13 hr13 he13 => ?_
    refine ev_ops_k fun K14 hk14 => ?_
    refine sh0 ?_
    refine hk14 _ ?_
    refine hn13 (some ([3, 5, 35, 74, 75, 76, 77, 78, 79, 80, 81, 82, 102, 103, 104, 105, 106, 107, 110, 111, 112, 113, 114, 115, 116, 117, 118, 119, 120, 121], none)) _ ?_
    refine ev_cond_k rfl (fun hc1 => ?_) (fun hx => absurd hx (by simp at hx))
    clear hc1
    refine ev_seq_k fun K15 hn15 hr15 he15 => ?_
    refine ev_ops_k fun K16 hk16 => ?_
    refine sh0 ?_
    refine hk16 _ ?_
    refine hn15 (some ([4], none)) _ ?_
    refine hr12 _ ?_
    exact sf0
  have hC := coh_do hM d
  have hN := memOk_do hM d
  have c2 := ok_l4do M d hM (by omega)
  generalize do4M M d = R at c2 hC hN
  obtain ⟨N, wd, dn, er⟩ := R
  simp only at c2 hC hN
  have hpl := hM.pl
  have hvl := hM.vl
  unfold evFn sc_MemoryCoheres rv_MemoryCoheres
  refine ev_seq_k fun K1 hn1 hr1 he1 => ?_
  refine ev_ops_k fun K2 hk2 => ?_
  refine sh0 ?_
  refine hk2 _ ?_
  refine hn1 (some ([2, 3, 74, 75, 76, 77, 78, 79, 80, 81, 82, 102, 103, 104, 105, 106, 107, 110, 111, 112, 113, 114, 115, 116, 117, 118, 119, 120, 121], none)) _ ?_
  refine ev_seq_k fun K3 hn3 hr3 he3 => ?_
  refine ev_seq_k fun K4 hn4 hr4 he4 => ?_
  refine ev_ops_k fun K5 hk5 => ?_
  refine evL_take 1 fun K6 hk6 => ?_
  refine sh0 ?_
  refine Or.inl (Or.inl ⟨_, ok_l4awake, ?_⟩)
  refine hk6 _ ?_
  refine sh0 ?_
  refine hk5 _ ?_
  refine hn4 (some ([2, 3, 28, 74, 75, 76, 77, 78, 79, 80, 81, 82, 102, 103, 104, 105, 106, 107, 110, 111, 112, 113, 114, 115, 116, 117, 118, 119, 120, 121], none)) _ ?_
  refine ev_cond_k rfl (fun hx => absurd hx (by simp at hx)) (fun hc0 => ?_)
  clear hc0
  refine hn3 (some ([2, 3, 74, 75, 76, 77, 78, 79, 80, 81, 82, 102, 103, 104, 105, 106, 107, 110, 111, 112, 113, 114, 115, 116, 117, 118, 119, 120, 121], none)) _ ?_
  refine ev_seq_k fun K7 hn7 hr7 he7 => ?_
  refine ev_ops_k fun K8 hk8 => ?_
  refine evL_take 1 fun K9 hk9 => ?_
  refine sh0 ?_
  refine sd ?_
  refine hk9 _ ?_
  refine evL_take 1 fun K10 hk10 => ?_
  refine sh0 ?_
  refine Or.inl (Or.inl ⟨_, c1, ?_⟩)
  refine hk10 _ ?_
  refine evL_take 5 fun K11 hk11 => ?_
  refine sh0 ?_
  refine sd ?_
  refine hk11 _ ?_
  refine sh0 ?_
  refine hk8 _ ?_
  refine hn7 (some ([3, 5, 6, 74, 75, 76, 77, 78, 79, 80, 81, 82, 102, 103, 104, 105, 106, 107, 110, 111, 112, 113, 114, 115, 116, 117, 118, 119, 120, 121], none)) _ ?_
  refine ev_seq_k fun K12 hn12 hr12 he12 => ?_
  refine ev_seq_k fun K13 hn13 hr13 he13 => ?_
  refine ev_ops_k fun K14 hk14 => ?_
  refine sh0 ?_
  refine hk14 _ ?_
  refine hn13 (some ([3, 5, 35, 74, 75, 76, 77, 78, 79, 80, 81, 82, 102, 103, 104, 105, 106, 107, 110, 111, 112, 113, 114, 115, 116, 117, 118, 119, 120, 121], none)) _ ?_
  refine ev_cond_k rfl (fun hx => absurd hx (by simp at hx)) (fun hc1 => ?_)
  clear hc1
  refine hn12 (some ([3, 5, 74, 75, 76, 77, 78, 79, 80, 81, 82, 102, 103, 104, 105, 106, 107, 110, 111, 112, 113, 114, 115, 116, 117, 118, 119, 120, 121], none)) _ ?_
  refine ev_seq_k fun K15 hn15 hr15 he15 => ?_
  refine ev_ops_k fun K16 hk16 => ?_
  refine evL_take 1 fun K17 hk17 => ?_
  refine sh0 ?_
  refine sd ?_
  refine hk17 _ ?_
  refine evL_take 1 fun K18 hk18 => ?_
  refine sh0 ?_
  refine sd ?_
  refine hk18 _ ?_
  refine evL_take 1 fun K19 hk19 => ?_
  refine sh0 ?_
  refine Or.inl (Or.inl ⟨_, c2, ?_⟩)
  refine hk19 _ ?_
  refine evL_take 8 fun K20 hk20 => ?_
  refine sh0 ?_
  refine sd ?_
  refine hk20 _ ?_
  refine evL_take 1 fun K21 hk21 => ?_
  refine sh0 ?_
  refine sd ?_
  refine hk21 _ ?_
  refine sh0 ?_
  refine hk16 _ ?_
  refine hn15 (some ([3, 5, 7, 74, 75, 76, 77, 78, 79, 80, 81, 82, 102, 103, 104, 105, 106, 107, 110, 111, 112, 113, 114, 115, 116, 117, 118, 119, 120, 121], none)) _ ?_
  refine ev_seq_k fun K22 hn22 hr22 he22 => ?_
  refine ev_ops_k fun K23 hk23 => ?_
  refine evL_take 1 fun K24 hk24 => ?_
  refine sh0 ?_
  refine sd ?_
  refine hk24 _ ?_
  refine evL_take 1 fun K25 hk25 => ?_
  refine sh0 ?_
  refine Or.inl (Or.inl ⟨_, ok_mSize M, ?_⟩)
  refine hk25 _ ?_
  refine sh0 ?_
  refine hk23 _ ?_
  refine hn22 (some ([3, 5, 7, 11, 12, 74, 75, 76, 77, 78, 79, 80, 81, 82, 102, 103, 104, 105, 106, 107, 110, 111, 112, 113, 114, 115, 116, 117, 118, 119, 120, 121], none)) _ ?_
  refine ev_seq_k fun K26 hn26 hr26 he26 => ?_
  refine ev_seq_k fun K27 hn27 hr27 he27 => ?_
  refine ev_ops_k fun K28 hk28 => ?_
  refine sh0 ?_
  refine hk28 _ ?_
  refine hn27 (some ([3, 5, 7, 11, 12, 13, 74, 75, 76, 77, 78, 79, 80, 81, 82, 102, 103, 104, 105, 106, 107, 110, 111, 112, 113, 114, 115, 116, 117, 118, 119, 120, 121], none)) _ ?_
  refine ev_block_k fun K29 hn29 hx29 hr29 he29 => ?_
  refine ev_loop_k (CInv0 d M N) (M.places.length) (some ([3, 5, 7, 11, 12, 13], some ([1, 2, 3], 3))) ([]) ?_ ?_
  · try refine lp0 ?_
    exact ⟨0, by omega, by omega, rfl⟩
  · intro k S1 hI
    obtain ⟨p, hp, rfl, rfl⟩ := hI
    have hcase : p = M.places.length ∨ p < M.places.length ∧ histM N p = histM M p ∨ p < M.places.length ∧ (p : Int) = d.act.place ∧ ∃ m, histM N p = histM M p ++ [m] := by
      rcases Nat.lt_or_ge p M.places.length with h | h
      · rcases hC.hist p with h1 | ⟨h1, h2⟩
        · exact .inr (.inl ⟨h, h1⟩)
        · exact .inr (.inr ⟨h, h1, h2⟩)
      · exact .inl (by omega)
    intro K30 hn30 hr30 he30
    rcases hcase with hc | ⟨hp1, hh⟩ | ⟨hp1, hpa, mm, hh⟩
    · skip
      subst hc
      have d2 : ¬ (M.places.length : Int) < (M.places.length : Int) := by omega
      have F1 := @d2
      refine ev_seq_k fun K31 hn31 hr31 he31 => ?_
      refine ev_seq_k fun K32 hn32 hr32 he32 => ?_
      refine ev_ops_k fun K33 hk33 => ?_
      refine sh1 F1 ?_
      refine sd ?_
      refine hk33 _ ?_
      refine hn32 (some ([3, 5, 7, 11, 12, 13, 51, 74, 75, 76, 77, 78, 79, 80, 81, 82, 102, 103, 104, 105, 106, 107, 110, 111, 112, 113, 114, 115, 116, 117, 118, 119, 120, 121], none)) _ ?_
      refine ev_cond_k rfl (fun hx => absurd hx (by simp at hx)) (fun hc2 => ?_)
      clear hc2
      refine he31 0 _ ?_
      refine he30 0 _ ?_
      refine hx29 _ ?_
      refine hn26 (some ([], none)) _ ?_
      refine ev_seq_k fun K34 hn34 hr34 he34 => ?_
      refine ev_ops_k fun K35 hk35 => ?_
      refine sh1 F1 ?_
      refine hk35 _ ?_
      refine hn34 (some ([4], none)) _ ?_
      exact sf1 F1
    · skip
      have d2 : (p : Int) < (M.places.length : Int) := by omega
      have q2 : IntKind.i64.wrap ((p : Int) + 1) = ((p + 1 : Nat) : Int) := by rw [IntKind.wrap_i64]; omega
      have hin := (plc_in hM (a := (p : Int)) ⟨by omega, by omega⟩).1
      have c9 := ok_mHistory N p
      rw [hh] at c9
      have hl := hist_len hM p
      have c10 := ok_hLen (histM M p)
      have c18 : ∀ i : Nat, (i : Int) < (histM M p).length → Ok 23 [eHist (histM M p), sI i] (.tup [.agg (eMsg (atM (histM M p) i)), sB true]) := fun i hi => by
        have := ok_hAt (histM M p) i
        rwa [decide_eq_true ⟨by omega, hi⟩] at this
      have q3 : IntKind.i64.wrap (((histM M p).length : Int) + 1) = ((histM M p).length : Int) + 1 := by rw [IntKind.wrap_i64]; omega
      have d3 : ¬ ((histM M p).length : Int) < (histM M p).length := by omega
      have d4 : ¬ ((histM M p).length : Int) + 1 < (histM M p).length := by omega
      have F2 := And.intro @d2 (And.intro @q2 (And.intro @q3 (And.intro @d3 @d4)))
      refine ev_seq_k fun K36 hn36 hr36 he36 => ?_
      refine ev_seq_k fun K37 hn37 hr37 he37 => ?_
      refine ev_ops_k fun K38 hk38 => ?_
      refine sh1 F2 ?_
      refine sd ?_
      refine hk38 _ ?_
      refine hn37 (some ([3, 5, 7, 11, 12, 13, 51, 74, 75, 76, 77, 78, 79, 80, 81, 82, 102, 103, 104, 105, 106, 107, 110, 111, 112, 113, 114, 115, 116, 117, 118, 119, 120, 121], none)) _ ?_
      refine ev_cond_k rfl (fun hc2 => ?_) (fun hx => absurd hx (by simp at hx))
      clear hc2
      refine hn36 (some ([3, 5, 7, 11, 12, 13, 74, 75, 76, 77, 78, 79, 80, 81, 82, 102, 103, 104, 105, 106, 107, 110, 111, 112, 113, 114, 115, 116, 117, 118, 119, 120, 121], none)) _ ?_
      refine ev_seq_k fun K39 hn39 hr39 he39 => ?_
      refine ev_block_k fun K40 hn40 hx40 hr40 he40 => ?_
      refine ev_seq_k fun K41 hn41 hr41 he41 => ?_
      refine ev_ops_k fun K42 hk42 => ?_
      refine sh1 F2 ?_
      refine hk42 _ ?_
      refine hn41 (some ([3, 5, 7, 11, 12, 13, 14, 74, 75, 76, 77, 78, 79, 80, 81, 82, 102, 103, 104, 105, 106, 107, 110, 111, 112, 113, 114, 115, 116, 117, 118, 119, 120, 121], none)) _ ?_
      refine ev_seq_k fun K43 hn43 hr43 he43 => ?_
      refine ev_seq_k fun K44 hn44 hr44 he44 => ?_
      refine ev_ops_k fun K45 hk45 => ?_
      refine sh1 F2 ?_
      refine hk45 _ ?_
      refine hn44 (some ([3, 5, 7, 11, 12, 13, 14, 15, 74, 75, 76, 77, 78, 79, 80, 81, 82, 102, 103, 104, 105, 106, 107, 110, 111, 112, 113, 114, 115, 116, 117, 118, 119, 120, 121], none)) _ ?_
      refine ev_block_k fun K46 hn46 hx46 hr46 he46 => ?_
      refine ev_loop_k (CInv1 d M N p) (M.views.length) (some ([3, 5, 7, 11, 12, 13, 14, 15], some ([0, 1, 2], 3))) ([]) ?_ ?_
      · try refine lp0 ?_
        exact ⟨1, by omega, by omega, by omega, rfl⟩
      · intro k S1 hI
        obtain ⟨s, hs1, hs2, rfl, rfl⟩ := hI
        have hcas1 : s = M.views.length + 1 ∨ (s : Int) ≤ M.views.length ∧ (s : Int) = d.thread ∨ (s : Int) ≤ M.views.length ∧ (s : Int) ≠ d.thread := by omega
        intro K47 hn47 hr47 he47
        rcases hcas1 with hc | ⟨hs3, hs4⟩ | ⟨hs3, hs4⟩
        · skip
          subst hc
          have f1 : ¬ ((M.views.length + 1 : Nat) : Int) ≤ (M.views.length : Int) := by omega
          have F3 := And.intro F2 @f1
          refine ev_seq_k fun K48 hn48 hr48 he48 => ?_
          refine ev_seq_k fun K49 hn49 hr49 he49 => ?_
          refine ev_ops_k fun K50 hk50 => ?_
          refine sh1 F3 ?_
          refine sd ?_
          refine hk50 _ ?_
          refine hn49 (some ([3, 5, 7, 11, 12, 13, 14, 15, 57, 74, 75, 76, 77, 78, 79, 80, 81, 82, 102, 103, 104, 105, 106, 107, 110, 111, 112, 113, 114, 115, 116, 117, 118, 119, 120, 121], none)) _ ?_
          refine ev_cond_k rfl (fun hx => absurd hx (by simp at hx)) (fun hc3 => ?_)
          clear hc3
          refine he48 2 _ ?_
          refine he47 2 _ ?_
          refine hx46 _ ?_
          refine hn43 (some ([3, 5, 7, 11, 12, 13, 14, 102, 103, 104, 105, 106, 107, 110, 111, 112, 113, 114, 115, 116, 117, 118, 119, 120, 121], none)) _ ?_
          refine ev_seq_k fun K51 hn51 hr51 he51 => ?_
          refine ev_ops_k fun K52 hk52 => ?_
          refine evL_take 1 fun K53 hk53 => ?_
          refine sh1 F3 ?_
          refine sd ?_
          refine hk53 _ ?_
          refine evL_take 1 fun K54 hk54 => ?_
          refine sh1 F3 ?_
          refine hk54 _ ?_
          refine evL_take 1 fun K55 hk55 => ?_
          refine sh1 F3 ?_
          refine Or.inl (Or.inl ⟨_, ok_mHistory M p, ?_⟩)
          refine hk55 _ ?_
          refine evL_take 5 fun K56 hk56 => ?_
          refine sh1 F3 ?_
          refine sd ?_
          refine hk56 _ ?_
          refine sh1 F3 ?_
          refine hk52 _ ?_
          refine hn51 (some ([3, 5, 7, 11, 12, 13, 14, 18, 102, 103, 104, 105, 106, 107, 110, 111, 112, 113, 114, 115, 116, 117, 118, 119, 120, 121], none)) _ ?_
          refine ev_seq_k fun K57 hn57 hr57 he57 => ?_
          refine ev_ops_k fun K58 hk58 => ?_
          refine evL_take 1 fun K59 hk59 => ?_
          refine sh1 F3 ?_
          refine sd ?_
          refine hk59 _ ?_
          refine evL_take 1 fun K60 hk60 => ?_
          refine sh1 F3 ?_
          refine hk60 _ ?_
          refine evL_take 1 fun K61 hk61 => ?_
          refine sh1 F3 ?_
          refine Or.inl (Or.inl ⟨_, c9, ?_⟩)
          refine hk61 _ ?_
          refine evL_take 5 fun K62 hk62 => ?_
          refine sh1 F3 ?_
          refine sd ?_
          refine hk62 _ ?_
          refine sh1 F3 ?_
          refine hk58 _ ?_
          refine hn57 (some ([3, 5, 7, 11, 12, 13, 14, 18, 20, 102, 103, 104, 105, 106, 107, 110, 111, 112, 113, 114, 115, 116, 117, 118, 119, 120, 121], none)) _ ?_
          refine ev_seq_k fun K63 hn63 hr63 he63 => ?_
          refine ev_seq_k fun K64 hn64 hr64 he64 => ?_
          refine ev_drw_k [] (n := 24) fun K65 hk65 => ?_
          refine sq0 ?_
          refine evF_take 1 fun K67 hk67 => ?_
          refine sh1 F3 ?_
          refine sd ?_
          refine hk67 _ _ _ ?_
          refine evF_take 1 fun K68 hk68 => ?_
          refine sh1 F3 ?_
          refine ⟨_, c10, ?_⟩
          refine hk68 _ _ _ ?_
          refine evF_take 1 fun K69 hk69 => ?_
          refine sh1 F3 ?_
          refine sd ?_
          refine hk69 _ _ _ ?_
          refine evF_take 1 fun K70 hk70 => ?_
          refine sh1 F3 ?_
          refine ⟨_, ok_hLen _, ?_⟩
          refine hk70 _ _ _ ?_
          refine evF_take 1 fun K71 hk71 => ?_
          refine sh1 F3 ?_
          refine sd ?_
          refine hk71 _ _ _ ?_
          refine evF_take 2 fun K72 hk72 => ?_
          refine sh1 F3 ?_
          refine sd ?_
          refine hk72 _ _ _ ?_
          refine evF_take 1 fun K73 hk73 => ?_
          refine sh1 F3 ?_
          refine ⟨_, c10, ?_⟩
          refine hk73 _ _ _ ?_
          refine evF_take 1 fun K74 hk74 => ?_
          refine sh1 F3 ?_
          refine sd ?_
          refine hk74 _ _ _ ?_
          refine evF_take 1 fun K75 hk75 => ?_
          refine sh1 F3 ?_
          refine ⟨_, ok_hLen _, ?_⟩
          refine hk75 _ _ _ ?_
          refine evF_take 1 fun K76 hk76 => ?_
          refine sh1 F3 ?_
          refine sd ?_
          refine hk76 _ _ _ ?_
          refine evF_take 1 fun K77 hk77 => ?_
          refine sh1 F3 ?_
          refine sd ?_
          refine hk77 _ _ _ ?_
          refine evF_take 3 fun K78 hk78 => ?_
          refine sh1 F3 ?_
          refine sd ?_
          refine hk78 _ _ _ ?_
          refine evF_take 1 fun K79 hk79 => ?_
          refine sh1 F3 ?_
          refine ⟨_, c10, ?_⟩
          refine hk79 _ _ _ ?_
          refine evF_take 1 fun K80 hk80 => ?_
          refine sh1 F3 ?_
          refine sd ?_
          refine hk80 _ _ _ ?_
          refine evF_take 1 fun K81 hk81 => ?_
          refine sh1 F3 ?_
          refine ⟨_, ok_hLen _, ?_⟩
          refine hk81 _ _ _ ?_
          refine evF_take 1 fun K82 hk82 => ?_
          refine sh1 F3 ?_
          refine sd ?_
          refine hk82 _ _ _ ?_
          refine evF_take 4 fun K83 hk83 => ?_
          refine sh1 F3 ?_
          refine sd ?_
          refine hk83 _ _ _ ?_
          refine sh1 F3 ?_
          refine hk65 _ ?_
          refine sr0 ?_
          refine evL_take 1 fun K84 hk84 => ?_
          refine sh1 F3 ?_
          refine sd ?_
          refine hk84 _ ?_
          refine sh1 F3 ?_
          refine hn64 (some ([3, 5, 7, 11, 12, 13, 18, 20, 122], none)) _ ?_
          refine ev_cond_k rfl (fun hx => absurd hx (by simp at hx)) (fun hc5 => ?_)
          clear hc5
          refine hn63 (some ([3, 5, 7, 11, 12, 13, 18, 20], none)) _ ?_
          refine ev_seq_k fun K85 hn85 hr85 he85 => ?_
          refine ev_ops_k fun K86 hk86 => ?_
          refine sh1 F3 ?_
          refine hk86 _ ?_
          refine hn85 (some ([3, 5, 7, 11, 12, 13, 18, 20, 22], none)) _ ?_
          refine ev_block_k fun K87 hn87 hx87 hr87 he87 => ?_
          refine ev_loop_k (CInv2 d M N p (histM M p) (histM M p)) ((histM M p).length) (some ([3, 5, 7, 11, 12, 13, 18, 20, 22], some ([0, 1, 2, 3, 4], 5))) ([]) ?_ ?_
          · try refine lp0 ?_
            exact ⟨0, by omega, by omega, rfl⟩
          · intro k S1 hI
            obtain ⟨i, hi, rfl, rfl⟩ := hI
            intro K88 hn88 hr88 he88
            refine ev_seq_k fun K89 hn89 hr89 he89 => ?_
            refine ev_seq_k fun K90 hn90 hr90 he90 => ?_
            refine ev_ops_k fun K91 hk91 => ?_
            refine evL_take 2 fun K92 hk92 => ?_
            refine sh1 F3 ?_
            refine sd ?_
            refine hk92 _ ?_
            refine evL_take 1 fun K93 hk93 => ?_
            refine sh1 F3 ?_
            refine Or.inl (Or.inl ⟨_, ok_hLen _, ?_⟩)
            refine hk93 _ ?_
            refine sh1 F3 ?_
            refine sd ?_
            refine hk91 _ ?_
            refine hn90 (some ([3, 5, 7, 11, 12, 13, 18, 20, 22, 126], none)) _ ?_
            refine ev_cond_k rfl (fun hc6 => ?_) (fun hc6 => ?_)
            · try replace hc6 := hcS hc6
              have q5 : IntKind.i64.wrap ((i : Int) + 1) = ((i + 1 : Nat) : Int) := by rw [IntKind.wrap_i64]; omega
              have c17 := ok_hAt (histM M p) i
              have c18' := c18 i (by omega)
              have F4 := And.intro F3 @q5
              refine hn89 (some ([3, 5, 7, 11, 12, 13, 18, 20, 22], none)) _ ?_
              refine ev_seq_k fun K94 hn94 hr94 he94 => ?_
              refine ev_block_k fun K95 hn95 hx95 hr95 he95 => ?_
              refine ev_seq_k fun K96 hn96 hr96 he96 => ?_
              refine ev_ops_k fun K97 hk97 => ?_
              refine evL_take 1 fun K98 hk98 => ?_
              refine sh1 F4 ?_
              refine sd ?_
              refine hk98 _ ?_
              refine evL_take 1 fun K99 hk99 => ?_
              refine sh1 F4 ?_
              refine hk99 _ ?_
              refine evL_take 1 fun K100 hk100 => ?_
              refine sh1 F4 ?_
              refine Or.inl (Or.inl ⟨_, c17, ?_⟩)
              refine hk100 _ ?_
              refine evL_take 5 fun K101 hk101 => ?_
              refine sh1 F4 ?_
              refine sd ?_
              refine hk101 _ ?_
              refine sh1 F4 ?_
              refine hk97 _ ?_
              refine hn96 (some ([3, 5, 7, 11, 12, 13, 18, 20, 22, 23], none)) _ ?_
              refine ev_seq_k fun K102 hn102 hr102 he102 => ?_
              refine ev_ops_k fun K103 hk103 => ?_
              refine evL_take 1 fun K104 hk104 => ?_
              refine sh1 F4 ?_
              refine sd ?_
              refine hk104 _ ?_
              refine evL_take 1 fun K105 hk105 => ?_
              refine sh1 F4 ?_
              refine hk105 _ ?_
              refine evL_take 1 fun K106 hk106 => ?_
              refine sh1 F4 ?_
              refine Or.inl (Or.inl ⟨_, c18', ?_⟩)
              refine hk106 _ ?_
              refine evL_take 5 fun K107 hk107 => ?_
              refine sh1 F4 ?_
              refine sd ?_
              refine hk107 _ ?_
              refine sh1 F4 ?_
              refine hk103 _ ?_
              refine hn102 (some ([3, 5, 7, 11, 12, 13, 18, 20, 22, 23, 25], none)) _ ?_
              refine ev_seq_k fun K108 hn108 hr108 he108 => ?_
              refine ev_ops_k fun K109 hk109 => ?_
              refine evL_take 2 fun K110 hk110 => ?_
              refine sh1 F4 ?_
              refine sd ?_
              refine hk110 _ ?_
              refine evL_take 2 fun K111 hk111 => ?_
              refine sh1 F4 ?_
              refine sd ?_
              refine hk111 _ ?_
              refine sh1 F4 ?_
              refine Or.inl ⟨_, eqsh_word_refl (atM (histM M p) i).word, ?_⟩
              refine hk109 _ ?_
              refine hn108 (some ([3, 5, 7, 11, 12, 13, 18, 20, 22, 145], none)) _ ?_
              refine ev_cond_k rfl (fun hx => absurd hx (by simp at hx)) (fun hc7 => ?_)
              clear hc7
              refine hn95 _ ?_
              refine hn94 (some ([3, 5, 7, 11, 12, 13, 18, 20, 22], none)) _ ?_
              refine ev_ops_k fun K112 hk112 => ?_
              refine evL_take 2 fun K113 hk113 => ?_
              refine sh1 F4 ?_
              refine sd ?_
              refine hk113 _ ?_
              refine sh1 F4 ?_
              refine hk112 _ ?_
              refine hn88 ((histM M p).length - (i + 1)) (some ([3, 5, 7, 11, 12, 13, 18, 20, 22], some ([0, 1, 2, 3, 4], 5))) _ ?_ ?_
              all_goals try refine lp0 ?_
              · omega
              · exact ⟨i + 1, by omega, by omega, rfl⟩
            · try replace hc6 := hcS hc6
              refine he89 4 _ ?_
              refine he88 4 _ ?_
              refine hx87 _ ?_
              refine hn40 _ ?_
              refine hn39 (some ([3, 5, 7, 11, 12, 13], none)) _ ?_
              refine ev_ops_k fun K114 hk114 => ?_
              refine evL_take 2 fun K115 hk115 => ?_
              refine sh1 F3 ?_
              refine sd ?_
              refine hk115 _ ?_
              refine sh1 F3 ?_
              refine hk114 _ ?_
              refine hn30 (M.places.length - (p + 1)) (some ([3, 5, 7, 11, 12, 13], some ([0, 1, 2], 3))) _ ?_ ?_
              all_goals try refine lp0 ?_
              · omega
              · exact ⟨p + 1, by omega, by omega, rfl⟩
        · skip
          have q4 : IntKind.i64.wrap ((s : Int) + 1) = ((s + 1 : Nat) : Int) := by rw [IntKind.wrap_i64]; omega
          have f2 : ¬ vGet (seenM N s) p < vGet (seenM M s) p := by have := hC.seen s p; omega
          have f3 : ((s : Int) != d.thread) = false := by simp [hs4]
          have c6 := ok_mSeen N s hN.vl
          have c7 := ok_vAt (seenM N s) p hin
          have F5 := And.intro F2 (And.intro @hs3 (And.intro @q4 (And.intro @f2 @f3)))
          refine ev_seq_k fun K116 hn116 hr116 he116 => ?_
          refine ev_seq_k fun K117 hn117 hr117 he117 => ?_
          refine ev_ops_k fun K118 hk118 => ?_
          refine sh1 F5 ?_
          refine sd ?_
          refine hk118 _ ?_
          refine hn117 (some ([3, 5, 7, 11, 12, 13, 14, 15, 57, 74, 75, 76, 77, 78, 79, 80, 81, 82, 102, 103, 104, 105, 106, 107, 110, 111, 112, 113, 114, 115, 116, 117, 118, 119, 120, 121], none)) _ ?_
          refine ev_cond_k rfl (fun hc3 => ?_) (fun hx => absurd hx (by simp at hx))
          clear hc3
          refine hn116 (some ([3, 5, 7, 11, 12, 13, 14, 15, 74, 75, 76, 77, 78, 79, 80, 81, 82], none)) _ ?_
          refine ev_seq_k fun K119 hn119 hr119 he119 => ?_
          refine ev_block_k fun K120 hn120 hx120 hr120 he120 => ?_
          refine ev_seq_k fun K121 hn121 hr121 he121 => ?_
          refine ev_drw_k [] (n := 9) fun K122 hk122 => ?_
          refine sq0 ?_
          refine evF_take 1 fun K124 hk124 => ?_
          refine sh1 F5 ?_
          refine sd ?_
          refine hk124 _ _ _ ?_
          refine evF_take 1 fun K125 hk125 => ?_
          refine sh1 F5 ?_
          refine hk125 _ _ _ ?_
          refine evF_take 1 fun K126 hk126 => ?_
          refine sh1 F5 ?_
          refine ⟨_, ok_mSeen M s hM.vl, ?_⟩
          refine hk126 _ _ _ ?_
          refine evF_take 1 fun K127 hk127 => ?_
          refine sh1 F5 ?_
          refine hk127 _ _ _ ?_
          refine evF_take 1 fun K128 hk128 => ?_
          refine sh1 F5 ?_
          refine ⟨_, ok_vAt (seenM M s) p hin, ?_⟩
          refine hk128 _ _ _ ?_
          refine evF_take 1 fun K129 hk129 => ?_
          refine sh1 F5 ?_
          refine sd ?_
          refine hk129 _ _ _ ?_
          refine evF_take 1 fun K130 hk130 => ?_
          refine sh1 F5 ?_
          refine hk130 _ _ _ ?_
          refine evF_take 1 fun K131 hk131 => ?_
          refine sh1 F5 ?_
          refine ⟨_, c6, ?_⟩
          refine hk131 _ _ _ ?_
          refine sh1 F5 ?_
          refine hk122 _ ?_
          refine sr0 ?_
          refine evL_take 1 fun K132 hk132 => ?_
          refine sh1 F5 ?_
          refine Or.inl (Or.inl ⟨_, c7, ?_⟩)
          refine hk132 _ ?_
          refine sh1 F5 ?_
          refine hn121 (some ([3, 5, 7, 11, 12, 13, 14, 15, 16, 17, 74, 75, 76, 77, 78, 79, 80, 81, 82], none)) _ ?_
          refine ev_seq_k fun K133 hn133 hr133 he133 => ?_
          refine ev_ops_k fun K134 hk134 => ?_
          refine evL_take 3 fun K135 hk135 => ?_
          refine sh1 F5 ?_
          refine sd ?_
          refine hk135 _ ?_
          refine evL_take 4 fun K136 hk136 => ?_
          refine sh1 F5 ?_
          refine sd ?_
          refine hk136 _ ?_
          refine evL_take 1 fun K137 hk137 => ?_
          refine sh1 F5 ?_
          refine sd ?_
          refine hk137 _ ?_
          refine evL_take 4 fun K138 hk138 => ?_
          refine sh1 F5 ?_
          refine sd ?_
          refine hk138 _ ?_
          refine sh1 F5 ?_
          refine hk134 _ ?_
          refine hn133 (some ([3, 5, 7, 11, 12, 13, 14, 15, 83], none)) _ ?_
          refine ev_cond_k rfl (fun hx => absurd hx (by simp at hx)) (fun hc4 => ?_)
          clear hc4
          refine hn120 _ ?_
          refine hn119 (some ([3, 5, 7, 11, 12, 13, 14, 15], none)) _ ?_
          refine ev_ops_k fun K139 hk139 => ?_
          refine evL_take 2 fun K140 hk140 => ?_
          refine sh1 F5 ?_
          refine sd ?_
          refine hk140 _ ?_
          refine sh1 F5 ?_
          refine hk139 _ ?_
          refine hn47 (M.views.length + 1 - (s + 1)) (some ([3, 5, 7, 11, 12, 13, 14, 15], some ([0, 1, 2], 3))) _ ?_ ?_
          all_goals try refine lp0 ?_
          · omega
          · exact ⟨s + 1, by omega, by omega, by omega, rfl⟩
        · skip
          have q4 : IntKind.i64.wrap ((s : Int) + 1) = ((s + 1 : Nat) : Int) := by rw [IntKind.wrap_i64]; omega
          have f2 : ¬ vGet (seenM M s) p < vGet (seenM M s) p := by omega
          have f3 : ((s : Int) != d.thread) = true := by simp [hs4]
          have c6 := ok_mSeen N s hN.vl
          rw [hC.other s hs4] at c6
          have c7 := ok_vAt (seenM M s) p hin
          have F6 := And.intro F2 (And.intro @hs3 (And.intro @q4 (And.intro @f2 @f3)))
          refine ev_seq_k fun K141 hn141 hr141 he141 => ?_
          refine ev_seq_k fun K142 hn142 hr142 he142 => ?_
          refine ev_ops_k fun K143 hk143 => ?_
          refine sh1 F6 ?_
          refine sd ?_
          refine hk143 _ ?_
          refine hn142 (some ([3, 5, 7, 11, 12, 13, 14, 15, 57, 74, 75, 76, 77, 78, 79, 80, 81, 82, 102, 103, 104, 105, 106, 107, 110, 111, 112, 113, 114, 115, 116, 117, 118, 119, 120, 121], none)) _ ?_
          refine ev_cond_k rfl (fun hc3 => ?_) (fun hx => absurd hx (by simp at hx))
          clear hc3
          refine hn141 (some ([3, 5, 7, 11, 12, 13, 14, 15, 74, 75, 76, 77, 78, 79, 80, 81, 82], none)) _ ?_
          refine ev_seq_k fun K144 hn144 hr144 he144 => ?_
          refine ev_block_k fun K145 hn145 hx145 hr145 he145 => ?_
          refine ev_seq_k fun K146 hn146 hr146 he146 => ?_
          refine ev_drw_k [] (n := 9) fun K147 hk147 => ?_
          refine sq0 ?_
          refine evF_take 1 fun K149 hk149 => ?_
          refine sh1 F6 ?_
          refine sd ?_
          refine hk149 _ _ _ ?_
          refine evF_take 1 fun K150 hk150 => ?_
          refine sh1 F6 ?_
          refine hk150 _ _ _ ?_
          refine evF_take 1 fun K151 hk151 => ?_
          refine sh1 F6 ?_
          refine ⟨_, ok_mSeen M s hM.vl, ?_⟩
          refine hk151 _ _ _ ?_
          refine evF_take 1 fun K152 hk152 => ?_
          refine sh1 F6 ?_
          refine hk152 _ _ _ ?_
          refine evF_take 1 fun K153 hk153 => ?_
          refine sh1 F6 ?_
          refine ⟨_, ok_vAt (seenM M s) p hin, ?_⟩
          refine hk153 _ _ _ ?_
          refine evF_take 1 fun K154 hk154 => ?_
          refine sh1 F6 ?_
          refine sd ?_
          refine hk154 _ _ _ ?_
          refine evF_take 1 fun K155 hk155 => ?_
          refine sh1 F6 ?_
          refine hk155 _ _ _ ?_
          refine evF_take 1 fun K156 hk156 => ?_
          refine sh1 F6 ?_
          refine ⟨_, c6, ?_⟩
          refine hk156 _ _ _ ?_
          refine sh1 F6 ?_
          refine hk147 _ ?_
          refine sr0 ?_
          refine evL_take 1 fun K157 hk157 => ?_
          refine sh1 F6 ?_
          refine Or.inl (Or.inl ⟨_, c7, ?_⟩)
          refine hk157 _ ?_
          refine sh1 F6 ?_
          refine hn146 (some ([3, 5, 7, 11, 12, 13, 14, 15, 16, 17, 74, 75, 76, 77, 78, 79, 80, 81, 82], none)) _ ?_
          refine ev_seq_k fun K158 hn158 hr158 he158 => ?_
          refine ev_ops_k fun K159 hk159 => ?_
          refine evL_take 3 fun K160 hk160 => ?_
          refine sh1 F6 ?_
          refine sd ?_
          refine hk160 _ ?_
          refine evL_take 4 fun K161 hk161 => ?_
          refine sh1 F6 ?_
          refine sd ?_
          refine hk161 _ ?_
          refine evL_take 1 fun K162 hk162 => ?_
          refine sh1 F6 ?_
          refine sd ?_
          refine hk162 _ ?_
          refine evL_take 4 fun K163 hk163 => ?_
          refine sh1 F6 ?_
          refine sd ?_
          refine hk163 _ ?_
          refine sh1 F6 ?_
          refine hk159 _ ?_
          refine hn158 (some ([3, 5, 7, 11, 12, 13, 14, 15, 83], none)) _ ?_
          refine ev_cond_k rfl (fun hx => absurd hx (by simp at hx)) (fun hc4 => ?_)
          clear hc4
          refine hn145 _ ?_
          refine hn144 (some ([3, 5, 7, 11, 12, 13, 14, 15], none)) _ ?_
          refine ev_ops_k fun K164 hk164 => ?_
          refine evL_take 2 fun K165 hk165 => ?_
          refine sh1 F6 ?_
          refine sd ?_
          refine hk165 _ ?_
          refine sh1 F6 ?_
          refine hk164 _ ?_
          refine hn47 (M.views.length + 1 - (s + 1)) (some ([3, 5, 7, 11, 12, 13, 14, 15], some ([0, 1, 2], 3))) _ ?_ ?_
          all_goals try refine lp0 ?_
          · omega
          · exact ⟨s + 1, by omega, by omega, by omega, rfl⟩
    · skip
      have d2 : (p : Int) < (M.places.length : Int) := by omega
      have q2 : IntKind.i64.wrap ((p : Int) + 1) = ((p + 1 : Nat) : Int) := by rw [IntKind.wrap_i64]; omega
      have hin := (plc_in hM (a := (p : Int)) ⟨by omega, by omega⟩).1
      have c9 := ok_mHistory N p
      rw [hh] at c9
      have hl := hist_len hM p
      have c10 := ok_hLen (histM M p ++ [mm])
      rw [show (((histM M p ++ [mm]).length : Nat) : Int) = ((histM M p).length : Int) + 1 by simp] at c10
      have c18 : ∀ i : Nat, (i : Int) < (histM M p).length → Ok 23 [eHist (histM M p ++ [mm]), sI i] (.tup [.agg (eMsg (atM (histM M p) i)), sB true]) := fun i hi => by
        have := ok_hAt (histM M p ++ [mm]) i
        rw [at_app, if_neg (by omega), decide_eq_true ⟨by omega, by simp; omega⟩] at this
        exact this
      have q3 : IntKind.i64.wrap (((histM M p).length : Int) + 1) = ((histM M p).length : Int) + 1 := by rw [IntKind.wrap_i64]; omega
      have d3 : ¬ ((histM M p).length : Int) + 1 < (histM M p).length := by omega
      have d4 : ¬ ((histM M p).length : Int) + 1 < (histM M p).length + 1 := by omega
      have d5 : ((histM M p).length : Int) < (histM M p).length + 1 := by omega
      have d6 : (d.act.place != (p : Int)) = false := by simp [hpa]
      have F7 := And.intro @d2 (And.intro @q2 (And.intro @q3 (And.intro @d3 (And.intro @d4 (And.intro @d5 @d6)))))
      refine ev_seq_k fun K166 hn166 hr166 he166 => ?_
      refine ev_seq_k fun K167 hn167 hr167 he167 => ?_
      refine ev_ops_k fun K168 hk168 => ?_
      refine sh1 F7 ?_
      refine sd ?_
      refine hk168 _ ?_
      refine hn167 (some ([3, 5, 7, 11, 12, 13, 51, 74, 75, 76, 77, 78, 79, 80, 81, 82, 102, 103, 104, 105, 106, 107, 110, 111, 112, 113, 114, 115, 116, 117, 118, 119, 120, 121], none)) _ ?_
      refine ev_cond_k rfl (fun hc2 => ?_) (fun hx => absurd hx (by simp at hx))
      clear hc2
      refine hn166 (some ([3, 5, 7, 11, 12, 13, 74, 75, 76, 77, 78, 79, 80, 81, 82, 102, 103, 104, 105, 106, 107, 110, 111, 112, 113, 114, 115, 116, 117, 118, 119, 120, 121], none)) _ ?_
      refine ev_seq_k fun K169 hn169 hr169 he169 => ?_
      refine ev_block_k fun K170 hn170 hx170 hr170 he170 => ?_
      refine ev_seq_k fun K171 hn171 hr171 he171 => ?_
      refine ev_ops_k fun K172 hk172 => ?_
      refine sh1 F7 ?_
      refine hk172 _ ?_
      refine hn171 (some ([3, 5, 7, 11, 12, 13, 14, 74, 75, 76, 77, 78, 79, 80, 81, 82, 102, 103, 104, 105, 106, 107, 110, 111, 112, 113, 114, 115, 116, 117, 118, 119, 120, 121], none)) _ ?_
      refine ev_seq_k fun K173 hn173 hr173 he173 => ?_
      refine ev_seq_k fun K174 hn174 hr174 he174 => ?_
      refine ev_ops_k fun K175 hk175 => ?_
      refine sh1 F7 ?_
      refine hk175 _ ?_
      refine hn174 (some ([3, 5, 7, 11, 12, 13, 14, 15, 74, 75, 76, 77, 78, 79, 80, 81, 82, 102, 103, 104, 105, 106, 107, 110, 111, 112, 113, 114, 115, 116, 117, 118, 119, 120, 121], none)) _ ?_
      refine ev_block_k fun K176 hn176 hx176 hr176 he176 => ?_
      refine ev_loop_k (CInv1 d M N p) (M.views.length) (some ([3, 5, 7, 11, 12, 13, 14, 15], some ([0, 1, 2], 3))) ([]) ?_ ?_
      · try refine lp0 ?_
        exact ⟨1, by omega, by omega, by omega, rfl⟩
      · intro k S1 hI
        obtain ⟨s, hs1, hs2, rfl, rfl⟩ := hI
        have hcas1 : s = M.views.length + 1 ∨ (s : Int) ≤ M.views.length ∧ (s : Int) = d.thread ∨ (s : Int) ≤ M.views.length ∧ (s : Int) ≠ d.thread := by omega
        intro K177 hn177 hr177 he177
        rcases hcas1 with hc | ⟨hs3, hs4⟩ | ⟨hs3, hs4⟩
        · skip
          subst hc
          have f1 : ¬ ((M.views.length + 1 : Nat) : Int) ≤ (M.views.length : Int) := by omega
          have F8 := And.intro F7 @f1
          refine ev_seq_k fun K178 hn178 hr178 he178 => ?_
          refine ev_seq_k fun K179 hn179 hr179 he179 => ?_
          refine ev_ops_k fun K180 hk180 => ?_
          refine sh1 F8 ?_
          refine sd ?_
          refine hk180 _ ?_
          refine hn179 (some ([3, 5, 7, 11, 12, 13, 14, 15, 57, 74, 75, 76, 77, 78, 79, 80, 81, 82, 102, 103, 104, 105, 106, 107, 110, 111, 112, 113, 114, 115, 116, 117, 118, 119, 120, 121], none)) _ ?_
          refine ev_cond_k rfl (fun hx => absurd hx (by simp at hx)) (fun hc3 => ?_)
          clear hc3
          refine he178 2 _ ?_
          refine he177 2 _ ?_
          refine hx176 _ ?_
          refine hn173 (some ([3, 5, 7, 11, 12, 13, 14, 102, 103, 104, 105, 106, 107, 110, 111, 112, 113, 114, 115, 116, 117, 118, 119, 120, 121], none)) _ ?_
          refine ev_seq_k fun K181 hn181 hr181 he181 => ?_
          refine ev_ops_k fun K182 hk182 => ?_
          refine evL_take 1 fun K183 hk183 => ?_
          refine sh1 F8 ?_
          refine sd ?_
          refine hk183 _ ?_
          refine evL_take 1 fun K184 hk184 => ?_
          refine sh1 F8 ?_
          refine hk184 _ ?_
          refine evL_take 1 fun K185 hk185 => ?_
          refine sh1 F8 ?_
          refine Or.inl (Or.inl ⟨_, ok_mHistory M p, ?_⟩)
          refine hk185 _ ?_
          refine evL_take 5 fun K186 hk186 => ?_
          refine sh1 F8 ?_
          refine sd ?_
          refine hk186 _ ?_
          refine sh1 F8 ?_
          refine hk182 _ ?_
          refine hn181 (some ([3, 5, 7, 11, 12, 13, 14, 18, 102, 103, 104, 105, 106, 107, 110, 111, 112, 113, 114, 115, 116, 117, 118, 119, 120, 121], none)) _ ?_
          refine ev_seq_k fun K187 hn187 hr187 he187 => ?_
          refine ev_ops_k fun K188 hk188 => ?_
          refine evL_take 1 fun K189 hk189 => ?_
          refine sh1 F8 ?_
          refine sd ?_
          refine hk189 _ ?_
          refine evL_take 1 fun K190 hk190 => ?_
          refine sh1 F8 ?_
          refine hk190 _ ?_
          refine evL_take 1 fun K191 hk191 => ?_
          refine sh1 F8 ?_
          refine Or.inl (Or.inl ⟨_, c9, ?_⟩)
          refine hk191 _ ?_
          refine evL_take 5 fun K192 hk192 => ?_
          refine sh1 F8 ?_
          refine sd ?_
          refine hk192 _ ?_
          refine sh1 F8 ?_
          refine hk188 _ ?_
          refine hn187 (some ([3, 5, 7, 11, 12, 13, 14, 18, 20, 102, 103, 104, 105, 106, 107, 110, 111, 112, 113, 114, 115, 116, 117, 118, 119, 120, 121], none)) _ ?_
          refine ev_seq_k fun K193 hn193 hr193 he193 => ?_
          refine ev_seq_k fun K194 hn194 hr194 he194 => ?_
          refine ev_drw_k [] (n := 24) fun K195 hk195 => ?_
          refine sq0 ?_
          refine evF_take 1 fun K197 hk197 => ?_
          refine sh1 F8 ?_
          refine sd ?_
          refine hk197 _ _ _ ?_
          refine evF_take 1 fun K198 hk198 => ?_
          refine sh1 F8 ?_
          refine ⟨_, c10, ?_⟩
          refine hk198 _ _ _ ?_
          refine evF_take 1 fun K199 hk199 => ?_
          refine sh1 F8 ?_
          refine sd ?_
          refine hk199 _ _ _ ?_
          refine evF_take 1 fun K200 hk200 => ?_
          refine sh1 F8 ?_
          refine ⟨_, ok_hLen _, ?_⟩
          refine hk200 _ _ _ ?_
          refine evF_take 1 fun K201 hk201 => ?_
          refine sh1 F8 ?_
          refine sd ?_
          refine hk201 _ _ _ ?_
          refine evF_take 2 fun K202 hk202 => ?_
          refine sh1 F8 ?_
          refine sd ?_
          refine hk202 _ _ _ ?_
          refine evF_take 1 fun K203 hk203 => ?_
          refine sh1 F8 ?_
          refine ⟨_, c10, ?_⟩
          refine hk203 _ _ _ ?_
          refine evF_take 1 fun K204 hk204 => ?_
          refine sh1 F8 ?_
          refine sd ?_
          refine hk204 _ _ _ ?_
          refine evF_take 1 fun K205 hk205 => ?_
          refine sh1 F8 ?_
          refine ⟨_, ok_hLen _, ?_⟩
          refine hk205 _ _ _ ?_
          refine evF_take 1 fun K206 hk206 => ?_
          refine sh1 F8 ?_
          refine sd ?_
          refine hk206 _ _ _ ?_
          refine evF_take 1 fun K207 hk207 => ?_
          refine sh1 F8 ?_
          refine sd ?_
          refine hk207 _ _ _ ?_
          refine evF_take 3 fun K208 hk208 => ?_
          refine sh1 F8 ?_
          refine sd ?_
          refine hk208 _ _ _ ?_
          refine evF_take 1 fun K209 hk209 => ?_
          refine sh1 F8 ?_
          refine ⟨_, c10, ?_⟩
          refine hk209 _ _ _ ?_
          refine evF_take 1 fun K210 hk210 => ?_
          refine sh1 F8 ?_
          refine sd ?_
          refine hk210 _ _ _ ?_
          refine evF_take 1 fun K211 hk211 => ?_
          refine sh1 F8 ?_
          refine ⟨_, ok_hLen _, ?_⟩
          refine hk211 _ _ _ ?_
          refine evF_take 1 fun K212 hk212 => ?_
          refine sh1 F8 ?_
          refine sd ?_
          refine hk212 _ _ _ ?_
          refine evF_take 4 fun K213 hk213 => ?_
          refine sh1 F8 ?_
          refine sd ?_
          refine hk213 _ _ _ ?_
          refine sh1 F8 ?_
          refine hk195 _ ?_
          refine sr0 ?_
          refine evL_take 1 fun K214 hk214 => ?_
          refine sh1 F8 ?_
          refine sd ?_
          refine hk214 _ ?_
          refine sh1 F8 ?_
          refine hn194 (some ([3, 5, 7, 11, 12, 13, 18, 20, 122], none)) _ ?_
          refine ev_cond_k rfl (fun hx => absurd hx (by simp at hx)) (fun hc5 => ?_)
          clear hc5
          refine hn193 (some ([3, 5, 7, 11, 12, 13, 18, 20], none)) _ ?_
          refine ev_seq_k fun K215 hn215 hr215 he215 => ?_
          refine ev_ops_k fun K216 hk216 => ?_
          refine sh1 F8 ?_
          refine hk216 _ ?_
          refine hn215 (some ([3, 5, 7, 11, 12, 13, 18, 20, 22], none)) _ ?_
          refine ev_block_k fun K217 hn217 hx217 hr217 he217 => ?_
          refine ev_loop_k (CInv2 d M N p (histM M p) (histM M p ++ [mm])) ((histM M p).length) (some ([3, 5, 7, 11, 12, 13, 18, 20, 22], some ([0, 1, 2, 3, 4], 5))) ([]) ?_ ?_
          · try refine lp0 ?_
            exact ⟨0, by omega, by omega, rfl⟩
          · intro k S1 hI
            obtain ⟨i, hi, rfl, rfl⟩ := hI
            intro K218 hn218 hr218 he218
            refine ev_seq_k fun K219 hn219 hr219 he219 => ?_
            refine ev_seq_k fun K220 hn220 hr220 he220 => ?_
            refine ev_ops_k fun K221 hk221 => ?_
            refine evL_take 2 fun K222 hk222 => ?_
            refine sh1 F8 ?_
            refine sd ?_
            refine hk222 _ ?_
            refine evL_take 1 fun K223 hk223 => ?_
            refine sh1 F8 ?_
            refine Or.inl (Or.inl ⟨_, ok_hLen _, ?_⟩)
            refine hk223 _ ?_
            refine sh1 F8 ?_
            refine sd ?_
            refine hk221 _ ?_
            refine hn220 (some ([3, 5, 7, 11, 12, 13, 18, 20, 22, 126], none)) _ ?_
            refine ev_cond_k rfl (fun hc6 => ?_) (fun hc6 => ?_)
            · try replace hc6 := hcS hc6
              have q5 : IntKind.i64.wrap ((i : Int) + 1) = ((i + 1 : Nat) : Int) := by rw [IntKind.wrap_i64]; omega
              have c17 := ok_hAt (histM M p) i
              have c18' := c18 i (by omega)
              have F9 := And.intro F8 @q5
              refine hn219 (some ([3, 5, 7, 11, 12, 13, 18, 20, 22], none)) _ ?_
              refine ev_seq_k fun K224 hn224 hr224 he224 => ?_
              refine ev_block_k fun K225 hn225 hx225 hr225 he225 => ?_
              refine ev_seq_k fun K226 hn226 hr226 he226 => ?_
              refine ev_ops_k fun K227 hk227 => ?_
              refine evL_take 1 fun K228 hk228 => ?_
              refine sh1 F9 ?_
              refine sd ?_
              refine hk228 _ ?_
              refine evL_take 1 fun K229 hk229 => ?_
              refine sh1 F9 ?_
              refine hk229 _ ?_
              refine evL_take 1 fun K230 hk230 => ?_
              refine sh1 F9 ?_
              refine Or.inl (Or.inl ⟨_, c17, ?_⟩)
              refine hk230 _ ?_
              refine evL_take 5 fun K231 hk231 => ?_
              refine sh1 F9 ?_
              refine sd ?_
              refine hk231 _ ?_
              refine sh1 F9 ?_
              refine hk227 _ ?_
              refine hn226 (some ([3, 5, 7, 11, 12, 13, 18, 20, 22, 23], none)) _ ?_
              refine ev_seq_k fun K232 hn232 hr232 he232 => ?_
              refine ev_ops_k fun K233 hk233 => ?_
              refine evL_take 1 fun K234 hk234 => ?_
              refine sh1 F9 ?_
              refine sd ?_
              refine hk234 _ ?_
              refine evL_take 1 fun K235 hk235 => ?_
              refine sh1 F9 ?_
              refine hk235 _ ?_
              refine evL_take 1 fun K236 hk236 => ?_
              refine sh1 F9 ?_
              refine Or.inl (Or.inl ⟨_, c18', ?_⟩)
              refine hk236 _ ?_
              refine evL_take 5 fun K237 hk237 => ?_
              refine sh1 F9 ?_
              refine sd ?_
              refine hk237 _ ?_
              refine sh1 F9 ?_
              refine hk233 _ ?_
              refine hn232 (some ([3, 5, 7, 11, 12, 13, 18, 20, 22, 23, 25], none)) _ ?_
              refine ev_seq_k fun K238 hn238 hr238 he238 => ?_
              refine ev_ops_k fun K239 hk239 => ?_
              refine evL_take 2 fun K240 hk240 => ?_
              refine sh1 F9 ?_
              refine sd ?_
              refine hk240 _ ?_
              refine evL_take 2 fun K241 hk241 => ?_
              refine sh1 F9 ?_
              refine sd ?_
              refine hk241 _ ?_
              refine sh1 F9 ?_
              refine Or.inl ⟨_, eqsh_word_refl (atM (histM M p) i).word, ?_⟩
              refine hk239 _ ?_
              refine hn238 (some ([3, 5, 7, 11, 12, 13, 18, 20, 22, 145], none)) _ ?_
              refine ev_cond_k rfl (fun hx => absurd hx (by simp at hx)) (fun hc7 => ?_)
              clear hc7
              refine hn225 _ ?_
              refine hn224 (some ([3, 5, 7, 11, 12, 13, 18, 20, 22], none)) _ ?_
              refine ev_ops_k fun K242 hk242 => ?_
              refine evL_take 2 fun K243 hk243 => ?_
              refine sh1 F9 ?_
              refine sd ?_
              refine hk243 _ ?_
              refine sh1 F9 ?_
              refine hk242 _ ?_
              refine hn218 ((histM M p).length - (i + 1)) (some ([3, 5, 7, 11, 12, 13, 18, 20, 22], some ([0, 1, 2, 3, 4], 5))) _ ?_ ?_
              all_goals try refine lp0 ?_
              · omega
              · exact ⟨i + 1, by omega, by omega, rfl⟩
            · try replace hc6 := hcS hc6
              refine he219 4 _ ?_
              refine he218 4 _ ?_
              refine hx217 _ ?_
              refine hn170 _ ?_
              refine hn169 (some ([3, 5, 7, 11, 12, 13], none)) _ ?_
              refine ev_ops_k fun K244 hk244 => ?_
              refine evL_take 2 fun K245 hk245 => ?_
              refine sh1 F8 ?_
              refine sd ?_
              refine hk245 _ ?_
              refine sh1 F8 ?_
              refine hk244 _ ?_
              refine hn30 (M.places.length - (p + 1)) (some ([3, 5, 7, 11, 12, 13], some ([0, 1, 2], 3))) _ ?_ ?_
              all_goals try refine lp0 ?_
              · omega
              · exact ⟨p + 1, by omega, by omega, rfl⟩
        · skip
          have q4 : IntKind.i64.wrap ((s : Int) + 1) = ((s + 1 : Nat) : Int) := by rw [IntKind.wrap_i64]; omega
          have f2 : ¬ vGet (seenM N s) p < vGet (seenM M s) p := by have := hC.seen s p; omega
          have f3 : ((s : Int) != d.thread) = false := by simp [hs4]
          have c6 := ok_mSeen N s hN.vl
          have c7 := ok_vAt (seenM N s) p hin
          have F10 := And.intro F7 (And.intro @hs3 (And.intro @q4 (And.intro @f2 @f3)))
          refine ev_seq_k fun K246 hn246 hr246 he246 => ?_
          refine ev_seq_k fun K247 hn247 hr247 he247 => ?_
          refine ev_ops_k fun K248 hk248 => ?_
          refine sh1 F10 ?_
          refine sd ?_
          refine hk248 _ ?_
          refine hn247 (some ([3, 5, 7, 11, 12, 13, 14, 15, 57, 74, 75, 76, 77, 78, 79, 80, 81, 82, 102, 103, 104, 105, 106, 107, 110, 111, 112, 113, 114, 115, 116, 117, 118, 119, 120, 121], none)) _ ?_
          refine ev_cond_k rfl (fun hc3 => ?_) (fun hx => absurd hx (by simp at hx))
          clear hc3
          refine hn246 (some ([3, 5, 7, 11, 12, 13, 14, 15, 74, 75, 76, 77, 78, 79, 80, 81, 82], none)) _ ?_
          refine ev_seq_k fun K249 hn249 hr249 he249 => ?_
          refine ev_block_k fun K250 hn250 hx250 hr250 he250 => ?_
          refine ev_seq_k fun K251 hn251 hr251 he251 => ?_
          refine ev_drw_k [] (n := 9) fun K252 hk252 => ?_
          refine sq0 ?_
          refine evF_take 1 fun K254 hk254 => ?_
          refine sh1 F10 ?_
          refine sd ?_
          refine hk254 _ _ _ ?_
          refine evF_take 1 fun K255 hk255 => ?_
          refine sh1 F10 ?_
          refine hk255 _ _ _ ?_
          refine evF_take 1 fun K256 hk256 => ?_
          refine sh1 F10 ?_
          refine ⟨_, ok_mSeen M s hM.vl, ?_⟩
          refine hk256 _ _ _ ?_
          refine evF_take 1 fun K257 hk257 => ?_
          refine sh1 F10 ?_
          refine hk257 _ _ _ ?_
          refine evF_take 1 fun K258 hk258 => ?_
          refine sh1 F10 ?_
          refine ⟨_, ok_vAt (seenM M s) p hin, ?_⟩
          refine hk258 _ _ _ ?_
          refine evF_take 1 fun K259 hk259 => ?_
          refine sh1 F10 ?_
          refine sd ?_
          refine hk259 _ _ _ ?_
          refine evF_take 1 fun K260 hk260 => ?_
          refine sh1 F10 ?_
          refine hk260 _ _ _ ?_
          refine evF_take 1 fun K261 hk261 => ?_
          refine sh1 F10 ?_
          refine ⟨_, c6, ?_⟩
          refine hk261 _ _ _ ?_
          refine sh1 F10 ?_
          refine hk252 _ ?_
          refine sr0 ?_
          refine evL_take 1 fun K262 hk262 => ?_
          refine sh1 F10 ?_
          refine Or.inl (Or.inl ⟨_, c7, ?_⟩)
          refine hk262 _ ?_
          refine sh1 F10 ?_
          refine hn251 (some ([3, 5, 7, 11, 12, 13, 14, 15, 16, 17, 74, 75, 76, 77, 78, 79, 80, 81, 82], none)) _ ?_
          refine ev_seq_k fun K263 hn263 hr263 he263 => ?_
          refine ev_ops_k fun K264 hk264 => ?_
          refine evL_take 3 fun K265 hk265 => ?_
          refine sh1 F10 ?_
          refine sd ?_
          refine hk265 _ ?_
          refine evL_take 4 fun K266 hk266 => ?_
          refine sh1 F10 ?_
          refine sd ?_
          refine hk266 _ ?_
          refine evL_take 1 fun K267 hk267 => ?_
          refine sh1 F10 ?_
          refine sd ?_
          refine hk267 _ ?_
          refine evL_take 4 fun K268 hk268 => ?_
          refine sh1 F10 ?_
          refine sd ?_
          refine hk268 _ ?_
          refine sh1 F10 ?_
          refine hk264 _ ?_
          refine hn263 (some ([3, 5, 7, 11, 12, 13, 14, 15, 83], none)) _ ?_
          refine ev_cond_k rfl (fun hx => absurd hx (by simp at hx)) (fun hc4 => ?_)
          clear hc4
          refine hn250 _ ?_
          refine hn249 (some ([3, 5, 7, 11, 12, 13, 14, 15], none)) _ ?_
          refine ev_ops_k fun K269 hk269 => ?_
          refine evL_take 2 fun K270 hk270 => ?_
          refine sh1 F10 ?_
          refine sd ?_
          refine hk270 _ ?_
          refine sh1 F10 ?_
          refine hk269 _ ?_
          refine hn177 (M.views.length + 1 - (s + 1)) (some ([3, 5, 7, 11, 12, 13, 14, 15], some ([0, 1, 2], 3))) _ ?_ ?_
          all_goals try refine lp0 ?_
          · omega
          · exact ⟨s + 1, by omega, by omega, by omega, rfl⟩
        · skip
          have q4 : IntKind.i64.wrap ((s : Int) + 1) = ((s + 1 : Nat) : Int) := by rw [IntKind.wrap_i64]; omega
          have f2 : ¬ vGet (seenM M s) p < vGet (seenM M s) p := by omega
          have f3 : ((s : Int) != d.thread) = true := by simp [hs4]
          have c6 := ok_mSeen N s hN.vl
          rw [hC.other s hs4] at c6
          have c7 := ok_vAt (seenM M s) p hin
          have F11 := And.intro F7 (And.intro @hs3 (And.intro @q4 (And.intro @f2 @f3)))
          refine ev_seq_k fun K271 hn271 hr271 he271 => ?_
          refine ev_seq_k fun K272 hn272 hr272 he272 => ?_
          refine ev_ops_k fun K273 hk273 => ?_
          refine sh1 F11 ?_
          refine sd ?_
          refine hk273 _ ?_
          refine hn272 (some ([3, 5, 7, 11, 12, 13, 14, 15, 57, 74, 75, 76, 77, 78, 79, 80, 81, 82, 102, 103, 104, 105, 106, 107, 110, 111, 112, 113, 114, 115, 116, 117, 118, 119, 120, 121], none)) _ ?_
          refine ev_cond_k rfl (fun hc3 => ?_) (fun hx => absurd hx (by simp at hx))
          clear hc3
          refine hn271 (some ([3, 5, 7, 11, 12, 13, 14, 15, 74, 75, 76, 77, 78, 79, 80, 81, 82], none)) _ ?_
          refine ev_seq_k fun K274 hn274 hr274 he274 => ?_
          refine ev_block_k fun K275 hn275 hx275 hr275 he275 => ?_
          refine ev_seq_k fun K276 hn276 hr276 he276 => ?_
          refine ev_drw_k [] (n := 9) fun K277 hk277 => ?_
          refine sq0 ?_
          refine evF_take 1 fun K279 hk279 => ?_
          refine sh1 F11 ?_
          refine sd ?_
          refine hk279 _ _ _ ?_
          refine evF_take 1 fun K280 hk280 => ?_
          refine sh1 F11 ?_
          refine hk280 _ _ _ ?_
          refine evF_take 1 fun K281 hk281 => ?_
          refine sh1 F11 ?_
          refine ⟨_, ok_mSeen M s hM.vl, ?_⟩
          refine hk281 _ _ _ ?_
          refine evF_take 1 fun K282 hk282 => ?_
          refine sh1 F11 ?_
          refine hk282 _ _ _ ?_
          refine evF_take 1 fun K283 hk283 => ?_
          refine sh1 F11 ?_
          refine ⟨_, ok_vAt (seenM M s) p hin, ?_⟩
          refine hk283 _ _ _ ?_
          refine evF_take 1 fun K284 hk284 => ?_
          refine sh1 F11 ?_
          refine sd ?_
          refine hk284 _ _ _ ?_
          refine evF_take 1 fun K285 hk285 => ?_
          refine sh1 F11 ?_
          refine hk285 _ _ _ ?_
          refine evF_take 1 fun K286 hk286 => ?_
          refine sh1 F11 ?_
          refine ⟨_, c6, ?_⟩
          refine hk286 _ _ _ ?_
          refine sh1 F11 ?_
          refine hk277 _ ?_
          refine sr0 ?_
          refine evL_take 1 fun K287 hk287 => ?_
          refine sh1 F11 ?_
          refine Or.inl (Or.inl ⟨_, c7, ?_⟩)
          refine hk287 _ ?_
          refine sh1 F11 ?_
          refine hn276 (some ([3, 5, 7, 11, 12, 13, 14, 15, 16, 17, 74, 75, 76, 77, 78, 79, 80, 81, 82], none)) _ ?_
          refine ev_seq_k fun K288 hn288 hr288 he288 => ?_
          refine ev_ops_k fun K289 hk289 => ?_
          refine evL_take 3 fun K290 hk290 => ?_
          refine sh1 F11 ?_
          refine sd ?_
          refine hk290 _ ?_
          refine evL_take 4 fun K291 hk291 => ?_
          refine sh1 F11 ?_
          refine sd ?_
          refine hk291 _ ?_
          refine evL_take 1 fun K292 hk292 => ?_
          refine sh1 F11 ?_
          refine sd ?_
          refine hk292 _ ?_
          refine evL_take 4 fun K293 hk293 => ?_
          refine sh1 F11 ?_
          refine sd ?_
          refine hk293 _ ?_
          refine sh1 F11 ?_
          refine hk289 _ ?_
          refine hn288 (some ([3, 5, 7, 11, 12, 13, 14, 15, 83], none)) _ ?_
          refine ev_cond_k rfl (fun hx => absurd hx (by simp at hx)) (fun hc4 => ?_)
          clear hc4
          refine hn275 _ ?_
          refine hn274 (some ([3, 5, 7, 11, 12, 13, 14, 15], none)) _ ?_
          refine ev_ops_k fun K294 hk294 => ?_
          refine evL_take 2 fun K295 hk295 => ?_
          refine sh1 F11 ?_
          refine sd ?_
          refine hk295 _ ?_
          refine sh1 F11 ?_
          refine hk294 _ ?_
          refine hn177 (M.views.length + 1 - (s + 1)) (some ([3, 5, 7, 11, 12, 13, 14, 15], some ([0, 1, 2], 3))) _ ?_ ?_
          all_goals try refine lp0 ?_
          · omega
          · exact ⟨s + 1, by omega, by omega, by omega, rfl⟩
end Go.Proofs.Ytfcjkchpldfamaa

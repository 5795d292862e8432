/-
  Layer 8 by shadows: a thread alone.
-/
import Derived.Test.YtcbdgnjdpfgobaaK8c
import Derived.Test.YtcbdgnjdpfgobaaMC
namespace Go.Proofs.Ytcbdgnjdpfgobaa
set_option linter.unusedSimpArgs false
set_option linter.unusedVariables false
open Go.RowKit Go.Maps

theorem step_len {C : Coder} (w : WorldM C) (t : Int) : (stepM w ⟨0, t, 0⟩).1.tasks.length = w.tasks.length := by
  unfold stepM
  split
  · rfl
  · rw [if_neg (by simp)]
    split
    · rfl
    · rw [if_pos rfl]
      unfold goM
      split
      · simp [setTask]
      · rfl
theorem goes_len {C : Coder} (t : Int) : ∀ (k : Nat) (w : WorldM C), (goesM w t k).tasks.length = w.tasks.length
  | 0, _ => rfl
  | k + 1, w => by
    unfold goesM
    split
    · rw [goes_len t k, step_len]
    · rfl
theorem goes_stuck {C : Coder} {w : WorldM C} {t : Int} (h : (stepM w ⟨0, t, 0⟩).2 = false) : ∀ k, goesM w t k = w
  | 0 => rfl
  | k + 1 => by unfold goesM; rw [if_neg (by rw [h]; simp)]
theorem goes_add {C : Coder} (t : Int) : ∀ (i k : Nat) (w : WorldM C), goesM w t (i + k) = goesM (goesM w t i) t k
  | 0, k, w => by rw [Nat.zero_add]; rfl
  | i + 1, k, w => by
    rw [show i + 1 + k = (i + k) + 1 by omega]
    by_cases h : (stepM w ⟨0, t, 0⟩).2 = true
    · rw [goesM, if_pos h, goesM, if_pos h]
      exact goes_add t i k _
    · rw [goesM, if_neg h, goesM, if_neg h]
      exact (goes_stuck (by simpa using h) k).symm
def AnInv {C : Coder} (w : WorldM C) (t : Int) (N : Nat) (k : Nat) (S : St) : Prop :=
  ∃ i : Nat, i ≤ N ∧ k = N - i ∧ S = ⟨[(1, sI t), (3, .ptr 0 0 0), (6, .ptr 1 0 0), (27, sI N), (28, sI i)], [(0, boxW (goesM w t i)), (1, .box 48 zCells)], 2⟩
set_option maxHeartbeats 4000000 in
theorem ok_kAlone {C : Coder} (w : WorldM C) (t most : Int) {n : Nat} (h : WorldOk w n) (hn : n + most.toNat ≤ 900) : Ok 33 [eWorld w, sI t, sI most] (.tup [eWorld (aloneM w t most).1, sB (aloneM w t most).2]) := by
  refine ok_of_tr Try.func33 tr_kAlone rfl ?_
  have hK := shK C
  have h8 := worldOk_eight h
  unfold aloneM
  by_cases h1 : t < 1
  · rw [if_pos (.inl h1)]
    unfold evFn sc_kAlone rv_kAlone
    have F1 := @h1
    refine ev_seq_k fun K1 hn1 hr1 he1 => ?_
    refine ev_ops_k fun K2 hk2 => ?_
    refine sh1 F1 ?_
    refine hk2 _ ?_
    refine hn1 (some ([1, 2, 3, 6], none)) _ ?_
    refine ev_seq_k fun K3 hn3 hr3 he3 => ?_
    refine ev_seq_k fun K4 hn4 hr4 he4 => ?_
    refine ev_ops_k fun K5 hk5 => ?_
    refine evL_take 2 fun K6 hk6 => ?_
    refine sh1 F1 ?_
    refine sd ?_
    refine hk6 _ ?_
    refine evL_take 4 fun K7 hk7 => ?_
    refine sh1 F1 ?_
    refine sd ?_
    refine hk7 _ ?_
    refine evL_take 2 fun K8 hk8 => ?_
    refine sh1 F1 ?_
    refine sd ?_
    refine hk8 _ ?_
    refine evL_take 3 fun K9 hk9 => ?_
    refine sh1 F1 ?_
    refine sd ?_
    refine hk9 _ ?_
    refine evL_take 2 fun K10 hk10 => ?_
    refine sh1 F1 ?_
    refine sd ?_
    refine hk10 _ ?_
    refine evL_take 1 fun K11 hk11 => ?_
    refine sh1 F1 ?_
    skip
    refine hk11 _ ?_
    refine sh1 F1 ?_
    refine hk5 _ ?_
    refine hn4 (some ([1, 2, 3, 6, 24], none)) _ ?_
    refine ev_cond_k rfl (fun hc0 => ?_) (fun hx => absurd hx (by simp at hx))
    clear hc0
    refine ev_seq_k fun K12 hn12 hr12 he12 => ?_
    refine ev_ops_k fun K13 hk13 => ?_
    refine evL_take 1 fun K14 hk14 => ?_
    refine sh1 F1 ?_
    refine sd ?_
    refine hk14 _ ?_
    refine evL_take 1 fun K15 hk15 => ?_
    refine sh1 F1 ?_
    refine sd ?_
    refine hk15 _ ?_
    refine sh1 F1 ?_
    refine hk13 _ ?_
    refine hn12 (some ([6, 7], none)) _ ?_
    refine hr3 _ ?_
    exact sf1 F1
  by_cases h2 : (w.tasks.length : Int) < t
  · rw [if_pos (.inr (.inl h2))]
    unfold evFn sc_kAlone rv_kAlone
    have F1 := And.intro @h1 @h2
    refine ev_seq_k fun K1 hn1 hr1 he1 => ?_
    refine ev_ops_k fun K2 hk2 => ?_
    refine sh1 F1 ?_
    refine hk2 _ ?_
    refine hn1 (some ([1, 2, 3, 6], none)) _ ?_
    refine ev_seq_k fun K3 hn3 hr3 he3 => ?_
    refine ev_seq_k fun K4 hn4 hr4 he4 => ?_
    refine ev_ops_k fun K5 hk5 => ?_
    refine evL_take 2 fun K6 hk6 => ?_
    refine sh1 F1 ?_
    refine sd ?_
    refine hk6 _ ?_
    refine evL_take 4 fun K7 hk7 => ?_
    refine sh1 F1 ?_
    refine sd ?_
    refine hk7 _ ?_
    refine evL_take 2 fun K8 hk8 => ?_
    refine sh1 F1 ?_
    refine sd ?_
    refine hk8 _ ?_
    refine evL_take 3 fun K9 hk9 => ?_
    refine sh1 F1 ?_
    refine sd ?_
    refine hk9 _ ?_
    refine evL_take 2 fun K10 hk10 => ?_
    refine sh1 F1 ?_
    refine sd ?_
    refine hk10 _ ?_
    refine evL_take 1 fun K11 hk11 => ?_
    refine sh1 F1 ?_
    skip
    refine hk11 _ ?_
    refine sh1 F1 ?_
    refine hk5 _ ?_
    refine hn4 (some ([1, 2, 3, 6, 24], none)) _ ?_
    refine ev_cond_k rfl (fun hc0 => ?_) (fun hx => absurd hx (by simp at hx))
    clear hc0
    refine ev_seq_k fun K12 hn12 hr12 he12 => ?_
    refine ev_ops_k fun K13 hk13 => ?_
    refine evL_take 1 fun K14 hk14 => ?_
    refine sh1 F1 ?_
    refine sd ?_
    refine hk14 _ ?_
    refine evL_take 1 fun K15 hk15 => ?_
    refine sh1 F1 ?_
    refine sd ?_
    refine hk15 _ ?_
    refine sh1 F1 ?_
    refine hk13 _ ?_
    refine hn12 (some ([6, 7], none)) _ ?_
    refine hr3 _ ?_
    exact sf1 F1
  obtain ⟨m, hm⟩ := Int.eq_ofNat_of_zero_le (show 0 ≤ t - 1 by omega)
  have q1 : IntKind.i64.wrap (t - 1) = (m : Int) := by rw [IntKind.wrap_i64]; omega
  have k0 := ok_kStopped w m (by omega)
  rw [hm, Int.toNat_natCast]
  cases hb : stoppedM w m
  case true =>
    rw [hb] at k0
    rw [if_pos (.inr (.inr rfl))]
    unfold evFn sc_kAlone rv_kAlone
    have F1 := And.intro @h1 (And.intro @h2 @q1)
    refine ev_seq_k fun K1 hn1 hr1 he1 => ?_
    refine ev_ops_k fun K2 hk2 => ?_
    refine sh1 F1 ?_
    refine hk2 _ ?_
    refine hn1 (some ([1, 2, 3, 6], none)) _ ?_
    refine ev_seq_k fun K3 hn3 hr3 he3 => ?_
    refine ev_seq_k fun K4 hn4 hr4 he4 => ?_
    refine ev_ops_k fun K5 hk5 => ?_
    refine evL_take 2 fun K6 hk6 => ?_
    refine sh1 F1 ?_
    refine sd ?_
    refine hk6 _ ?_
    refine evL_take 4 fun K7 hk7 => ?_
    refine sh1 F1 ?_
    refine sd ?_
    refine hk7 _ ?_
    refine evL_take 2 fun K8 hk8 => ?_
    refine sh1 F1 ?_
    refine sd ?_
    refine hk8 _ ?_
    refine evL_take 3 fun K9 hk9 => ?_
    refine sh1 F1 ?_
    refine sd ?_
    refine hk9 _ ?_
    refine evL_take 2 fun K10 hk10 => ?_
    refine sh1 F1 ?_
    refine sd ?_
    refine hk10 _ ?_
    refine evL_take 1 fun K11 hk11 => ?_
    refine sh1 F1 ?_
    refine Or.inl (Or.inl ⟨_, k0, ?_⟩)
    refine hk11 _ ?_
    refine sh1 F1 ?_
    refine hk5 _ ?_
    refine hn4 (some ([1, 2, 3, 6, 24], none)) _ ?_
    refine ev_cond_k rfl (fun hc0 => ?_) (fun hx => absurd hx (by simp at hx))
    clear hc0
    refine ev_seq_k fun K12 hn12 hr12 he12 => ?_
    refine ev_ops_k fun K13 hk13 => ?_
    refine evL_take 1 fun K14 hk14 => ?_
    refine sh1 F1 ?_
    refine sd ?_
    refine hk14 _ ?_
    refine evL_take 1 fun K15 hk15 => ?_
    refine sh1 F1 ?_
    refine sd ?_
    refine hk15 _ ?_
    refine sh1 F1 ?_
    refine hk13 _ ?_
    refine hn12 (some ([6, 7], none)) _ ?_
    refine hr3 _ ?_
    exact sf1 F1
  rw [hb] at k0
  rw [if_neg (by rintro (a | a | a) <;> first | omega | cases a)]
  obtain ⟨N, hN⟩ : ∃ N, N = most.toNat := ⟨_, rfl⟩
  have q2 : max most 0 = (N : Int) := by omega
  rw [← hN] at hn ⊢
  have HN := Lib.hid hN
  clear hN
  unfold evFn sc_kAlone rv_kAlone
  have F1 := And.intro @h1 (And.intro @h2 (And.intro @q1 @q2))
  refine ev_seq_k fun K1 hn1 hr1 he1 => ?_
  refine ev_ops_k fun K2 hk2 => ?_
  refine sh1 F1 ?_
  refine hk2 _ ?_
  refine hn1 (some ([1, 2, 3, 6], none)) _ ?_
  refine ev_seq_k fun K3 hn3 hr3 he3 => ?_
  refine ev_seq_k fun K4 hn4 hr4 he4 => ?_
  refine ev_ops_k fun K5 hk5 => ?_
  refine evL_take 2 fun K6 hk6 => ?_
  refine sh1 F1 ?_
  refine sd ?_
  refine hk6 _ ?_
  refine evL_take 4 fun K7 hk7 => ?_
  refine sh1 F1 ?_
  refine sd ?_
  refine hk7 _ ?_
  refine evL_take 2 fun K8 hk8 => ?_
  refine sh1 F1 ?_
  refine sd ?_
  refine hk8 _ ?_
  refine evL_take 3 fun K9 hk9 => ?_
  refine sh1 F1 ?_
  refine sd ?_
  refine hk9 _ ?_
  refine evL_take 2 fun K10 hk10 => ?_
  refine sh1 F1 ?_
  refine sd ?_
  refine hk10 _ ?_
  refine evL_take 1 fun K11 hk11 => ?_
  refine sh1 F1 ?_
  refine Or.inl (Or.inl ⟨_, k0, ?_⟩)
  refine hk11 _ ?_
  refine sh1 F1 ?_
  refine hk5 _ ?_
  refine hn4 (some ([1, 2, 3, 6, 24], none)) _ ?_
  refine ev_cond_k rfl (fun hx => absurd hx (by simp at hx)) (fun hc0 => ?_)
  clear hc0
  refine hn3 (some ([1, 2, 3, 6], none)) _ ?_
  refine ev_seq_k fun K12 hn12 hr12 he12 => ?_
  refine ev_seq_k fun K13 hn13 hr13 he13 => ?_
  refine ev_ops_k fun K14 hk14 => ?_
  refine sh1 F1 ?_
  refine hk14 _ ?_
  refine hn13 (some ([1, 3, 6, 27, 28], none)) _ ?_
  refine ev_block_k fun K15 hn15 hx15 hr15 he15 => ?_
  refine ev_loop_k (AnInv w t N) (N) (some ([1, 3, 6, 27, 28], some ([0, 1], 2))) ([]) ?_ ?_
  · try refine lp0 ?_
    exact ⟨0, by omega, by omega, by rfl⟩
  · intro k S1 hI
    obtain ⟨i, hi, rfl, rfl⟩ := hI
    have hcase : i = N ∨ (i < N ∧ (stepM (goesM w t i) ⟨0, t, 0⟩).2 = false) ∨ (i < N ∧ (stepM (goesM w t i) ⟨0, t, 0⟩).2 = true) := by
      rcases Nat.lt_or_ge i N with h | h
      · cases hs : (stepM (goesM w t i) ⟨0, t, 0⟩).2
        · exact .inr (.inl ⟨h, rfl⟩)
        · exact .inr (.inr ⟨h, rfl⟩)
      · exact .inl (by omega)
    have hW := goesOk t i h
    have hlen := goes_len t i w
    obtain ⟨y, hy⟩ : ∃ y, (goesM w t i).tasks[m]? = some y := ⟨_, List.getElem?_eq_getElem (by omega)⟩
    have e1 : liveAt (goesM w t i) m = y.live := by unfold liveAt; rw [hy]; rfl
    have k2 := ok_kDone y
    have q3 : m < (goesM w t i).tasks.length := by omega
    have k1 := ok_kStep (goesM w t i) ⟨0, t, 0⟩ hW (by omega)
    intro K16 hn16 hr16 he16
    rcases hcase with hcc | ⟨hcc, hs⟩ | ⟨hcc, hs⟩
    · skip
      have w2 : ¬ (i : Int) < (N : Int) := by omega
      subst hcc
      have F2 := And.intro F1 (And.intro @w2 (And.intro @hy (And.intro @hK (And.intro @q3 @e1))))
      refine ev_seq_k fun K17 hn17 hr17 he17 => ?_
      refine ev_ops_k fun K18 hk18 => ?_
      refine sh1 F2 ?_
      refine sd ?_
      refine hk18 _ ?_
      refine hn17 (some ([1, 3, 6, 27, 28, 29], none)) _ ?_
      refine ev_seq_k fun K19 hn19 hr19 he19 => ?_
      refine ev_cond_k rfl (fun hx => absurd hx (by simp at hx)) (fun hc1 => ?_)
      clear hc1
      refine he19 0 _ ?_
      refine he16 0 _ ?_
      refine hx15 _ ?_
      refine hn12 (some ([1, 3, 6], none)) _ ?_
      refine ev_seq_k fun K20 hn20 hr20 he20 => ?_
      refine ev_drw_k [] (n := 8) fun K21 hk21 => ?_
      refine sq0 ?_
      refine evF_take 1 fun K23 hk23 => ?_
      refine sh1 F2 ?_
      refine sd ?_
      refine hk23 _ _ _ ?_
      refine evF_take 2 fun K24 hk24 => ?_
      refine sh1 F2 ?_
      refine sd ?_
      refine hk24 _ _ _ ?_
      refine evF_take 2 fun K25 hk25 => ?_
      refine sh1 F2 ?_
      refine sd ?_
      refine hk25 _ _ _ ?_
      refine evF_take 1 fun K26 hk26 => ?_
      refine sh1 F2 ?_
      refine sd ?_
      refine hk26 _ _ _ ?_
      refine evF_take 1 fun K27 hk27 => ?_
      refine sh1 F2 ?_
      refine sd ?_
      refine hk27 _ _ _ ?_
      refine sh1 F2 ?_
      refine ⟨_, k2, ?_⟩
      refine hk21 _ ?_
      refine sr0 ?_
      refine evL_take 1 fun K28 hk28 => ?_
      refine sh1 F2 ?_
      refine sd ?_
      refine hk28 _ ?_
      refine sh1 F2 ?_
      refine hn20 (some ([6, 7], none)) _ ?_
      exact sf1 F2
    · skip
      have w2 : (i : Int) < (N : Int) := by omega
      have hst : goesM w t N = goesM w t i := by
        rw [show N = i + (N - i) by omega, goes_add, goes_stuck hs]
      rw [hs] at k1
      generalize (stepM (goesM w t i) ⟨0, t, 0⟩).1 = Q at k1
      have F3 := And.intro F1 (And.intro @w2 (And.intro @hy (And.intro @hK (And.intro @q3 (And.intro @e1 @hst)))))
      refine ev_seq_k fun K29 hn29 hr29 he29 => ?_
      refine ev_ops_k fun K30 hk30 => ?_
      refine sh1 F3 ?_
      refine sd ?_
      refine hk30 _ ?_
      refine hn29 (some ([1, 3, 6, 27, 28, 29], none)) _ ?_
      refine ev_seq_k fun K31 hn31 hr31 he31 => ?_
      refine ev_cond_k rfl (fun hc1 => ?_) (fun hx => absurd hx (by simp at hx))
      clear hc1
      refine hn31 (some ([1, 3, 6, 27, 28], none)) _ ?_
      refine ev_seq_k fun K32 hn32 hr32 he32 => ?_
      refine ev_block_k fun K33 hn33 hx33 hr33 he33 => ?_
      refine ev_seq_k fun K34 hn34 hr34 he34 => ?_
      refine ev_ops_k fun K35 hk35 => ?_
      refine evL_take 1 fun K36 hk36 => ?_
      refine sh1 F3 ?_
      refine sd ?_
      refine hk36 _ ?_
      refine evL_take 2 fun K37 hk37 => ?_
      refine sh1 F3 ?_
      refine hk37 _ ?_
      refine evL_take 1 fun K38 hk38 => ?_
      refine sh1 F3 ?_
      refine Or.inl (Or.inl ⟨_, k1, ?_⟩)
      refine hk38 _ ?_
      refine evL_take 5 fun K39 hk39 => ?_
      refine sh1 F3 ?_
      refine sd ?_
      refine hk39 _ ?_
      refine sh1 F3 ?_
      refine hk35 _ ?_
      refine hn34 (some ([1, 3, 6, 8, 9, 27, 28], none)) _ ?_
      refine ev_seq_k fun K40 hn40 hr40 he40 => ?_
      refine ev_seq_k fun K41 hn41 hr41 he41 => ?_
      refine ev_ops_k fun K42 hk42 => ?_
      refine sh1 F3 ?_
      refine hk42 _ ?_
      refine hn41 (some ([1, 3, 6, 8, 27, 28, 38], none)) _ ?_
      refine ev_cond_k rfl (fun hc2 => ?_) (fun hx => absurd hx (by simp at hx))
      clear hc2
      refine he40 0 _ ?_
      refine he33 0 _ (by decide) ?_
      refine he32 0 _ ?_
      refine he16 0 _ ?_
      refine hx15 _ ?_
      refine hn12 (some ([1, 3, 6], none)) _ ?_
      refine ev_seq_k fun K43 hn43 hr43 he43 => ?_
      refine ev_drw_k [] (n := 8) fun K44 hk44 => ?_
      refine sq0 ?_
      refine evF_take 1 fun K46 hk46 => ?_
      refine sh1 F3 ?_
      refine sd ?_
      refine hk46 _ _ _ ?_
      refine evF_take 2 fun K47 hk47 => ?_
      refine sh1 F3 ?_
      refine sd ?_
      refine hk47 _ _ _ ?_
      refine evF_take 2 fun K48 hk48 => ?_
      refine sh1 F3 ?_
      refine sd ?_
      refine hk48 _ _ _ ?_
      refine evF_take 1 fun K49 hk49 => ?_
      refine sh1 F3 ?_
      refine sd ?_
      refine hk49 _ _ _ ?_
      refine evF_take 1 fun K50 hk50 => ?_
      refine sh1 F3 ?_
      refine sd ?_
      refine hk50 _ _ _ ?_
      refine sh1 F3 ?_
      refine ⟨_, k2, ?_⟩
      refine hk44 _ ?_
      refine sr0 ?_
      refine evL_take 1 fun K51 hk51 => ?_
      refine sh1 F3 ?_
      refine sd ?_
      refine hk51 _ ?_
      refine sh1 F3 ?_
      refine hn43 (some ([6, 7], none)) _ ?_
      exact sf1 F3
    · skip
      have w2 : (i : Int) < (N : Int) := by omega
      have w3 : IntKind.i64.wrap ((i : Int) + 1) = ((i + 1 : Nat) : Int) := by rw [IntKind.wrap_i64]; omega
      have hst : goesM w t (i + 1) = (stepM (goesM w t i) ⟨0, t, 0⟩).1 := by rw [goes_succ, if_pos hs]
      rw [hs, ← hst] at k1
      obtain ⟨Q, hQ⟩ : ∃ Q, Q = goesM w t (i + 1) := ⟨_, rfl⟩
      rw [← hQ] at k1
      have F4 := And.intro F1 (And.intro @w2 @w3)
      refine ev_seq_k fun K52 hn52 hr52 he52 => ?_
      refine ev_ops_k fun K53 hk53 => ?_
      refine sh1 F4 ?_
      refine sd ?_
      refine hk53 _ ?_
      refine hn52 (some ([1, 3, 6, 27, 28, 29], none)) _ ?_
      refine ev_seq_k fun K54 hn54 hr54 he54 => ?_
      refine ev_cond_k rfl (fun hc1 => ?_) (fun hx => absurd hx (by simp at hx))
      clear hc1
      refine hn54 (some ([1, 3, 6, 27, 28], none)) _ ?_
      refine ev_seq_k fun K55 hn55 hr55 he55 => ?_
      refine ev_block_k fun K56 hn56 hx56 hr56 he56 => ?_
      refine ev_seq_k fun K57 hn57 hr57 he57 => ?_
      refine ev_ops_k fun K58 hk58 => ?_
      refine evL_take 1 fun K59 hk59 => ?_
      refine sh1 F4 ?_
      refine sd ?_
      refine hk59 _ ?_
      refine evL_take 2 fun K60 hk60 => ?_
      refine sh1 F4 ?_
      refine hk60 _ ?_
      refine evL_take 1 fun K61 hk61 => ?_
      refine sh1 F4 ?_
      refine Or.inl (Or.inl ⟨_, k1, ?_⟩)
      refine hk61 _ ?_
      refine evL_take 5 fun K62 hk62 => ?_
      refine sh1 F4 ?_
      refine sd ?_
      refine hk62 _ ?_
      refine sh1 F4 ?_
      refine hk58 _ ?_
      refine hn57 (some ([1, 3, 6, 8, 9, 27, 28], none)) _ ?_
      refine ev_seq_k fun K63 hn63 hr63 he63 => ?_
      refine ev_seq_k fun K64 hn64 hr64 he64 => ?_
      refine ev_ops_k fun K65 hk65 => ?_
      refine sh1 F4 ?_
      refine hk65 _ ?_
      refine hn64 (some ([1, 3, 6, 8, 27, 28, 38], none)) _ ?_
      refine ev_cond_k rfl (fun hx => absurd hx (by simp at hx)) (fun hc2 => ?_)
      clear hc2
      refine hn63 (some ([1, 3, 6, 8, 27, 28], none)) _ ?_
      refine ev_ops_k fun K66 hk66 => ?_
      refine evL_take 1 fun K67 hk67 => ?_
      refine sh1 F4 ?_
      refine sd ?_
      refine hk67 _ ?_
      refine sh1 F4 ?_
      refine sd ?_
      refine hk66 _ ?_
      refine hn56 _ ?_
      refine hn55 (some ([1, 3, 6, 27, 28], none)) _ ?_
      refine ev_ops_k fun K68 hk68 => ?_
      refine evL_take 1 fun K69 hk69 => ?_
      refine sh1 F4 ?_
      refine sd ?_
      refine hk69 _ ?_
      refine sh1 F4 ?_
      refine hk68 _ ?_
      refine hn16 (N - (i + 1)) (some ([1, 3, 6, 27, 28], some ([0, 1], 2))) _ ?_ ?_
      all_goals try refine lp0 ?_
      · omega
      · exact ⟨i + 1, by omega, by omega, by rw [hQ]⟩
end Go.Proofs.Ytcbdgnjdpfgobaa

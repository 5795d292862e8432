/-
  TaskAlone, by shadows.
-/
import Derived.Test.YtcbdgnjdpfgobaaK8j
import Derived.Test.YtcbdgnjdpfgobaaScTaskAlone
import Derived.Test.YtcbdgnjdpfgobaaMC
namespace Go.Proofs.Ytcbdgnjdpfgobaa
set_option linter.unusedSimpArgs false
set_option linter.unusedVariables false
open Go.RowKit Go.Maps

theorem step_no {C : Coder} {w : WorldM C} {p : PickV} (h : (stepM w p).2 = false) : (stepM w p).1 = w := by
  unfold stepM at h ⊢
  split
  · rfl
  · rename_i h0
    rw [if_neg h0] at h
    split
    · rename_i h1; rw [if_pos h1] at h; cases h
    · rename_i h1
      rw [if_neg h1] at h
      split
      · rfl
      · rename_i h2
        rw [if_neg h2] at h
        split
        · rename_i h3; rw [if_pos h3] at h; cases h
        · rename_i h3
          rw [if_neg h3] at h
          split
          · rename_i h4; rw [if_pos h4] at h; cases h
          · rfl
theorem goes_next {C : Coder} (w : WorldM C) (t : Int) (n : Nat) : goesM w t (n + 1) = (stepM (goesM w t n) ⟨0, t, 0⟩).1 := by
  rw [goes_succ]
  split
  · rfl
  · rename_i h; rw [step_no (by simpa using h)]
theorem goes_done {C : Coder} {w : WorldM C} {t : Int} {m : Nat} (ht : t - 1 = m) (h : liveAt w m = false) (k : Nat) : goesM w t k = w := by
  refine goes_stuck ?_ k
  unfold stepM
  split
  · rfl
  · rw [if_neg (by simp), if_pos (show takesM w t = false by unfold takesM; rw [ht, Int.toNat_natCast, h, Bool.and_false, Bool.and_false])]
def AlnInv (A B : WorldM scr) (t most : Int) (b : Bool) (k : Nat) (S : St) : Prop :=
  ∃ i : Nat, i ≤ most.toNat ∧ k = most.toNat - i ∧ S = ⟨[(10, sI t), (11, sI most), (12, .ptr 0 0 0), (13, sB b), (14, .ptr 1 0 0), (15, sI i)], [(0, boxW A), (1, boxW (goesM B t i))], 2⟩
set_option maxHeartbeats 4000000 in
theorem ok_TaskAlone (l : List (List ActM)) (ps : List PickV) (t q : Int) (hl : l.length ≤ 9223372036854775807) : Ok 6 [.sl 1 2 (l.map eA1), .sl 3 2 (ps.map ePick), .agg [sI t, sI q]] (sB true) := by
  refine ok_of_tr Try.func6 tr_TaskAlone rfl ?_
  have ka := ok_l8awake
  by_cases hs : Small l ps
  case neg =>
    have k0 := ok_great_yes 2 l 2 ps hs hl
    unfold evFn sc_TaskAlone rv_TaskAlone
    refine ev_seq_k fun K1 hn1 hr1 he1 => ?_
    refine ev_ops_k fun K2 hk2 => ?_
    refine sh0 ?_
    refine hk2 _ ?_
    refine hn1 (some ([0, 1, 5], none)) _ ?_
    refine ev_seq_k fun K3 hn3 hr3 he3 => ?_
    refine ev_seq_k fun K4 hn4 hr4 he4 => ?_
    refine ev_ops_k fun K5 hk5 => ?_
    refine evL_take 2 fun K6 hk6 => ?_
    refine sh0 ?_
    refine hk6 _ ?_
    refine sh0 ?_
    refine Or.inl (Or.inl ⟨_, k0, ?_⟩)
    refine hk5 _ ?_
    refine hn4 (some ([0, 1, 5, 20], none)) _ ?_
    refine ev_cond_k rfl (fun hc0 => ?_) (fun hx => absurd hx (by simp at hx))
    clear hc0
    refine ev_seq_k fun K7 hn7 hr7 he7 => ?_
    refine ev_ops_k fun K8 hk8 => ?_
    refine evL_take 1 fun K9 hk9 => ?_
    refine sh0 ?_
    refine Or.inl (Or.inl ⟨_, ka, ?_⟩)
    refine hk9 _ ?_
    refine sh0 ?_
    refine hk8 _ ?_
    refine hn7 (some ([6], none)) _ ?_
    refine hr3 _ ?_
    exact sf0
  have hK := shK scr
  have k0 := ok_great_no 2 l 2 ps hs
  obtain ⟨_, hl4, hp4⟩ := hs
  have k2 := ok_l8made 2 l hl4
  have hW0 := madeW_ok l hl4
  have hC0 := madeW_cod l
  generalize madeW l = W0 at k2 hW0 hC0
  have k3 := ok_kRun W0 2 ps hW0 (by omega)
  have hW := runOk ps hW0
  have hC := codedW_run ps hC0
  generalize runW W0 ps = W at k3 hW hC
  have h8 := worldOk_eight hW
  have hst := hW.stops
  obtain ⟨most, hm⟩ : ∃ most, most = min q 100 := ⟨_, rfl⟩
  have k4 := ok_kAlone W t most hW (by omega)
  have r1 : min q 100 = most := hm.symm
  have hmN : most.toNat ≤ 100 := by omega
  have HM := Lib.hid hm
  clear hm
  have k5 := ok_l8alike W hW hC (by omega)
  by_cases h1 : t < 1
  · have e : aloneM W t most = (W, false) := by unfold aloneM; rw [if_pos (.inl h1)]
    rw [e] at k4
    unfold evFn sc_TaskAlone rv_TaskAlone
    have F1 := And.intro @r1 @h1
    refine ev_seq_k fun K1 hn1 hr1 he1 => ?_
    refine ev_ops_k fun K2 hk2 => ?_
    refine sh1 F1 ?_
    refine hk2 _ ?_
    refine hn1 (some ([0, 1, 5], none)) _ ?_
    refine ev_seq_k fun K3 hn3 hr3 he3 => ?_
    refine ev_seq_k fun K4 hn4 hr4 he4 => ?_
    refine ev_ops_k fun K5 hk5 => ?_
    refine evL_take 2 fun K6 hk6 => ?_
    refine sh1 F1 ?_
    refine hk6 _ ?_
    refine sh1 F1 ?_
    refine Or.inl (Or.inl ⟨_, k0, ?_⟩)
    refine hk5 _ ?_
    refine hn4 (some ([0, 1, 5, 20], none)) _ ?_
    refine ev_cond_k rfl (fun hx => absurd hx (by simp at hx)) (fun hc0 => ?_)
    clear hc0
    refine hn3 (some ([0, 1, 5], none)) _ ?_
    refine ev_seq_k fun K7 hn7 hr7 he7 => ?_
    refine ev_ops_k fun K8 hk8 => ?_
    refine evL_take 1 fun K9 hk9 => ?_
    refine sh1 F1 ?_
    refine hk9 _ ?_
    refine evL_take 1 fun K10 hk10 => ?_
    refine sh1 F1 ?_
    refine Or.inl (Or.inl ⟨_, k2, ?_⟩)
    refine hk10 _ ?_
    refine evL_take 6 fun K11 hk11 => ?_
    refine sh1 F1 ?_
    refine sd ?_
    refine hk11 _ ?_
    refine sh1 F1 ?_
    refine hk8 _ ?_
    refine hn7 (some ([1, 5, 7, 9], none)) _ ?_
    refine ev_seq_k fun K12 hn12 hr12 he12 => ?_
    refine ev_seq_k fun K13 hn13 hr13 he13 => ?_
    refine ev_ops_k fun K14 hk14 => ?_
    refine sh1 F1 ?_
    refine hk14 _ ?_
    refine hn13 (some ([1, 5, 7, 29], none)) _ ?_
    refine ev_cond_k rfl (fun hx => absurd hx (by simp at hx)) (fun hc1 => ?_)
    clear hc1
    refine hn12 (some ([1, 5, 7], none)) _ ?_
    refine ev_seq_k fun K15 hn15 hr15 he15 => ?_
    refine ev_ops_k fun K16 hk16 => ?_
    refine evL_take 1 fun K17 hk17 => ?_
    refine sh1 F1 ?_
    refine sd ?_
    refine hk17 _ ?_
    refine evL_take 1 fun K18 hk18 => ?_
    refine sh1 F1 ?_
    refine hk18 _ ?_
    refine evL_take 1 fun K19 hk19 => ?_
    refine sh1 F1 ?_
    refine Or.inl (Or.inl ⟨_, k3, ?_⟩)
    refine hk19 _ ?_
    refine sh1 F1 ?_
    refine sd ?_
    refine hk16 _ ?_
    refine hn15 (some ([5, 7], none)) _ ?_
    refine ev_seq_k fun K20 hn20 hr20 he20 => ?_
    refine ev_drw_k [] (n := 6) fun K21 hk21 => ?_
    refine sq0 ?_
    refine evF_take 1 fun K23 hk23 => ?_
    refine sh1 F1 ?_
    refine sd ?_
    refine hk23 _ _ _ ?_
    refine evF_take 1 fun K24 hk24 => ?_
    refine sh1 F1 ?_
    refine sd ?_
    refine hk24 _ _ _ ?_
    refine evF_take 1 fun K25 hk25 => ?_
    refine sh1 F1 ?_
    refine sd ?_
    refine hk25 _ _ _ ?_
    refine evF_take 1 fun K26 hk26 => ?_
    refine sh1 F1 ?_
    refine sd ?_
    refine hk26 _ _ _ ?_
    refine sh1 F1 ?_
    refine hk21 _ ?_
    refine sr0 ?_
    refine sh1 F1 ?_
    refine hn20 (some ([7, 10, 11], none)) _ ?_
    refine ev_seq_k fun K27 hn27 hr27 he27 => ?_
    refine ev_ops_k fun K28 hk28 => ?_
    refine evL_take 1 fun K29 hk29 => ?_
    refine sh1 F1 ?_
    refine sd ?_
    refine hk29 _ ?_
    refine evL_take 2 fun K30 hk30 => ?_
    refine sh1 F1 ?_
    refine hk30 _ ?_
    refine evL_take 1 fun K31 hk31 => ?_
    refine sh1 F1 ?_
    refine Or.inl (Or.inl ⟨_, k4, ?_⟩)
    refine hk31 _ ?_
    refine evL_take 5 fun K32 hk32 => ?_
    refine sh1 F1 ?_
    refine sd ?_
    refine hk32 _ ?_
    refine sh1 F1 ?_
    refine hk28 _ ?_
    refine hn27 (some ([7, 10, 11, 12, 13], none)) _ ?_
    refine ev_seq_k fun K33 hn33 hr33 he33 => ?_
    refine ev_seq_k fun K34 hn34 hr34 he34 => ?_
    refine ev_ops_k fun K35 hk35 => ?_
    refine evL_take 2 fun K36 hk36 => ?_
    refine sh1 F1 ?_
    refine sd ?_
    refine hk36 _ ?_
    refine evL_take 4 fun K37 hk37 => ?_
    refine sh1 F1 ?_
    refine sd ?_
    refine hk37 _ ?_
    refine evL_take 2 fun K38 hk38 => ?_
    refine sh1 F1 ?_
    refine sd ?_
    refine hk38 _ ?_
    refine evL_take 4 fun K39 hk39 => ?_
    refine sh1 F1 ?_
    refine sd ?_
    refine hk39 _ ?_
    refine evL_take 2 fun K40 hk40 => ?_
    refine sh1 F1 ?_
    refine sd ?_
    refine hk40 _ ?_
    refine evL_take 1 fun K41 hk41 => ?_
    refine sh1 F1 ?_
    refine sd ?_
    refine hk41 _ ?_
    refine evL_take 1 fun K42 hk42 => ?_
    refine sh1 F1 ?_
    refine sd ?_
    refine hk42 _ ?_
    refine sh1 F1 ?_
    refine hk35 _ ?_
    refine hn34 (some ([7, 10, 11, 12, 13, 61], none)) _ ?_
    refine ev_cond_k rfl (fun hc2 => ?_) (fun hx => absurd hx (by simp at hx))
    clear hc2
    refine ev_seq_k fun K43 hn43 hr43 he43 => ?_
    refine ev_ops_k fun K44 hk44 => ?_
    refine evL_take 4 fun K45 hk45 => ?_
    refine sh1 F1 ?_
    refine sd ?_
    refine hk45 _ ?_
    refine evL_take 1 fun K46 hk46 => ?_
    refine sh1 F1 ?_
    refine sd ?_
    refine hk46 _ ?_
    refine evL_take 1 fun K47 hk47 => ?_
    refine sh1 F1 ?_
    refine Or.inl (Or.inl ⟨_, k5, ?_⟩)
    refine hk47 _ ?_
    refine evL_take 2 fun K48 hk48 => ?_
    refine sh1 F1 ?_
    refine hk48 _ ?_
    refine evL_take 1 fun K49 hk49 => ?_
    refine sh1 F1 ?_
    refine Or.inl (Or.inl ⟨_, ka, ?_⟩)
    refine hk49 _ ?_
    refine sh1 F1 ?_
    refine hk44 _ ?_
    refine hn43 (some ([6], none)) _ ?_
    refine hr33 _ ?_
    exact sf1 F1
  by_cases h2 : (W.tasks.length : Int) < t
  · have e : aloneM W t most = (W, false) := by unfold aloneM; rw [if_pos (.inr (.inl h2))]
    rw [e] at k4
    unfold evFn sc_TaskAlone rv_TaskAlone
    have F1 := And.intro @r1 (And.intro @h1 @h2)
    refine ev_seq_k fun K1 hn1 hr1 he1 => ?_
    refine ev_ops_k fun K2 hk2 => ?_
    refine sh1 F1 ?_
    refine hk2 _ ?_
    refine hn1 (some ([0, 1, 5], none)) _ ?_
    refine ev_seq_k fun K3 hn3 hr3 he3 => ?_
    refine ev_seq_k fun K4 hn4 hr4 he4 => ?_
    refine ev_ops_k fun K5 hk5 => ?_
    refine evL_take 2 fun K6 hk6 => ?_
    refine sh1 F1 ?_
    refine hk6 _ ?_
    refine sh1 F1 ?_
    refine Or.inl (Or.inl ⟨_, k0, ?_⟩)
    refine hk5 _ ?_
    refine hn4 (some ([0, 1, 5, 20], none)) _ ?_
    refine ev_cond_k rfl (fun hx => absurd hx (by simp at hx)) (fun hc0 => ?_)
    clear hc0
    refine hn3 (some ([0, 1, 5], none)) _ ?_
    refine ev_seq_k fun K7 hn7 hr7 he7 => ?_
    refine ev_ops_k fun K8 hk8 => ?_
    refine evL_take 1 fun K9 hk9 => ?_
    refine sh1 F1 ?_
    refine hk9 _ ?_
    refine evL_take 1 fun K10 hk10 => ?_
    refine sh1 F1 ?_
    refine Or.inl (Or.inl ⟨_, k2, ?_⟩)
    refine hk10 _ ?_
    refine evL_take 6 fun K11 hk11 => ?_
    refine sh1 F1 ?_
    refine sd ?_
    refine hk11 _ ?_
    refine sh1 F1 ?_
    refine hk8 _ ?_
    refine hn7 (some ([1, 5, 7, 9], none)) _ ?_
    refine ev_seq_k fun K12 hn12 hr12 he12 => ?_
    refine ev_seq_k fun K13 hn13 hr13 he13 => ?_
    refine ev_ops_k fun K14 hk14 => ?_
    refine sh1 F1 ?_
    refine hk14 _ ?_
    refine hn13 (some ([1, 5, 7, 29], none)) _ ?_
    refine ev_cond_k rfl (fun hx => absurd hx (by simp at hx)) (fun hc1 => ?_)
    clear hc1
    refine hn12 (some ([1, 5, 7], none)) _ ?_
    refine ev_seq_k fun K15 hn15 hr15 he15 => ?_
    refine ev_ops_k fun K16 hk16 => ?_
    refine evL_take 1 fun K17 hk17 => ?_
    refine sh1 F1 ?_
    refine sd ?_
    refine hk17 _ ?_
    refine evL_take 1 fun K18 hk18 => ?_
    refine sh1 F1 ?_
    refine hk18 _ ?_
    refine evL_take 1 fun K19 hk19 => ?_
    refine sh1 F1 ?_
    refine Or.inl (Or.inl ⟨_, k3, ?_⟩)
    refine hk19 _ ?_
    refine sh1 F1 ?_
    refine sd ?_
    refine hk16 _ ?_
    refine hn15 (some ([5, 7], none)) _ ?_
    refine ev_seq_k fun K20 hn20 hr20 he20 => ?_
    refine ev_drw_k [] (n := 6) fun K21 hk21 => ?_
    refine sq0 ?_
    refine evF_take 1 fun K23 hk23 => ?_
    refine sh1 F1 ?_
    refine sd ?_
    refine hk23 _ _ _ ?_
    refine evF_take 1 fun K24 hk24 => ?_
    refine sh1 F1 ?_
    refine sd ?_
    refine hk24 _ _ _ ?_
    refine evF_take 1 fun K25 hk25 => ?_
    refine sh1 F1 ?_
    refine sd ?_
    refine hk25 _ _ _ ?_
    refine evF_take 1 fun K26 hk26 => ?_
    refine sh1 F1 ?_
    refine sd ?_
    refine hk26 _ _ _ ?_
    refine sh1 F1 ?_
    refine hk21 _ ?_
    refine sr0 ?_
    refine sh1 F1 ?_
    refine hn20 (some ([7, 10, 11], none)) _ ?_
    refine ev_seq_k fun K27 hn27 hr27 he27 => ?_
    refine ev_ops_k fun K28 hk28 => ?_
    refine evL_take 1 fun K29 hk29 => ?_
    refine sh1 F1 ?_
    refine sd ?_
    refine hk29 _ ?_
    refine evL_take 2 fun K30 hk30 => ?_
    refine sh1 F1 ?_
    refine hk30 _ ?_
    refine evL_take 1 fun K31 hk31 => ?_
    refine sh1 F1 ?_
    refine Or.inl (Or.inl ⟨_, k4, ?_⟩)
    refine hk31 _ ?_
    refine evL_take 5 fun K32 hk32 => ?_
    refine sh1 F1 ?_
    refine sd ?_
    refine hk32 _ ?_
    refine sh1 F1 ?_
    refine hk28 _ ?_
    refine hn27 (some ([7, 10, 11, 12, 13], none)) _ ?_
    refine ev_seq_k fun K33 hn33 hr33 he33 => ?_
    refine ev_seq_k fun K34 hn34 hr34 he34 => ?_
    refine ev_ops_k fun K35 hk35 => ?_
    refine evL_take 2 fun K36 hk36 => ?_
    refine sh1 F1 ?_
    refine sd ?_
    refine hk36 _ ?_
    refine evL_take 4 fun K37 hk37 => ?_
    refine sh1 F1 ?_
    refine sd ?_
    refine hk37 _ ?_
    refine evL_take 2 fun K38 hk38 => ?_
    refine sh1 F1 ?_
    refine sd ?_
    refine hk38 _ ?_
    refine evL_take 4 fun K39 hk39 => ?_
    refine sh1 F1 ?_
    refine sd ?_
    refine hk39 _ ?_
    refine evL_take 2 fun K40 hk40 => ?_
    refine sh1 F1 ?_
    refine sd ?_
    refine hk40 _ ?_
    refine evL_take 1 fun K41 hk41 => ?_
    refine sh1 F1 ?_
    refine sd ?_
    refine hk41 _ ?_
    refine evL_take 1 fun K42 hk42 => ?_
    refine sh1 F1 ?_
    refine sd ?_
    refine hk42 _ ?_
    refine sh1 F1 ?_
    refine hk35 _ ?_
    refine hn34 (some ([7, 10, 11, 12, 13, 61], none)) _ ?_
    refine ev_cond_k rfl (fun hc2 => ?_) (fun hx => absurd hx (by simp at hx))
    clear hc2
    refine ev_seq_k fun K43 hn43 hr43 he43 => ?_
    refine ev_ops_k fun K44 hk44 => ?_
    refine evL_take 4 fun K45 hk45 => ?_
    refine sh1 F1 ?_
    refine sd ?_
    refine hk45 _ ?_
    refine evL_take 1 fun K46 hk46 => ?_
    refine sh1 F1 ?_
    refine sd ?_
    refine hk46 _ ?_
    refine evL_take 1 fun K47 hk47 => ?_
    refine sh1 F1 ?_
    refine Or.inl (Or.inl ⟨_, k5, ?_⟩)
    refine hk47 _ ?_
    refine evL_take 2 fun K48 hk48 => ?_
    refine sh1 F1 ?_
    refine hk48 _ ?_
    refine evL_take 1 fun K49 hk49 => ?_
    refine sh1 F1 ?_
    refine Or.inl (Or.inl ⟨_, ka, ?_⟩)
    refine hk49 _ ?_
    refine sh1 F1 ?_
    refine hk44 _ ?_
    refine hn43 (some ([6], none)) _ ?_
    refine hr33 _ ?_
    exact sf1 F1
  obtain ⟨m, hm⟩ := Int.eq_ofNat_of_zero_le (show 0 ≤ t - 1 by omega)
  have q1 : IntKind.i64.wrap (t - 1) = (m : Int) := by rw [IntKind.wrap_i64]; omega
  have q2 : m < W.stopped.length := by omega
  have q3 : (m : Int) < (W.stopped.length : Int) := by omega
  have hsm := List.getElem?_eq_getElem q2
  have esm : stoppedM W m = W.stopped[m] := by unfold stoppedM; rw [hsm]; rfl
  generalize W.stopped[m] = b at hsm esm
  cases b
  case true =>
    have e : aloneM W t most = (W, false) := by unfold aloneM; rw [if_pos (.inr (.inr (by rw [hm, Int.toNat_natCast, esm])))]
    rw [e] at k4
    unfold evFn sc_TaskAlone rv_TaskAlone
    have F1 := And.intro @r1 (And.intro @h1 (And.intro @h2 (And.intro @q1 (And.intro @q2 (And.intro @q3 @hsm)))))
    refine ev_seq_k fun K1 hn1 hr1 he1 => ?_
    refine ev_ops_k fun K2 hk2 => ?_
    refine sh1 F1 ?_
    refine hk2 _ ?_
    refine hn1 (some ([0, 1, 5], none)) _ ?_
    refine ev_seq_k fun K3 hn3 hr3 he3 => ?_
    refine ev_seq_k fun K4 hn4 hr4 he4 => ?_
    refine ev_ops_k fun K5 hk5 => ?_
    refine evL_take 2 fun K6 hk6 => ?_
    refine sh1 F1 ?_
    refine hk6 _ ?_
    refine sh1 F1 ?_
    refine Or.inl (Or.inl ⟨_, k0, ?_⟩)
    refine hk5 _ ?_
    refine hn4 (some ([0, 1, 5, 20], none)) _ ?_
    refine ev_cond_k rfl (fun hx => absurd hx (by simp at hx)) (fun hc0 => ?_)
    clear hc0
    refine hn3 (some ([0, 1, 5], none)) _ ?_
    refine ev_seq_k fun K7 hn7 hr7 he7 => ?_
    refine ev_ops_k fun K8 hk8 => ?_
    refine evL_take 1 fun K9 hk9 => ?_
    refine sh1 F1 ?_
    refine hk9 _ ?_
    refine evL_take 1 fun K10 hk10 => ?_
    refine sh1 F1 ?_
    refine Or.inl (Or.inl ⟨_, k2, ?_⟩)
    refine hk10 _ ?_
    refine evL_take 6 fun K11 hk11 => ?_
    refine sh1 F1 ?_
    refine sd ?_
    refine hk11 _ ?_
    refine sh1 F1 ?_
    refine hk8 _ ?_
    refine hn7 (some ([1, 5, 7, 9], none)) _ ?_
    refine ev_seq_k fun K12 hn12 hr12 he12 => ?_
    refine ev_seq_k fun K13 hn13 hr13 he13 => ?_
    refine ev_ops_k fun K14 hk14 => ?_
    refine sh1 F1 ?_
    refine hk14 _ ?_
    refine hn13 (some ([1, 5, 7, 29], none)) _ ?_
    refine ev_cond_k rfl (fun hx => absurd hx (by simp at hx)) (fun hc1 => ?_)
    clear hc1
    refine hn12 (some ([1, 5, 7], none)) _ ?_
    refine ev_seq_k fun K15 hn15 hr15 he15 => ?_
    refine ev_ops_k fun K16 hk16 => ?_
    refine evL_take 1 fun K17 hk17 => ?_
    refine sh1 F1 ?_
    refine sd ?_
    refine hk17 _ ?_
    refine evL_take 1 fun K18 hk18 => ?_
    refine sh1 F1 ?_
    refine hk18 _ ?_
    refine evL_take 1 fun K19 hk19 => ?_
    refine sh1 F1 ?_
    refine Or.inl (Or.inl ⟨_, k3, ?_⟩)
    refine hk19 _ ?_
    refine sh1 F1 ?_
    refine sd ?_
    refine hk16 _ ?_
    refine hn15 (some ([5, 7], none)) _ ?_
    refine ev_seq_k fun K20 hn20 hr20 he20 => ?_
    refine ev_drw_k [] (n := 6) fun K21 hk21 => ?_
    refine sq0 ?_
    refine evF_take 1 fun K23 hk23 => ?_
    refine sh1 F1 ?_
    refine sd ?_
    refine hk23 _ _ _ ?_
    refine evF_take 1 fun K24 hk24 => ?_
    refine sh1 F1 ?_
    refine sd ?_
    refine hk24 _ _ _ ?_
    refine evF_take 1 fun K25 hk25 => ?_
    refine sh1 F1 ?_
    refine sd ?_
    refine hk25 _ _ _ ?_
    refine evF_take 1 fun K26 hk26 => ?_
    refine sh1 F1 ?_
    refine sd ?_
    refine hk26 _ _ _ ?_
    refine sh1 F1 ?_
    refine hk21 _ ?_
    refine sr0 ?_
    refine sh1 F1 ?_
    refine hn20 (some ([7, 10, 11], none)) _ ?_
    refine ev_seq_k fun K27 hn27 hr27 he27 => ?_
    refine ev_ops_k fun K28 hk28 => ?_
    refine evL_take 1 fun K29 hk29 => ?_
    refine sh1 F1 ?_
    refine sd ?_
    refine hk29 _ ?_
    refine evL_take 2 fun K30 hk30 => ?_
    refine sh1 F1 ?_
    refine hk30 _ ?_
    refine evL_take 1 fun K31 hk31 => ?_
    refine sh1 F1 ?_
    refine Or.inl (Or.inl ⟨_, k4, ?_⟩)
    refine hk31 _ ?_
    refine evL_take 5 fun K32 hk32 => ?_
    refine sh1 F1 ?_
    refine sd ?_
    refine hk32 _ ?_
    refine sh1 F1 ?_
    refine hk28 _ ?_
    refine hn27 (some ([7, 10, 11, 12, 13], none)) _ ?_
    refine ev_seq_k fun K33 hn33 hr33 he33 => ?_
    refine ev_seq_k fun K34 hn34 hr34 he34 => ?_
    refine ev_ops_k fun K35 hk35 => ?_
    refine evL_take 2 fun K36 hk36 => ?_
    refine sh1 F1 ?_
    refine sd ?_
    refine hk36 _ ?_
    refine evL_take 4 fun K37 hk37 => ?_
    refine sh1 F1 ?_
    refine sd ?_
    refine hk37 _ ?_
    refine evL_take 2 fun K38 hk38 => ?_
    refine sh1 F1 ?_
    refine sd ?_
    refine hk38 _ ?_
    refine evL_take 4 fun K39 hk39 => ?_
    refine sh1 F1 ?_
    refine sd ?_
    refine hk39 _ ?_
    refine evL_take 2 fun K40 hk40 => ?_
    refine sh1 F1 ?_
    refine sd ?_
    refine hk40 _ ?_
    refine evL_take 1 fun K41 hk41 => ?_
    refine sh1 F1 ?_
    refine sd ?_
    refine hk41 _ ?_
    refine evL_take 1 fun K42 hk42 => ?_
    refine sh1 F1 ?_
    refine sd ?_
    refine hk42 _ ?_
    refine sh1 F1 ?_
    refine hk35 _ ?_
    refine hn34 (some ([7, 10, 11, 12, 13, 61], none)) _ ?_
    refine ev_cond_k rfl (fun hc2 => ?_) (fun hx => absurd hx (by simp at hx))
    clear hc2
    refine ev_seq_k fun K43 hn43 hr43 he43 => ?_
    refine ev_ops_k fun K44 hk44 => ?_
    refine evL_take 4 fun K45 hk45 => ?_
    refine sh1 F1 ?_
    refine sd ?_
    refine hk45 _ ?_
    refine evL_take 1 fun K46 hk46 => ?_
    refine sh1 F1 ?_
    refine sd ?_
    refine hk46 _ ?_
    refine evL_take 1 fun K47 hk47 => ?_
    refine sh1 F1 ?_
    refine Or.inl (Or.inl ⟨_, k5, ?_⟩)
    refine hk47 _ ?_
    refine evL_take 2 fun K48 hk48 => ?_
    refine sh1 F1 ?_
    refine hk48 _ ?_
    refine evL_take 1 fun K49 hk49 => ?_
    refine sh1 F1 ?_
    refine Or.inl (Or.inl ⟨_, ka, ?_⟩)
    refine hk49 _ ?_
    refine sh1 F1 ?_
    refine hk44 _ ?_
    refine hn43 (some ([6], none)) _ ?_
    refine hr33 _ ?_
    exact sf1 F1
  have e : aloneM W t most = (goesM W t most.toNat, !(liveAt (goesM W t most.toNat) m)) := by
    unfold aloneM
    rw [if_neg (by rintro (a | a | a) <;> first | omega | (rw [hm, Int.toNat_natCast, esm] at a; cases a)), hm, Int.toNat_natCast]
  rw [e] at k4
  have hA := goesOk t most.toNat hW
  have hAC := codedW_goes t most.toNat hC
  have hAl := goes_len t most.toNat W
  have k9 := ok_l8alike (goesM W t most.toNat) hA hAC (by omega)
  obtain ⟨y, hy⟩ : ∃ y, (goesM W t most.toNat).tasks[m]? = some y := ⟨_, List.getElem?_eq_getElem (by omega)⟩
  have e1 : liveAt (goesM W t most.toNat) m = y.live := by unfold liveAt; rw [hy]; rfl
  have k10 := ok_kDone y
  have q4 : m < (goesM W t most.toNat).tasks.length := by omega
  rw [e1] at k4
  generalize y.live = v at k4 k10
  obtain ⟨A, hAA⟩ : ∃ A, A = goesM W t most.toNat := ⟨_, rfl⟩
  rw [← hAA] at k4 k9 hy q4
  have q5 : (m : Int) < (A.tasks.length : Int) := by omega
  unfold evFn sc_TaskAlone rv_TaskAlone
  have F1 := And.intro @r1 (And.intro @h1 (And.intro @h2 (And.intro @q1 (And.intro @q2 (And.intro @q3 (And.intro @hsm @hK))))))
  refine ev_seq_k fun K1 hn1 hr1 he1 => ?_
  refine ev_ops_k fun K2 hk2 => ?_
  refine sh1 F1 ?_
  refine hk2 _ ?_
  refine hn1 (some ([0, 1, 5], none)) _ ?_
  refine ev_seq_k fun K3 hn3 hr3 he3 => ?_
  refine ev_seq_k fun K4 hn4 hr4 he4 => ?_
  refine ev_ops_k fun K5 hk5 => ?_
  refine evL_take 2 fun K6 hk6 => ?_
  refine sh1 F1 ?_
  refine hk6 _ ?_
  refine sh1 F1 ?_
  refine Or.inl (Or.inl ⟨_, k0, ?_⟩)
  refine hk5 _ ?_
  refine hn4 (some ([0, 1, 5, 20], none)) _ ?_
  refine ev_cond_k rfl (fun hx => absurd hx (by simp at hx)) (fun hc0 => ?_)
  clear hc0
  refine hn3 (some ([0, 1, 5], none)) _ ?_
  refine ev_seq_k fun K7 hn7 hr7 he7 => ?_
  refine ev_ops_k fun K8 hk8 => ?_
  refine evL_take 1 fun K9 hk9 => ?_
  refine sh1 F1 ?_
  refine hk9 _ ?_
  refine evL_take 1 fun K10 hk10 => ?_
  refine sh1 F1 ?_
  refine Or.inl (Or.inl ⟨_, k2, ?_⟩)
  refine hk10 _ ?_
  refine evL_take 6 fun K11 hk11 => ?_
  refine sh1 F1 ?_
  refine sd ?_
  refine hk11 _ ?_
  refine sh1 F1 ?_
  refine hk8 _ ?_
  refine hn7 (some ([1, 5, 7, 9], none)) _ ?_
  refine ev_seq_k fun K12 hn12 hr12 he12 => ?_
  refine ev_seq_k fun K13 hn13 hr13 he13 => ?_
  refine ev_ops_k fun K14 hk14 => ?_
  refine sh1 F1 ?_
  refine hk14 _ ?_
  refine hn13 (some ([1, 5, 7, 29], none)) _ ?_
  refine ev_cond_k rfl (fun hx => absurd hx (by simp at hx)) (fun hc1 => ?_)
  clear hc1
  refine hn12 (some ([1, 5, 7], none)) _ ?_
  refine ev_seq_k fun K15 hn15 hr15 he15 => ?_
  refine ev_ops_k fun K16 hk16 => ?_
  refine evL_take 1 fun K17 hk17 => ?_
  refine sh1 F1 ?_
  refine sd ?_
  refine hk17 _ ?_
  refine evL_take 1 fun K18 hk18 => ?_
  refine sh1 F1 ?_
  refine hk18 _ ?_
  refine evL_take 1 fun K19 hk19 => ?_
  refine sh1 F1 ?_
  refine Or.inl (Or.inl ⟨_, k3, ?_⟩)
  refine hk19 _ ?_
  refine sh1 F1 ?_
  refine sd ?_
  refine hk16 _ ?_
  refine hn15 (some ([5, 7], none)) _ ?_
  refine ev_seq_k fun K20 hn20 hr20 he20 => ?_
  refine ev_drw_k [] (n := 6) fun K21 hk21 => ?_
  refine sq0 ?_
  refine evF_take 1 fun K23 hk23 => ?_
  refine sh1 F1 ?_
  refine sd ?_
  refine hk23 _ _ _ ?_
  refine evF_take 1 fun K24 hk24 => ?_
  refine sh1 F1 ?_
  refine sd ?_
  refine hk24 _ _ _ ?_
  refine evF_take 1 fun K25 hk25 => ?_
  refine sh1 F1 ?_
  refine sd ?_
  refine hk25 _ _ _ ?_
  refine evF_take 1 fun K26 hk26 => ?_
  refine sh1 F1 ?_
  refine sd ?_
  refine hk26 _ _ _ ?_
  refine sh1 F1 ?_
  refine hk21 _ ?_
  refine sr0 ?_
  refine sh1 F1 ?_
  refine hn20 (some ([7, 10, 11], none)) _ ?_
  refine ev_seq_k fun K27 hn27 hr27 he27 => ?_
  refine ev_ops_k fun K28 hk28 => ?_
  refine evL_take 1 fun K29 hk29 => ?_
  refine sh1 F1 ?_
  refine sd ?_
  refine hk29 _ ?_
  refine evL_take 2 fun K30 hk30 => ?_
  refine sh1 F1 ?_
  refine hk30 _ ?_
  refine evL_take 1 fun K31 hk31 => ?_
  refine sh1 F1 ?_
  refine Or.inl (Or.inl ⟨_, k4, ?_⟩)
  refine hk31 _ ?_
  refine evL_take 5 fun K32 hk32 => ?_
  refine sh1 F1 ?_
  refine sd ?_
  refine hk32 _ ?_
  refine sh1 F1 ?_
  refine hk28 _ ?_
  refine hn27 (some ([7, 10, 11, 12, 13], none)) _ ?_
  refine ev_seq_k fun K33 hn33 hr33 he33 => ?_
  refine ev_seq_k fun K34 hn34 hr34 he34 => ?_
  refine ev_ops_k fun K35 hk35 => ?_
  refine evL_take 2 fun K36 hk36 => ?_
  refine sh1 F1 ?_
  refine sd ?_
  refine hk36 _ ?_
  refine evL_take 4 fun K37 hk37 => ?_
  refine sh1 F1 ?_
  refine sd ?_
  refine hk37 _ ?_
  refine evL_take 2 fun K38 hk38 => ?_
  refine sh1 F1 ?_
  refine sd ?_
  refine hk38 _ ?_
  refine evL_take 4 fun K39 hk39 => ?_
  refine sh1 F1 ?_
  refine sd ?_
  refine hk39 _ ?_
  refine evL_take 2 fun K40 hk40 => ?_
  refine sh1 F1 ?_
  refine sd ?_
  refine hk40 _ ?_
  refine evL_take 1 fun K41 hk41 => ?_
  refine sh1 F1 ?_
  refine sd ?_
  refine hk41 _ ?_
  refine evL_take 1 fun K42 hk42 => ?_
  refine sh1 F1 ?_
  refine sd ?_
  refine hk42 _ ?_
  refine sh1 F1 ?_
  refine hk35 _ ?_
  refine hn34 (some ([7, 10, 11, 12, 13, 61], none)) _ ?_
  refine ev_cond_k rfl (fun hx => absurd hx (by simp at hx)) (fun hc2 => ?_)
  clear hc2
  refine hn33 (some ([7, 10, 11, 12, 13], none)) _ ?_
  refine ev_seq_k fun K43 hn43 hr43 he43 => ?_
  refine ev_ops_k fun K44 hk44 => ?_
  refine evL_take 1 fun K45 hk45 => ?_
  refine sh1 F1 ?_
  refine sd ?_
  refine hk45 _ ?_
  refine sh1 F1 ?_
  refine sd ?_
  refine hk44 _ ?_
  refine hn43 (some ([10, 11, 12, 13, 14], none)) _ ?_
  refine ev_seq_k fun K46 hn46 hr46 he46 => ?_
  refine ev_seq_k fun K47 hn47 hr47 he47 => ?_
  refine ev_ops_k fun K48 hk48 => ?_
  refine sh1 F1 ?_
  refine hk48 _ ?_
  refine hn47 (some ([10, 11, 12, 13, 14, 15], none)) _ ?_
  refine ev_block_k fun K49 hn49 hx49 hr49 he49 => ?_
  refine ev_loop_k (AlnInv A W t most (!v)) (most.toNat) (some ([10, 11, 12, 13, 14, 15], some ([2, 3], 2))) ([]) ?_ ?_
  · try refine lp0 ?_
    exact ⟨0, by omega, by omega, by rfl⟩
  · intro k S1 hI
    obtain ⟨i, hi, rfl, rfl⟩ := hI
    have hlen := goes_len t i W
    obtain ⟨x, hx0⟩ : ∃ x, (goesM W t i).tasks[m]? = some x := ⟨_, List.getElem?_eq_getElem (by omega)⟩
    have ex : liveAt (goesM W t i) m = x.live := by unfold liveAt; rw [hx0]; rfl
    have hW2 := goesOk t i hW
    have k8 := ok_kStep (goesM W t i) ⟨0, t, 0⟩ hW2 (by omega)
    rw [← goes_next] at k8
    have k7 := ok_kDone x
    have p1 : m < (goesM W t i).tasks.length := by omega
    have p2 : (m : Int) < ((goesM W t i).tasks.length : Int) := by omega
    have hcase : i = most.toNat ∨ (i < most.toNat ∧ x.live = false) ∨ (i < most.toNat ∧ x.live = true) := by
      rcases Nat.lt_or_ge i most.toNat with h | h
      · cases hv : x.live
        · exact .inr (.inl ⟨h, rfl⟩)
        · exact .inr (.inr ⟨h, rfl⟩)
      · exact .inl (by omega)
    intro K50 hn50 hr50 he50
    rcases hcase with hcc | ⟨hcc, hv⟩ | ⟨hcc, hv⟩
    · skip
      have w2 : ¬ (i : Int) < most := by omega
      have w3 : goesM W t i = A := by rw [hAA, hcc]
      have F2 := And.intro F1 (And.intro @w2 (And.intro @w3 (And.intro @hy (And.intro @q4 @q5))))
      refine ev_seq_k fun K51 hn51 hr51 he51 => ?_
      refine ev_seq_k fun K52 hn52 hr52 he52 => ?_
      refine ev_ops_k fun K53 hk53 => ?_
      refine evL_take 3 fun K54 hk54 => ?_
      refine sh1 F2 ?_
      refine sd ?_
      refine hk54 _ ?_
      refine evL_take 3 fun K55 hk55 => ?_
      refine sh1 F2 ?_
      refine sd ?_
      refine hk55 _ ?_
      refine evL_take 2 fun K56 hk56 => ?_
      refine sh1 F2 ?_
      refine sd ?_
      refine hk56 _ ?_
      refine evL_take 1 fun K57 hk57 => ?_
      refine sh1 F2 ?_
      refine sd ?_
      refine hk57 _ ?_
      refine evL_take 1 fun K58 hk58 => ?_
      refine sh1 F2 ?_
      refine sd ?_
      refine hk58 _ ?_
      refine evL_take 1 fun K59 hk59 => ?_
      refine sh1 F2 ?_
      skip
      refine hk59 _ ?_
      refine sh1 F2 ?_
      refine hk53 _ ?_
      refine hn52 (some ([10, 11, 12, 13, 14, 15, 85], none)) _ ?_
      refine ev_cond_k rfl (fun hx => absurd hx (by simp at hx)) (fun hc3 => ?_)
      clear hc3
      refine he51 0 _ ?_
      refine he50 0 _ ?_
      refine hx49 _ ?_
      refine hn46 (some ([10, 12, 13, 14], none)) _ ?_
      refine ev_seq_k fun K60 hn60 hr60 he60 => ?_
      refine ev_ops_k fun K61 hk61 => ?_
      refine evL_take 1 fun K62 hk62 => ?_
      refine sh1 F2 ?_
      refine sd ?_
      refine hk62 _ ?_
      refine evL_take 1 fun K63 hk63 => ?_
      refine sh1 F2 ?_
      refine sd ?_
      refine hk63 _ ?_
      refine evL_take 1 fun K64 hk64 => ?_
      refine sh1 F2 ?_
      refine Or.inl (Or.inl ⟨_, k9, ?_⟩)
      refine hk64 _ ?_
      refine evL_take 4 fun K65 hk65 => ?_
      refine sh1 F2 ?_
      refine sd ?_
      refine hk65 _ ?_
      refine evL_take 2 fun K66 hk66 => ?_
      refine sh1 F2 ?_
      refine sd ?_
      refine hk66 _ ?_
      refine evL_take 1 fun K67 hk67 => ?_
      refine sh1 F2 ?_
      refine sd ?_
      refine hk67 _ ?_
      refine evL_take 1 fun K68 hk68 => ?_
      refine sh1 F2 ?_
      refine sd ?_
      refine hk68 _ ?_
      refine evL_take 1 fun K69 hk69 => ?_
      refine sh1 F2 ?_
      refine Or.inl (Or.inl ⟨_, k10, ?_⟩)
      refine hk69 _ ?_
      refine evL_take 1 fun K70 hk70 => ?_
      refine sh1 F2 ?_
      refine Or.inl ⟨_, eqsh_bool_refl _, ?_⟩
      refine hk70 _ ?_
      refine evL_take 2 fun K71 hk71 => ?_
      refine sh1 F2 ?_
      refine hk71 _ ?_
      refine evL_take 1 fun K72 hk72 => ?_
      refine sh1 F2 ?_
      refine Or.inl (Or.inl ⟨_, ka, ?_⟩)
      refine hk72 _ ?_
      refine sh1 F2 ?_
      refine hk61 _ ?_
      refine hn60 (some ([6], none)) _ ?_
      exact sf1 F2
    · skip
      have w2 : (i : Int) < most := by omega
      rw [hv] at ex k7
      have w3 : goesM W t i = A := by
        rw [hAA, show most.toNat = i + (most.toNat - i) by omega, goes_add, goes_done hm ex]
      rw [w3] at hx0
      obtain rfl : y = x := by rw [hy] at hx0; exact Option.some.inj hx0
      have F3 := And.intro F1 (And.intro @w2 (And.intro @w3 (And.intro @hy (And.intro @q4 @q5))))
      refine ev_seq_k fun K73 hn73 hr73 he73 => ?_
      refine ev_seq_k fun K74 hn74 hr74 he74 => ?_
      refine ev_ops_k fun K75 hk75 => ?_
      refine evL_take 3 fun K76 hk76 => ?_
      refine sh1 F3 ?_
      refine sd ?_
      refine hk76 _ ?_
      refine evL_take 3 fun K77 hk77 => ?_
      refine sh1 F3 ?_
      refine sd ?_
      refine hk77 _ ?_
      refine evL_take 2 fun K78 hk78 => ?_
      refine sh1 F3 ?_
      refine sd ?_
      refine hk78 _ ?_
      refine evL_take 1 fun K79 hk79 => ?_
      refine sh1 F3 ?_
      refine sd ?_
      refine hk79 _ ?_
      refine evL_take 1 fun K80 hk80 => ?_
      refine sh1 F3 ?_
      refine sd ?_
      refine hk80 _ ?_
      refine evL_take 1 fun K81 hk81 => ?_
      refine sh1 F3 ?_
      refine Or.inl (Or.inl ⟨_, k7, ?_⟩)
      refine hk81 _ ?_
      refine sh1 F3 ?_
      refine hk75 _ ?_
      refine hn74 (some ([10, 11, 12, 13, 14, 15, 85], none)) _ ?_
      refine ev_cond_k rfl (fun hx => absurd hx (by simp at hx)) (fun hc3 => ?_)
      clear hc3
      refine he73 0 _ ?_
      refine he50 0 _ ?_
      refine hx49 _ ?_
      refine hn46 (some ([10, 12, 13, 14], none)) _ ?_
      refine ev_seq_k fun K82 hn82 hr82 he82 => ?_
      refine ev_ops_k fun K83 hk83 => ?_
      refine evL_take 1 fun K84 hk84 => ?_
      refine sh1 F3 ?_
      refine sd ?_
      refine hk84 _ ?_
      refine evL_take 1 fun K85 hk85 => ?_
      refine sh1 F3 ?_
      refine sd ?_
      refine hk85 _ ?_
      refine evL_take 1 fun K86 hk86 => ?_
      refine sh1 F3 ?_
      refine Or.inl (Or.inl ⟨_, k9, ?_⟩)
      refine hk86 _ ?_
      refine evL_take 4 fun K87 hk87 => ?_
      refine sh1 F3 ?_
      refine sd ?_
      refine hk87 _ ?_
      refine evL_take 2 fun K88 hk88 => ?_
      refine sh1 F3 ?_
      refine sd ?_
      refine hk88 _ ?_
      refine evL_take 1 fun K89 hk89 => ?_
      refine sh1 F3 ?_
      refine sd ?_
      refine hk89 _ ?_
      refine evL_take 1 fun K90 hk90 => ?_
      refine sh1 F3 ?_
      refine sd ?_
      refine hk90 _ ?_
      refine evL_take 1 fun K91 hk91 => ?_
      refine sh1 F3 ?_
      refine Or.inl (Or.inl ⟨_, k10, ?_⟩)
      refine hk91 _ ?_
      refine evL_take 1 fun K92 hk92 => ?_
      refine sh1 F3 ?_
      refine Or.inl ⟨_, eqsh_bool_refl _, ?_⟩
      refine hk92 _ ?_
      refine evL_take 2 fun K93 hk93 => ?_
      refine sh1 F3 ?_
      refine hk93 _ ?_
      refine evL_take 1 fun K94 hk94 => ?_
      refine sh1 F3 ?_
      refine Or.inl (Or.inl ⟨_, ka, ?_⟩)
      refine hk94 _ ?_
      refine sh1 F3 ?_
      refine hk83 _ ?_
      refine hn82 (some ([6], none)) _ ?_
      exact sf1 F3
    · skip
      have w2 : (i : Int) < most := by omega
      have w3 : IntKind.i64.wrap ((i : Int) + 1) = ((i + 1 : Nat) : Int) := by rw [IntKind.wrap_i64]; omega
      rw [hv] at k7
      generalize (stepM (goesM W t i) ⟨0, t, 0⟩).2 = bb at k8
      have F4 := And.intro F1 (And.intro @w2 (And.intro @w3 (And.intro @hx0 (And.intro @p1 @p2))))
      refine ev_seq_k fun K95 hn95 hr95 he95 => ?_
      refine ev_seq_k fun K96 hn96 hr96 he96 => ?_
      refine ev_ops_k fun K97 hk97 => ?_
      refine evL_take 3 fun K98 hk98 => ?_
      refine sh1 F4 ?_
      refine sd ?_
      refine hk98 _ ?_
      refine evL_take 3 fun K99 hk99 => ?_
      refine sh1 F4 ?_
      refine sd ?_
      refine hk99 _ ?_
      refine evL_take 2 fun K100 hk100 => ?_
      refine sh1 F4 ?_
      refine sd ?_
      refine hk100 _ ?_
      refine evL_take 1 fun K101 hk101 => ?_
      refine sh1 F4 ?_
      refine sd ?_
      refine hk101 _ ?_
      refine evL_take 1 fun K102 hk102 => ?_
      refine sh1 F4 ?_
      refine sd ?_
      refine hk102 _ ?_
      refine evL_take 1 fun K103 hk103 => ?_
      refine sh1 F4 ?_
      refine Or.inl (Or.inl ⟨_, k7, ?_⟩)
      refine hk103 _ ?_
      refine sh1 F4 ?_
      refine hk97 _ ?_
      refine hn96 (some ([10, 11, 12, 13, 14, 15, 85], none)) _ ?_
      refine ev_cond_k rfl (fun hc3 => ?_) (fun hx => absurd hx (by simp at hx))
      clear hc3
      refine hn95 (some ([10, 11, 12, 13, 14, 15], none)) _ ?_
      refine ev_seq_k fun K104 hn104 hr104 he104 => ?_
      refine ev_block_k fun K105 hn105 hx105 hr105 he105 => ?_
      refine ev_seq_k fun K106 hn106 hr106 he106 => ?_
      refine ev_ops_k fun K107 hk107 => ?_
      refine evL_take 1 fun K108 hk108 => ?_
      refine sh1 F4 ?_
      refine sd ?_
      refine hk108 _ ?_
      refine evL_take 2 fun K109 hk109 => ?_
      refine sh1 F4 ?_
      refine hk109 _ ?_
      refine evL_take 1 fun K110 hk110 => ?_
      refine sh1 F4 ?_
      refine Or.inl (Or.inl ⟨_, k8, ?_⟩)
      refine hk110 _ ?_
      refine evL_take 5 fun K111 hk111 => ?_
      refine sh1 F4 ?_
      refine sd ?_
      refine hk111 _ ?_
      refine sh1 F4 ?_
      refine hk107 _ ?_
      refine hn106 (some ([10, 11, 12, 13, 14, 15, 16], none)) _ ?_
      refine ev_ops_k fun K112 hk112 => ?_
      refine evL_take 1 fun K113 hk113 => ?_
      refine sh1 F4 ?_
      refine sd ?_
      refine hk113 _ ?_
      refine sh1 F4 ?_
      refine sd ?_
      refine hk112 _ ?_
      refine hn105 _ ?_
      refine hn104 (some ([10, 11, 12, 13, 14, 15], none)) _ ?_
      refine ev_ops_k fun K114 hk114 => ?_
      refine evL_take 2 fun K115 hk115 => ?_
      refine sh1 F4 ?_
      refine sd ?_
      refine hk115 _ ?_
      refine sh1 F4 ?_
      refine hk114 _ ?_
      refine hn50 (most.toNat - (i + 1)) (some ([10, 11, 12, 13, 14, 15], some ([0, 1], 2))) _ ?_ ?_
      all_goals try refine lp0 ?_
      · omega
      · exact ⟨i + 1, by omega, by omega, rfl⟩
end Go.Proofs.Ytcbdgnjdpfgobaa

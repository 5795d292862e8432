/-
  The reference of layer 4 by shadows: the reference memory of a memory, New, loads and stores.
-/
import Derived.Test.YtfcjkchpldfamaaK4w
import Derived.Test.YtfcjkchpldfamaaMC
namespace Go.Proofs.Ytfcjkchpldfamaa
set_option linter.unusedSimpArgs false
set_option linter.unusedVariables false
open Go.RowKit Go.Maps

def toL (P : Nat) (v : ViewV) : List Int := (List.range P).map fun (p : Nat) => vGet v (p : Int)
def refMsg (P : Nat) (m : MsgV) : RMsg4 := ⟨m.word, toL P m.view⟩
def refOf (M : MemM) : RefM4 := ⟨M.views.map (toL M.places.length), M.places.map fun h => h.map (refMsg M.places.length)⟩
theorem toL_len (P : Nat) (v : ViewV) : (toL P v).length = P := by simp [toL]
theorem toL_get (P : Nat) (v : ViewV) {p : Nat} (h : p < P) : (toL P v)[p]? = some (vGet v p) := by simp [toL, h]
theorem toL_none (P : Nat) : toL P (fun _ => none) = List.replicate P 0 := by
  refine List.ext_getElem? fun i => ?_
  by_cases h : i < P
  · rw [toL_get P _ h, List.getElem?_replicate, if_pos h]; rfl
  · rw [List.getElem?_eq_none (by rw [toL_len]; omega), List.getElem?_eq_none (by simp; omega)]
theorem toL_with (P : Nat) (v : ViewV) (a : Nat) (n : Int) (ha : a < 4096) (haP : a < P) (hn : vGet v a ≤ n) : toL P (vWith v a n) = (toL P v).set a n := by
  refine List.ext_getElem? fun i => ?_
  by_cases h : i < P
  · rw [toL_get P _ h, List.getElem?_set, vGet_with v a n i (by omega) (by omega)]
    by_cases e : a = i
    · subst e; rw [if_pos rfl, if_pos rfl, if_pos (by rw [toL_len]; exact h)]; congr 1; omega
    · rw [if_neg (by omega), if_neg e, toL_get P _ h]
  · rw [List.getElem?_eq_none (by rw [toL_len]; omega), List.getElem?_eq_none (by rw [List.length_set, toL_len]; omega)]
theorem toL_join (P : Nat) {a b : ViewV} (ha : ViewOk a) (hb : ViewOk b) : toL P (vJoin a b) = List.zipWith max (toL P a) (toL P b) := by
  refine List.ext_getElem? fun i => ?_
  by_cases h : i < P
  · rw [toL_get P _ h, List.getElem?_zipWith, toL_get P _ h, toL_get P _ h, vGet_join ha hb]
  · rw [List.getElem?_eq_none (by rw [toL_len]; omega), List.getElem?_eq_none (by simp [toL_len]; omega)]
theorem ref_views {M : MemM} {t : Int} (h : ThrB M t) : ∃ m : Nat, t = (m : Int) + 1 ∧ m < M.views.length ∧ (refOf M).views[m]? = some (toL M.places.length (seenM M t)) := by
  obtain ⟨m, e, hm, hv, _⟩ := thr_seen h
  exact ⟨m, e, hm, by simp [refOf, hv]⟩
theorem ref_msgs {M : MemM} {a : Int} (h : PlcB M a) : ∃ m : Nat, a = (m : Int) ∧ m < M.places.length ∧ (refOf M).msgs[m]? = some ((histM M a).map (refMsg M.places.length)) := by
  obtain ⟨m, e, hm, hv, _⟩ := plc_hist h
  exact ⟨m, e, hm, by simp [refOf, hv]⟩
theorem ref_len (M : MemM) : (refOf M).views.length = M.views.length ∧ (refOf M).msgs.length = M.places.length := by simp [refOf]
theorem ref_wrong (M : MemM) (t a : Int) : wrong4 (refOf M) t a = wrongM M t a := by
  unfold wrong4 wrongM
  obtain ⟨e1, e2⟩ := ref_len M
  rw [e1, e2]
  by_cases h1 : ThrB M t
  · rw [if_neg (by unfold ThrB at h1; omega), if_neg (Decidable.not_not.2 h1)]
    by_cases h2 : PlcB M a
    · rw [if_neg (by unfold PlcB at h2; omega), if_neg (Decidable.not_not.2 h2)]
    · rw [if_pos (by unfold PlcB at h2; omega), if_pos h2]
  · rw [if_pos (by unfold ThrB at h1; omega), if_pos h1]
theorem ref_with (M : MemM) (m : Nat) (v : ViewV) : refOf (withM M ((m : Int) + 1) v) = ⟨(refOf M).views.set m (toL M.places.length v), (refOf M).msgs⟩ := by
  have e : ((m : Int) + 1 - 1).toNat = m := by omega
  simp only [refOf, withM, e, List.map_set]
theorem ref_put (M : MemM) (a : Nat) (h : List MsgV) : refOf ⟨M.places.set a h, M.views⟩ = ⟨(refOf M).views, (refOf M).msgs.set a (h.map (refMsg M.places.length))⟩ := by
  simp only [refOf, List.length_set, List.map_set]

/-! ### The choice -/
def RCInv (n : Nat) (r : Nat) (m : Nat) (S : St) : Prop := ∃ i : Nat, i ≤ r ∧ m = r - i ∧ S = ⟨[(7, sI (r : Int)), (8, sI ((n : Int) - 1 - (i : Int))), (9, sI (i : Int))], [], 0⟩
set_option maxHeartbeats 2000000 in
theorem ok_rChoose (n : Nat) (f c : Int) (hn : n ≤ 100000) (h0 : 0 < n) (hf : 0 ≤ f ∧ f < n) : Ok 80 [sI n, sI f, sI c] (sI (chooseF n f c)) := by
  have e : chooseF n f c = ((n : Int) - 1) - (max c 0) % ((n : Int) - f) := by
    unfold chooseF
    rw [if_neg (by omega), show max 0 (min f ((n : Int) - 1)) = f by omega, show (n : Int) - 1 - f + 1 = n - f by omega]
  have hr1 := Int.emod_nonneg (max c 0) (show (n : Int) - f ≠ 0 by omega)
  have hr2 := Int.emod_lt_of_pos (max c 0) (show 0 < (n : Int) - f by omega)
  have q5 : (max c 0).tmod ((n : Int) - f) = (max c 0) % ((n : Int) - f) := Int.tmod_eq_emod_of_nonneg (by omega)
  obtain ⟨r, hr⟩ := Int.eq_ofNat_of_zero_le hr1
  rw [hr] at e q5 hr2
  have d0 : ((n : Int) == 0) = false := by simp; omega
  have d1 : ¬ f < 0 := by omega
  have d2 : ¬ (n : Int) ≤ f := by omega
  have q1 : IntKind.i64.wrap ((n : Int) - f) = (n : Int) - f := by rw [IntKind.wrap_i64]; omega
  have q2 : IntKind.i64.wrap ((n : Int) - 1) = (n : Int) - 1 := by rw [IntKind.wrap_i64]; omega
  have q3 : ¬ (n : Int) - f = 0 := by omega
  clear hr hr1
  rw [e]
  refine ok_of_tr Try.func80 tr_rChoose rfl ?_
  by_cases hc : c < 0
  · rw [show max c 0 = 0 by omega] at q5
    unfold evFn sc_rChoose rv_rChoose
    have F1 := And.intro @d0 (And.intro @d1 (And.intro @d2 (And.intro @q1 (And.intro @q2 (And.intro @q3 (And.intro @q5 @hc))))))
    refine ev_seq_k fun K1 hn1 hr1 he1 => ?_
    refine ev_ops_k fun K2 hk2 => ?_
    refine sh1 F1 ?_
    refine hk2 _ ?_
    refine hn1 (some ([0, 1, 2], none)) _ ?_
    refine ev_seq_k fun K3 hn3 hr3 he3 => ?_
    refine ev_seq_k fun K4 hn4 hr4 he4 => ?_
    refine ev_ops_k fun K5 hk5 => ?_
    refine sh1 F1 ?_
    refine sd ?_
    refine hk5 _ ?_
    refine hn4 (some ([0, 1, 2, 11], none)) _ ?_
    refine ev_cond_k rfl (fun hx => absurd hx (by simp at hx)) (fun hc0 => ?_)
    clear hc0
    refine hn3 (some ([0, 1, 2], none)) _ ?_
    refine ev_seq_k fun K6 hn6 hr6 he6 => ?_
    refine ev_seq_k fun K7 hn7 hr7 he7 => ?_
    refine ev_ops_k fun K8 hk8 => ?_
    refine sh1 F1 ?_
    refine sd ?_
    refine hk8 _ ?_
    refine hn7 (some ([0, 1, 2, 13], none)) _ ?_
    refine ev_cond_k rfl (fun hx => absurd hx (by simp at hx)) (fun hc1 => ?_)
    clear hc1
    refine hn6 (some ([0, 1, 2], none)) _ ?_
    refine ev_seq_k fun K9 hn9 hr9 he9 => ?_
    refine ev_seq_k fun K10 hn10 hr10 he10 => ?_
    refine ev_ops_k fun K11 hk11 => ?_
    refine sh1 F1 ?_
    refine sd ?_
    refine hk11 _ ?_
    refine hn10 (some ([0, 1, 2, 16], none)) _ ?_
    refine ev_cond_k rfl (fun hx => absurd hx (by simp at hx)) (fun hc2 => ?_)
    clear hc2
    refine hn9 (some ([0, 1, 2], none)) _ ?_
    refine ev_seq_k fun K12 hn12 hr12 he12 => ?_
    refine ev_seq_k fun K13 hn13 hr13 he13 => ?_
    refine ev_ops_k fun K14 hk14 => ?_
    refine sh1 F1 ?_
    refine sd ?_
    refine hk14 _ ?_
    refine hn13 (some ([0, 1, 2, 20], none)) _ ?_
    refine ev_cond_k rfl (fun hc3 => ?_) (fun hx => absurd hx (by simp at hx))
    clear hc3
    refine ev_ops_k fun K15 hk15 => ?_
    refine sh1 F1 ?_
    refine hk15 _ ?_
    refine hn12 (some ([0, 1, 2], none)) _ ?_
    refine ev_seq_k fun K16 hn16 hr16 he16 => ?_
    refine ev_ops_k fun K17 hk17 => ?_
    refine evL_take 4 fun K18 hk18 => ?_
    refine sh1 F1 ?_
    refine sd ?_
    refine hk18 _ ?_
    refine evL_take 1 fun K19 hk19 => ?_
    refine sh1 F1 ?_
    refine sd ?_
    refine hk19 _ ?_
    refine sh1 F1 ?_
    refine hk17 _ ?_
    refine hn16 (some ([0, 7], none)) _ ?_
    refine ev_seq_k fun K20 hn20 hr20 he20 => ?_
    refine ev_ops_k fun K21 hk21 => ?_
    refine evL_take 2 fun K22 hk22 => ?_
    refine sh1 F1 ?_
    refine sd ?_
    refine hk22 _ ?_
    refine sh1 F1 ?_
    refine hk21 _ ?_
    refine hn20 (some ([7, 8], none)) _ ?_
    refine ev_seq_k fun K23 hn23 hr23 he23 => ?_
    refine ev_seq_k fun K24 hn24 hr24 he24 => ?_
    refine ev_ops_k fun K25 hk25 => ?_
    refine sh1 F1 ?_
    refine hk25 _ ?_
    refine hn24 (some ([7, 8, 9], none)) _ ?_
    refine ev_block_k fun K26 hn26 hx26 hr26 he26 => ?_
    refine ev_loop_k (RCInv n r) (r) (some ([7, 8, 9], none)) ([]) ?_ ?_
    · try refine lp0 ?_
      exact ⟨0, by omega, by omega, by simp⟩
    · intro k S1 hI
      obtain ⟨i, hi, rfl, rfl⟩ := hI
      have hcase : i = r ∨ i < r := by omega
      intro K27 hn27 hr27 he27
      rcases hcase with hcc | hcc
      · skip
        subst hcc
        have w2 : ¬ (i : Int) < (i : Int) := by omega
        have F2 := And.intro F1 @w2
        refine ev_seq_k fun K28 hn28 hr28 he28 => ?_
        refine ev_seq_k fun K29 hn29 hr29 he29 => ?_
        refine ev_ops_k fun K30 hk30 => ?_
        refine sh1 F2 ?_
        refine sd ?_
        refine hk30 _ ?_
        refine hn29 (some ([7, 8, 9, 30], none)) _ ?_
        refine ev_cond_k rfl (fun hx => absurd hx (by simp at hx)) (fun hc4 => ?_)
        clear hc4
        refine he28 0 _ ?_
        refine he27 0 _ ?_
        refine hx26 _ ?_
        refine hn23 (some ([8], none)) _ ?_
        refine ev_seq_k fun K31 hn31 hr31 he31 => ?_
        refine ev_ops_k fun K32 hk32 => ?_
        refine sh1 F2 ?_
        refine hk32 _ ?_
        refine hn31 (some ([6], none)) _ ?_
        exact sf1 F2
      · skip
        skip
        have w2 : (i : Int) < (r : Int) := by omega
        have w3 : IntKind.i64.wrap ((i : Int) + 1) = ((i + 1 : Nat) : Int) := by rw [IntKind.wrap_i64]; omega
        have w4 : IntKind.i64.wrap ((n : Int) - 1 - (i : Int) - 1) = (n : Int) - 1 - ((i + 1 : Nat) : Int) := by rw [IntKind.wrap_i64]; omega
        have F3 := And.intro F1 (And.intro @w2 (And.intro @w3 @w4))
        refine ev_seq_k fun K33 hn33 hr33 he33 => ?_
        refine ev_seq_k fun K34 hn34 hr34 he34 => ?_
        refine ev_ops_k fun K35 hk35 => ?_
        refine sh1 F3 ?_
        refine sd ?_
        refine hk35 _ ?_
        refine hn34 (some ([7, 8, 9, 30], none)) _ ?_
        refine ev_cond_k rfl (fun hc4 => ?_) (fun hx => absurd hx (by simp at hx))
        clear hc4
        refine hn33 (some ([7, 8, 9], none)) _ ?_
        refine ev_seq_k fun K36 hn36 hr36 he36 => ?_
        refine ev_block_k fun K37 hn37 hx37 hr37 he37 => ?_
        refine ev_ops_k fun K38 hk38 => ?_
        refine evL_take 2 fun K39 hk39 => ?_
        refine sh1 F3 ?_
        refine sd ?_
        refine hk39 _ ?_
        refine sh1 F3 ?_
        refine hk38 _ ?_
        refine hn37 _ ?_
        refine hn36 (some ([7, 8, 9], none)) _ ?_
        refine ev_ops_k fun K40 hk40 => ?_
        refine evL_take 2 fun K41 hk41 => ?_
        refine sh1 F3 ?_
        refine sd ?_
        refine hk41 _ ?_
        refine sh1 F3 ?_
        refine hk40 _ ?_
        refine hn27 (r - (i + 1)) (some ([7, 8, 9], none)) _ ?_ ?_
        all_goals try refine lp0 ?_
        · omega
        · exact ⟨i + 1, by omega, by omega, rfl⟩
  · rw [show max c 0 = c by omega] at q5
    unfold evFn sc_rChoose rv_rChoose
    have F1 := And.intro @d0 (And.intro @d1 (And.intro @d2 (And.intro @q1 (And.intro @q2 (And.intro @q3 (And.intro @q5 @hc))))))
    refine ev_seq_k fun K1 hn1 hr1 he1 => ?_
    refine ev_ops_k fun K2 hk2 => ?_
    refine sh1 F1 ?_
    refine hk2 _ ?_
    refine hn1 (some ([0, 1, 2], none)) _ ?_
    refine ev_seq_k fun K3 hn3 hr3 he3 => ?_
    refine ev_seq_k fun K4 hn4 hr4 he4 => ?_
    refine ev_ops_k fun K5 hk5 => ?_
    refine sh1 F1 ?_
    refine sd ?_
    refine hk5 _ ?_
    refine hn4 (some ([0, 1, 2, 11], none)) _ ?_
    refine ev_cond_k rfl (fun hx => absurd hx (by simp at hx)) (fun hc0 => ?_)
    clear hc0
    refine hn3 (some ([0, 1, 2], none)) _ ?_
    refine ev_seq_k fun K6 hn6 hr6 he6 => ?_
    refine ev_seq_k fun K7 hn7 hr7 he7 => ?_
    refine ev_ops_k fun K8 hk8 => ?_
    refine sh1 F1 ?_
    refine sd ?_
    refine hk8 _ ?_
    refine hn7 (some ([0, 1, 2, 13], none)) _ ?_
    refine ev_cond_k rfl (fun hx => absurd hx (by simp at hx)) (fun hc1 => ?_)
    clear hc1
    refine hn6 (some ([0, 1, 2], none)) _ ?_
    refine ev_seq_k fun K9 hn9 hr9 he9 => ?_
    refine ev_seq_k fun K10 hn10 hr10 he10 => ?_
    refine ev_ops_k fun K11 hk11 => ?_
    refine sh1 F1 ?_
    refine sd ?_
    refine hk11 _ ?_
    refine hn10 (some ([0, 1, 2, 16], none)) _ ?_
    refine ev_cond_k rfl (fun hx => absurd hx (by simp at hx)) (fun hc2 => ?_)
    clear hc2
    refine hn9 (some ([0, 1, 2], none)) _ ?_
    refine ev_seq_k fun K12 hn12 hr12 he12 => ?_
    refine ev_seq_k fun K13 hn13 hr13 he13 => ?_
    refine ev_ops_k fun K14 hk14 => ?_
    refine sh1 F1 ?_
    refine sd ?_
    refine hk14 _ ?_
    refine hn13 (some ([0, 1, 2, 20], none)) _ ?_
    refine ev_cond_k rfl (fun hx => absurd hx (by simp at hx)) (fun hc3 => ?_)
    clear hc3
    refine hn12 (some ([0, 1, 2], none)) _ ?_
    refine ev_seq_k fun K15 hn15 hr15 he15 => ?_
    refine ev_ops_k fun K16 hk16 => ?_
    refine evL_take 4 fun K17 hk17 => ?_
    refine sh1 F1 ?_
    refine sd ?_
    refine hk17 _ ?_
    refine evL_take 1 fun K18 hk18 => ?_
    refine sh1 F1 ?_
    refine sd ?_
    refine hk18 _ ?_
    refine sh1 F1 ?_
    refine hk16 _ ?_
    refine hn15 (some ([0, 7], none)) _ ?_
    refine ev_seq_k fun K19 hn19 hr19 he19 => ?_
    refine ev_ops_k fun K20 hk20 => ?_
    refine evL_take 2 fun K21 hk21 => ?_
    refine sh1 F1 ?_
    refine sd ?_
    refine hk21 _ ?_
    refine sh1 F1 ?_
    refine hk20 _ ?_
    refine hn19 (some ([7, 8], none)) _ ?_
    refine ev_seq_k fun K22 hn22 hr22 he22 => ?_
    refine ev_seq_k fun K23 hn23 hr23 he23 => ?_
    refine ev_ops_k fun K24 hk24 => ?_
    refine sh1 F1 ?_
    refine hk24 _ ?_
    refine hn23 (some ([7, 8, 9], none)) _ ?_
    refine ev_block_k fun K25 hn25 hx25 hr25 he25 => ?_
    refine ev_loop_k (RCInv n r) (r) (some ([7, 8, 9], none)) ([]) ?_ ?_
    · try refine lp0 ?_
      exact ⟨0, by omega, by omega, by simp⟩
    · intro k S1 hI
      obtain ⟨i, hi, rfl, rfl⟩ := hI
      have hcase : i = r ∨ i < r := by omega
      intro K26 hn26 hr26 he26
      rcases hcase with hcc | hcc
      · skip
        subst hcc
        have w2 : ¬ (i : Int) < (i : Int) := by omega
        have F2 := And.intro F1 @w2
        refine ev_seq_k fun K27 hn27 hr27 he27 => ?_
        refine ev_seq_k fun K28 hn28 hr28 he28 => ?_
        refine ev_ops_k fun K29 hk29 => ?_
        refine sh1 F2 ?_
        refine sd ?_
        refine hk29 _ ?_
        refine hn28 (some ([7, 8, 9, 30], none)) _ ?_
        refine ev_cond_k rfl (fun hx => absurd hx (by simp at hx)) (fun hc4 => ?_)
        clear hc4
        refine he27 0 _ ?_
        refine he26 0 _ ?_
        refine hx25 _ ?_
        refine hn22 (some ([8], none)) _ ?_
        refine ev_seq_k fun K30 hn30 hr30 he30 => ?_
        refine ev_ops_k fun K31 hk31 => ?_
        refine sh1 F2 ?_
        refine hk31 _ ?_
        refine hn30 (some ([6], none)) _ ?_
        exact sf1 F2
      · skip
        skip
        have w2 : (i : Int) < (r : Int) := by omega
        have w3 : IntKind.i64.wrap ((i : Int) + 1) = ((i + 1 : Nat) : Int) := by rw [IntKind.wrap_i64]; omega
        have w4 : IntKind.i64.wrap ((n : Int) - 1 - (i : Int) - 1) = (n : Int) - 1 - ((i + 1 : Nat) : Int) := by rw [IntKind.wrap_i64]; omega
        have F3 := And.intro F1 (And.intro @w2 (And.intro @w3 @w4))
        refine ev_seq_k fun K32 hn32 hr32 he32 => ?_
        refine ev_seq_k fun K33 hn33 hr33 he33 => ?_
        refine ev_ops_k fun K34 hk34 => ?_
        refine sh1 F3 ?_
        refine sd ?_
        refine hk34 _ ?_
        refine hn33 (some ([7, 8, 9, 30], none)) _ ?_
        refine ev_cond_k rfl (fun hc4 => ?_) (fun hx => absurd hx (by simp at hx))
        clear hc4
        refine hn32 (some ([7, 8, 9], none)) _ ?_
        refine ev_seq_k fun K35 hn35 hr35 he35 => ?_
        refine ev_block_k fun K36 hn36 hx36 hr36 he36 => ?_
        refine ev_ops_k fun K37 hk37 => ?_
        refine evL_take 2 fun K38 hk38 => ?_
        refine sh1 F3 ?_
        refine sd ?_
        refine hk38 _ ?_
        refine sh1 F3 ?_
        refine hk37 _ ?_
        refine hn36 _ ?_
        refine hn35 (some ([7, 8, 9], none)) _ ?_
        refine ev_ops_k fun K39 hk39 => ?_
        refine evL_take 2 fun K40 hk40 => ?_
        refine sh1 F3 ?_
        refine sd ?_
        refine hk40 _ ?_
        refine sh1 F3 ?_
        refine hk39 _ ?_
        refine hn26 (r - (i + 1)) (some ([7, 8, 9], none)) _ ?_ ?_
        all_goals try refine lp0 ?_
        · omega
        · exact ⟨i + 1, by omega, by omega, rfl⟩
end Go.Proofs.Ytfcjkchpldfamaa

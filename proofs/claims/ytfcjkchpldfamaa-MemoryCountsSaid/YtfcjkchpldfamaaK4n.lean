/-
  MemoryPasses: what a message passes on (plain law), and the helper `has`.
-/
import Derived.Test.YtfcjkchpldfamaaK4i
namespace Go.Proofs.Ytfcjkchpldfamaa
set_option linter.unusedSimpArgs false
set_option linter.unusedVariables false
open Go.RowKit Go.Maps

def hasM (h : List MsgV) (w : WordV) : Bool := h.any fun m => weq m.word w
theorem hasM_false {h : List MsgV} {w : WordV} (hh : hasM h w = false) : ∀ m ∈ h, m.word ≠ w := fun m hm e => by
  have : hasM h w = true := List.any_eq_true.2 ⟨m, hm, weq_iff.2 e⟩
  rw [hh] at this; cases this
def HInv (h : List MsgV) (w : WordV) (m : Nat) (S : St) : Prop :=
  ∃ i, i ≤ h.length ∧ m = h.length - i ∧ hasM (h.take i) w = false ∧ S = ⟨[(5, .ptr 0 0 0), (7, .ptr 1 0 0), (9, sI i)], [(0, .box 29 (eWord w)), (1, .box 53 (ePlace h))], 2⟩
set_option maxHeartbeats 4000000 in
theorem ok_l4has (M : MemM) (p : Int) (w : WordV) {n : Nat} (hM : MemOk M n) (hn : n ≤ 100000) : Ok 29 [eMem M, sI p, .agg (eWord w)] (sB (hasM (histM M p) w)) := by
  refine ok_of_tr Try.func29 tr_l4has rfl ?_
  have hl := hist_len hM p
  have c0 := ok_mHistory M p
  generalize histM M p = h at hl c0 ⊢
  unfold evFn sc_l4has rv_l4has
  refine ev_seq_k fun K1 hn1 hr1 he1 => ?_
  refine ev_ops_k fun K2 hk2 => ?_
  refine sh0 ?_
  refine hk2 _ ?_
  refine hn1 (some ([1, 3, 5], none)) _ ?_
  refine ev_seq_k fun K3 hn3 hr3 he3 => ?_
  refine ev_ops_k fun K4 hk4 => ?_
  refine evL_take 1 fun K5 hk5 => ?_
  refine sh0 ?_
  refine sd ?_
  refine hk5 _ ?_
  refine evL_take 1 fun K6 hk6 => ?_
  refine sh0 ?_
  refine hk6 _ ?_
  refine evL_take 1 fun K7 hk7 => ?_
  refine sh0 ?_
  refine Or.inl (Or.inl ⟨_, c0, ?_⟩)
  refine hk7 _ ?_
  refine evL_take 5 fun K8 hk8 => ?_
  refine sh0 ?_
  refine sd ?_
  refine hk8 _ ?_
  refine sh0 ?_
  refine hk4 _ ?_
  refine hn3 (some ([5, 7], none)) _ ?_
  refine ev_seq_k fun K9 hn9 hr9 he9 => ?_
  refine ev_seq_k fun K10 hn10 hr10 he10 => ?_
  refine ev_ops_k fun K11 hk11 => ?_
  refine sh0 ?_
  refine hk11 _ ?_
  refine hn10 (some ([5, 7, 9], none)) _ ?_
  refine ev_block_k fun K12 hn12 hx12 hr12 he12 => ?_
  refine ev_loop_k (HInv h w) (h.length) (some ([5, 7, 9], some ([1, 2], 2))) ([]) ?_ ?_
  · try refine lp0 ?_
    exact ⟨0, by omega, by omega, by simp [hasM], rfl⟩
  · intro k S1 hI
    obtain ⟨i, hi, rfl, hno, rfl⟩ := hI
    have hcase : i = h.length ∨ (∃ x, h[i]? = some x ∧ weq x.word w = true) ∨ ∃ x, h[i]? = some x ∧ weq x.word w = false := by
      rcases Nat.lt_or_ge i h.length with hl1 | hl1
      · cases e : weq (h[i]).word w
        · exact .inr (.inr ⟨h[i], by simp, e⟩)
        · exact .inr (.inl ⟨h[i], by simp, e⟩)
      · exact .inl (by omega)
    intro K13 hn13 hr13 he13
    rcases hcase with hc | ⟨x, hx0, hw⟩ | ⟨x, hx0, hw⟩
    · skip
      subst hc
      have d2 : ¬ (h.length : Int) < (h.length : Int) := by omega
      have d3 : hasM h w = false := by rwa [List.take_length] at hno
      have F1 := And.intro @d2 @d3
      refine ev_seq_k fun K14 hn14 hr14 he14 => ?_
      refine ev_seq_k fun K15 hn15 hr15 he15 => ?_
      refine ev_ops_k fun K16 hk16 => ?_
      refine evL_take 2 fun K17 hk17 => ?_
      refine sh1 F1 ?_
      refine sd ?_
      refine hk17 _ ?_
      refine evL_take 1 fun K18 hk18 => ?_
      refine sh1 F1 ?_
      refine Or.inl (Or.inl ⟨_, ok_hLen h, ?_⟩)
      refine hk18 _ ?_
      refine sh1 F1 ?_
      refine sd ?_
      refine hk16 _ ?_
      refine hn15 (some ([5, 7, 9, 21], none)) _ ?_
      refine ev_cond_k rfl (fun hx => absurd hx (by simp at hx)) (fun hc0 => ?_)
      clear hc0
      refine he14 0 _ ?_
      refine he13 0 _ ?_
      refine hx12 _ ?_
      refine hn9 (some ([], none)) _ ?_
      refine ev_seq_k fun K19 hn19 hr19 he19 => ?_
      refine ev_ops_k fun K20 hk20 => ?_
      refine sh1 F1 ?_
      refine hk20 _ ?_
      refine hn19 (some ([6], none)) _ ?_
      exact sf1 F1
    · skip
      have d2 : (i : Int) < (h.length : Int) := by have := (List.getElem?_eq_some_iff.1 hx0).1; omega
      have d3 : hasM h w = true := List.any_eq_true.2 ⟨x, List.mem_of_getElem? hx0, hw⟩
      have c2 := ok_hAt h i
      rw [show atM h i = x by unfold atM; rw [if_pos (by omega), Int.toNat_natCast, hx0]; rfl] at c2
      have hE : EqSh 29 (.agg (eWord x.word)) (.agg (eWord w)) true := by rw [← hw]; exact eqsh_word _ _
      have F2 := And.intro @d2 @d3
      refine ev_seq_k fun K21 hn21 hr21 he21 => ?_
      refine ev_seq_k fun K22 hn22 hr22 he22 => ?_
      refine ev_ops_k fun K23 hk23 => ?_
      refine evL_take 2 fun K24 hk24 => ?_
      refine sh1 F2 ?_
      refine sd ?_
      refine hk24 _ ?_
      refine evL_take 1 fun K25 hk25 => ?_
      refine sh1 F2 ?_
      refine Or.inl (Or.inl ⟨_, ok_hLen h, ?_⟩)
      refine hk25 _ ?_
      refine sh1 F2 ?_
      refine sd ?_
      refine hk23 _ ?_
      refine hn22 (some ([5, 7, 9, 21], none)) _ ?_
      refine ev_cond_k rfl (fun hc0 => ?_) (fun hx => absurd hx (by simp at hx))
      clear hc0
      refine hn21 (some ([5, 7, 9], none)) _ ?_
      refine ev_seq_k fun K26 hn26 hr26 he26 => ?_
      refine ev_block_k fun K27 hn27 hx27 hr27 he27 => ?_
      refine ev_seq_k fun K28 hn28 hr28 he28 => ?_
      refine ev_ops_k fun K29 hk29 => ?_
      refine evL_take 1 fun K30 hk30 => ?_
      refine sh1 F2 ?_
      refine sd ?_
      refine hk30 _ ?_
      refine evL_take 1 fun K31 hk31 => ?_
      refine sh1 F2 ?_
      refine hk31 _ ?_
      refine evL_take 1 fun K32 hk32 => ?_
      refine sh1 F2 ?_
      refine Or.inl (Or.inl ⟨_, c2, ?_⟩)
      refine hk32 _ ?_
      refine evL_take 5 fun K33 hk33 => ?_
      refine sh1 F2 ?_
      refine sd ?_
      refine hk33 _ ?_
      refine sh1 F2 ?_
      refine hk29 _ ?_
      refine hn28 (some ([5, 7, 9, 10], none)) _ ?_
      refine ev_seq_k fun K34 hn34 hr34 he34 => ?_
      refine ev_ops_k fun K35 hk35 => ?_
      refine evL_take 2 fun K36 hk36 => ?_
      refine sh1 F2 ?_
      refine sd ?_
      refine hk36 _ ?_
      refine evL_take 1 fun K37 hk37 => ?_
      refine sh1 F2 ?_
      refine sd ?_
      refine hk37 _ ?_
      refine sh1 F2 ?_
      refine Or.inl ⟨_, hE, ?_⟩
      refine hk35 _ ?_
      refine hn34 (some ([5, 7, 9, 33], none)) _ ?_
      refine ev_cond_k rfl (fun hc1 => ?_) (fun hx => absurd hx (by simp at hx))
      clear hc1
      refine ev_seq_k fun K38 hn38 hr38 he38 => ?_
      refine ev_ops_k fun K39 hk39 => ?_
      refine sh1 F2 ?_
      refine hk39 _ ?_
      refine hn38 (some ([6], none)) _ ?_
      refine hr27 _ ?_
      refine hr26 _ ?_
      refine hr13 _ ?_
      refine hr12 _ ?_
      refine hr9 _ ?_
      exact sf1 F2
    · skip
      have d2 : (i : Int) < (h.length : Int) := by have := (List.getElem?_eq_some_iff.1 hx0).1; omega
      have c2 := ok_hAt h i
      rw [show atM h i = x by unfold atM; rw [if_pos (by omega), Int.toNat_natCast, hx0]; rfl] at c2
      have hE : EqSh 29 (.agg (eWord x.word)) (.agg (eWord w)) false := by rw [← hw]; exact eqsh_word _ _
      have q2 : IntKind.i64.wrap ((i : Int) + 1) = ((i + 1 : Nat) : Int) := by rw [IntKind.wrap_i64]; omega
      have F3 := And.intro @d2 @q2
      refine ev_seq_k fun K40 hn40 hr40 he40 => ?_
      refine ev_seq_k fun K41 hn41 hr41 he41 => ?_
      refine ev_ops_k fun K42 hk42 => ?_
      refine evL_take 2 fun K43 hk43 => ?_
      refine sh1 F3 ?_
      refine sd ?_
      refine hk43 _ ?_
      refine evL_take 1 fun K44 hk44 => ?_
      refine sh1 F3 ?_
      refine Or.inl (Or.inl ⟨_, ok_hLen h, ?_⟩)
      refine hk44 _ ?_
      refine sh1 F3 ?_
      refine sd ?_
      refine hk42 _ ?_
      refine hn41 (some ([5, 7, 9, 21], none)) _ ?_
      refine ev_cond_k rfl (fun hc0 => ?_) (fun hx => absurd hx (by simp at hx))
      clear hc0
      refine hn40 (some ([5, 7, 9], none)) _ ?_
      refine ev_seq_k fun K45 hn45 hr45 he45 => ?_
      refine ev_block_k fun K46 hn46 hx46 hr46 he46 => ?_
      refine ev_seq_k fun K47 hn47 hr47 he47 => ?_
      refine ev_ops_k fun K48 hk48 => ?_
      refine evL_take 1 fun K49 hk49 => ?_
      refine sh1 F3 ?_
      refine sd ?_
      refine hk49 _ ?_
      refine evL_take 1 fun K50 hk50 => ?_
      refine sh1 F3 ?_
      refine hk50 _ ?_
      refine evL_take 1 fun K51 hk51 => ?_
      refine sh1 F3 ?_
      refine Or.inl (Or.inl ⟨_, c2, ?_⟩)
      refine hk51 _ ?_
      refine evL_take 5 fun K52 hk52 => ?_
      refine sh1 F3 ?_
      refine sd ?_
      refine hk52 _ ?_
      refine sh1 F3 ?_
      refine hk48 _ ?_
      refine hn47 (some ([5, 7, 9, 10], none)) _ ?_
      refine ev_seq_k fun K53 hn53 hr53 he53 => ?_
      refine ev_ops_k fun K54 hk54 => ?_
      refine evL_take 2 fun K55 hk55 => ?_
      refine sh1 F3 ?_
      refine sd ?_
      refine hk55 _ ?_
      refine evL_take 1 fun K56 hk56 => ?_
      refine sh1 F3 ?_
      refine sd ?_
      refine hk56 _ ?_
      refine sh1 F3 ?_
      refine Or.inl ⟨_, hE, ?_⟩
      refine hk54 _ ?_
      refine hn53 (some ([5, 7, 9, 33], none)) _ ?_
      refine ev_cond_k rfl (fun hx => absurd hx (by simp at hx)) (fun hc1 => ?_)
      clear hc1
      refine hn46 _ ?_
      refine hn45 (some ([5, 7, 9], none)) _ ?_
      refine ev_ops_k fun K57 hk57 => ?_
      refine evL_take 2 fun K58 hk58 => ?_
      refine sh1 F3 ?_
      refine sd ?_
      refine hk58 _ ?_
      refine sh1 F3 ?_
      refine hk57 _ ?_
      refine hn13 (h.length - (i + 1)) (some ([5, 7, 9], some ([0, 1], 2))) _ ?_ ?_
      all_goals try refine lp0 ?_
      · omega
      · refine ⟨i + 1, by omega, by omega, ?_, rfl⟩
        unfold hasM at hno ⊢
        rw [List.take_add_one, hx0, List.any_append, hno]
        simp [hw]

/-! ### Plain law -/
theorem load_word {M : MemM} {t a : Int} (ht : ThrB M t) (ha : PlcB M a) (q : Bool) (c : Int) : (loadM M t a q c).2 = ((atM (histM M a) (chooseF (histM M a).length (vGet (seenM M t) a) c)).word, 0) := by
  unfold loadM; rw [if_pos (wrong_zero.2 ⟨ht, ha⟩)]; rfl
theorem load_new {M : MemM} {n : Nat} (h : MemOk M n) {t a : Int} (ht : ThrB M t) (ha : PlcB M a) (hv : ((histM M a).length : Int) ≤ vGet (seenM M t) a + 1) (q : Bool) (c : Int) : (loadM M t a q c).2 = (lastWM M a, 0) := by
  rw [load_word ht ha]
  have hp := hist_pos h ha
  obtain ⟨h1, h2⟩ := chooseF_le hp (vGet (seenM M t) a) c
  have : chooseF (histM M a).length (vGet (seenM M t) a) c = ((histM M a).length : Int) - 1 := by omega
  rw [this]; rfl
theorem load_hist (M : MemM) (t a : Int) (q : Bool) (c p : Int) : histM (loadM M t a q c).1 p = histM M p := by
  unfold loadM; split
  · exact hist_finds _ _ _ _ _ _
  · rfl
theorem size_load (M : MemM) (t a : Int) (q : Bool) (c : Int) : (loadM M t a q c).1.views.length = M.views.length ∧ (loadM M t a q c).1.places = M.places := by
  unfold loadM; split
  · exact size_finds _ _ _ _ _
  · exact ⟨rfl, rfl⟩
/-- A message with the last word of a place, where no earlier one has it, is the last one. -/
theorem at_last {h : List MsgV} {x : MsgV} (hn : hasM h x.word = false) {i : Int} (h0 : 0 ≤ i) (h1 : i ≤ (h.length : Int)) (hw : (atM (h ++ [x]) i).word = x.word) : atM (h ++ [x]) i = x := by
  rw [at_app] at hw ⊢
  by_cases e : i = (h.length : Int)
  · rw [if_pos e]
  · rw [if_neg e] at hw
    obtain ⟨k, rfl⟩ := Int.eq_ofNat_of_zero_le h0
    have hk : k < h.length := by omega
    refine absurd hw (hasM_false hn _ ?_)
    unfold atM
    rw [if_pos h0, Int.toNat_natCast, List.getElem?_eq_getElem hk]
    exact List.getElem_mem hk
theorem load_passes {M : MemM} {n : Nat} (hM : MemOk M n) {t a : Int} (ht : ThrB M t) (ha : PlcB M a) {h : List MsgV} {x : MsgV} (hh : histM M a = h ++ [x]) (hn : hasM h x.word = false) (c : Int) (hw : (loadM M t a true c).2.1 = x.word) (p : Int) : vGet x.view p ≤ vGet (seenM (loadM M t a true c).1 t) p := by
  rw [load_word ht ha] at hw
  obtain ⟨h1, h2⟩ := chooseF_le (hist_pos hM ha) (vGet (seenM M t) a) c
  unfold loadM
  rw [if_pos (wrong_zero.2 ⟨ht, ha⟩)]
  show _ ≤ vGet (seenM (findsM M t a (chooseF (histM M a).length (vGet (seenM M t) a) c) true).1 t) p
  rw [seen_finds ht, if_pos rfl, get_read hM t a _ true ha]
  generalize chooseF (histM M a).length (vGet (seenM M t) a) c = i at *
  simp only [hh] at hw h2 ⊢
  rw [at_last hn (by omega) (by simp at h2; omega) hw]
  simp only [if_true]
  omega
theorem look_passes {M : MemM} {n : Nat} (hM : MemOk M n) {t a : Int} (ht : ThrB M t) (ha : PlcB M a) {h : List MsgV} {x : MsgV} (hh : histM M a = h ++ [x]) (p : Int) : vGet x.view p ≤ vGet (seenM (look1M M t a).1 t) p := by
  unfold look1M
  rw [if_pos (wrong_zero.2 ⟨ht, ha⟩)]
  show _ ≤ vGet (seenM (findsM M t a (((histM M a).length : Int) - 1) true).1 t) p
  rw [seen_finds ht, if_pos rfl, get_read hM t a _ true ha]
  have e : atM (histM M a) (((histM M a).length : Int) - 1) = x := by rw [hh]; exact last_app h x
  rw [e]
  simp only [if_true]
  omega
theorem store_eq {M : MemM} {t a : Int} (ht : ThrB M t) (ha : PlcB M a) (w : WordV) (b : Bool) : mstoreM M t a w b = (addsM M t a w b, 0) := by
  unfold mstoreM; rw [if_pos (wrong_zero.2 ⟨ht, ha⟩)]
theorem swap_eq {M : MemM} {t a : Int} (ht : ThrB M t) (ha : PlcB M a) (w : WordV) : mswapM M t a (lastWM M a) w = (addsM (look1M M t a).1 t a w true, lastWM M a, true, 0) := by
  unfold mswapM
  rw [if_pos ⟨wrong_zero.2 ⟨ht, ha⟩, by rw [look_word ht ha]; exact weq_self _⟩, look_word ht ha]
abbrev flagW : WordV := ⟨77, 1073741824, 0⟩
abbrev keyW : WordV := ⟨78, 1073741824, 0⟩
noncomputable def pm1 (M : MemM) (w : WordV) : MemM := addsM M 1 0 w false
noncomputable def pm2 (M : MemM) (w : WordV) : MemM := addsM (pm1 M w) 1 1 flagW true
/-- After both stores. -/
structure Pass (M0 M : MemM) (w : WordV) (x : MsgV) : Prop where
  thr : M.views.length = M0.views.length
  plc : M.places.length = M0.places.length
  hist0 : (histM M 0).length = (histM M0 0).length + 1
  last0 : lastWM M 0 = w
  hist1 : histM M 1 = histM M0 1 ++ [x]
  word1 : x.word = flagW
  view1 : ((histM M0 0).length : Int) ≤ vGet x.view 0
  hist2 : histM M 2 = histM M0 2
theorem pass_two {M : MemM} {n : Nat} (hM : MemOk M n) (hv : 3 ≤ M.views.length) (hp : 3 ≤ M.places.length) (w : WordV) : ∃ x, Pass M (pm2 M w) w x := by
  have t1 : ThrB M 1 := ⟨by omega, by omega⟩
  have a0 : PlcB M 0 := ⟨by omega, by omega⟩
  have a1 : PlcB M 1 := ⟨by omega, by omega⟩
  have s1 := size_adds M 1 0 w false
  have t1' : ThrB (pm1 M w) 1 := ⟨by omega, by unfold pm1; omega⟩
  have a1' : PlcB (pm1 M w) 1 := ⟨by omega, by unfold pm1; omega⟩
  have s2 := size_adds (pm1 M w) 1 1 flagW true
  have hM1 : MemOk (pm1 M w) (n + 1) := memOk_adds hM 1 0 w false
  have h0 : histM (pm2 M w) 0 = histM M 0 ++ [⟨w, 1, toldM M 1 0 false⟩] := by
    unfold pm2; rw [hist_adds a1', if_neg (by decide)]; unfold pm1; rw [hist_adds a0, if_pos rfl]
  have h1 : histM (pm2 M w) 1 = histM M 1 ++ [⟨flagW, 1, toldM (pm1 M w) 1 1 true⟩] := by
    unfold pm2; rw [hist_adds a1', if_pos rfl]
    rw [show histM (pm1 M w) 1 = histM M 1 by unfold pm1; rw [hist_adds a0, if_neg (by decide)]]
  have h2 : histM (pm2 M w) 2 = histM M 2 := by
    unfold pm2; rw [hist_adds a1', if_neg (by decide)]; unfold pm1; rw [hist_adds a0, if_neg (by decide)]
  refine ⟨_, ?_, ?_, by rw [h0]; simp, by unfold lastWM; rw [h0, last_app], h1, rfl, ?_, h2⟩
  · unfold pm2; rw [s2.1]; exact s1.1
  · unfold pm2; rw [s2.2]; exact s1.2
  · show _ ≤ vGet (toldM (pm1 M w) 1 1 true) 0
    rw [get_told hM1 1 1 true a1', if_neg (by decide), if_pos rfl]
    unfold pm1
    rw [seen_adds t1, if_pos rfl, vGet_with _ _ _ _ (by omega) (by omega), if_pos rfl]
    omega
/-- A thread that has taken the flag, or the key, knows the stored word. -/
theorem pass_look {M0 M : MemM} {w : WordV} {x : MsgV} {n : Nat} (hM : MemOk M n) (hP : Pass M0 M w x) (hv : 3 ≤ M0.views.length) (hp : 3 ≤ M0.places.length) :
    (look1M M 2 1).2 = (flagW, 0) ∧ Pass M0 (look1M M 2 1).1 w x ∧ ((histM M0 0).length : Int) ≤ vGet (seenM (look1M M 2 1).1 2) 0 := by
  have hs := size_look M 2 1
  have ht : ThrB M 2 := ⟨by omega, by rw [hP.thr]; omega⟩
  have ha : PlcB M 1 := ⟨by omega, by rw [hP.plc]; omega⟩
  refine ⟨?_, ⟨by rw [hs.1]; exact hP.thr, by rw [hs.2]; exact hP.plc, by rw [look_hist]; exact hP.hist0, by rw [lastW_look]; exact hP.last0, by rw [look_hist]; exact hP.hist1, hP.word1, hP.view1, by rw [look_hist]; exact hP.hist2⟩, ?_⟩
  · rw [look_word ht ha]; unfold lastWM; rw [hP.hist1, last_app, hP.word1]
  · exact Int.le_trans hP.view1 (look_passes hM ht ha hP.hist1 0)
theorem pass_load {M0 M : MemM} {w : WordV} {x : MsgV} {n : Nat} (hM : MemOk M n) (hP : Pass M0 M w x) (hv : 3 ≤ M0.views.length) (hp : 3 ≤ M0.places.length) (hn : hasM (histM M0 1) flagW = false) (c : Int) :
    (loadM M 2 1 true c).2.2 = 0 ∧ Pass M0 (loadM M 2 1 true c).1 w x ∧ ((loadM M 2 1 true c).2.1 = flagW → ((histM M0 0).length : Int) ≤ vGet (seenM (loadM M 2 1 true c).1 2) 0) := by
  have hs := size_load M 2 1 true c
  have ht : ThrB M 2 := ⟨by omega, by rw [hP.thr]; omega⟩
  have ha : PlcB M 1 := ⟨by omega, by rw [hP.plc]; omega⟩
  refine ⟨by rw [load_word ht ha], ⟨by rw [hs.1]; exact hP.thr, by rw [hs.2]; exact hP.plc, by rw [load_hist]; exact hP.hist0, by unfold lastWM; rw [load_hist]; exact hP.last0, by rw [load_hist]; exact hP.hist1, hP.word1, hP.view1, by rw [load_hist]; exact hP.hist2⟩, fun hw => ?_⟩
  exact Int.le_trans hP.view1 (load_passes hM ht ha hP.hist1 (by rw [hP.word1]; exact hn) c (by rw [hP.word1]; exact hw) 0)
noncomputable def pm4 (M : MemM) : MemM := addsM (look1M M 2 2).1 2 2 keyW true
theorem pass_on {M0 M : MemM} {w : WordV} {x : MsgV} {n : Nat} (hM : MemOk M n) (hP : Pass M0 M w x) (hv : 3 ≤ M0.views.length) (hp : 3 ≤ M0.places.length) (hk : hasM (histM M0 2) keyW = false) (hs : ((histM M0 0).length : Int) ≤ vGet (seenM M 2) 0) (b thr c : Int) :
    (loadM M 2 0 false b).2 = (w, 0) ∧ mswapM M 2 2 (lastWM M 2) keyW = (pm4 M, lastWM M 2, true, 0) ∧ (loadM (pm4 M) 3 2 true thr).2.2 = 0 ∧
    ((loadM (pm4 M) 3 2 true thr).2.1 = keyW → (loadM (loadM (pm4 M) 3 2 true thr).1 3 0 false c).2 = (w, 0)) := by
  have t2 : ThrB M 2 := ⟨by omega, by rw [hP.thr]; omega⟩
  have a0 : PlcB M 0 := ⟨by omega, by rw [hP.plc]; omega⟩
  have a2 : PlcB M 2 := ⟨by omega, by rw [hP.plc]; omega⟩
  have hQ := memOk_look hM 2 2
  have t2q : ThrB (look1M M 2 2).1 2 := thr_look.2 t2
  have a2q : PlcB (look1M M 2 2).1 2 := plc_look.2 a2
  have s4 := size_adds (look1M M 2 2).1 2 2 keyW true
  have sl := size_look M 2 2
  have h4 : MemOk (pm4 M) (n + 1) := memOk_adds hQ 2 2 keyW true
  have t3 : ThrB (pm4 M) 3 := ⟨by omega, by unfold pm4; rw [s4.1, sl.1, hP.thr]; omega⟩
  have a24 : PlcB (pm4 M) 2 := ⟨by omega, by unfold pm4; rw [s4.2, sl.2, hP.plc]; omega⟩
  have h2 : histM (pm4 M) 2 = histM M0 2 ++ [⟨keyW, 2, toldM (look1M M 2 2).1 2 2 true⟩] := by
    unfold pm4; rw [hist_adds a2q, if_pos rfl, look_hist, hP.hist2]
  have h0 : histM (pm4 M) 0 = histM M 0 := by
    unfold pm4; rw [hist_adds a2q, if_neg (by decide), look_hist]
  refine ⟨?_, swap_eq t2 a2 keyW, by rw [load_word t3 a24], fun hw => ?_⟩
  · rw [load_new hM t2 a0 (by rw [hP.hist0]; omega), hP.last0]
  · have hp3 := load_passes h4 t3 a24 h2 hk thr hw 0
    have hm := memOk_load h4 3 2 true thr
    have sl3 := size_load (pm4 M) 3 2 true thr
    have t3' : ThrB (loadM (pm4 M) 3 2 true thr).1 3 := ⟨t3.1, by rw [sl3.1]; exact t3.2⟩
    have a0' : PlcB (loadM (pm4 M) 3 2 true thr).1 0 := ⟨by omega, by rw [sl3.2]; have := a24.2; omega⟩
    have hl : vGet (toldM (look1M M 2 2).1 2 2 true) 0 = vGet (seenM (look1M M 2 2).1 2) 0 := by
      rw [get_told hQ 2 2 true a2q, if_neg (by decide), if_pos rfl]
    have hl2 := (coh_look hM 2 2).seen 2 0
    rw [load_new hm t3' a0' (by rw [load_hist, h0, hP.hist0]; simp only at hp3; omega)]
    unfold lastWM
    rw [load_hist, h0]
    exact congrArg (·, (0 : Int)) hP.last0
end Go.Proofs.Ytfcjkchpldfamaa

/-
  TaskStops, by shadows.
-/
import Derived.Test.YtcbdgnjdpfgobaaK8k
import Derived.Test.YtcbdgnjdpfgobaaScTaskStops
import Derived.Test.YtcbdgnjdpfgobaaMC
namespace Go.Proofs.Ytcbdgnjdpfgobaa
set_option linter.unusedSimpArgs false
set_option linter.unusedVariables false
open Go.RowKit Go.Maps

theorem step_keep {C : Coder} {w : WorldM C} {n : Nat} (h : WorldOk w n) {p : PickV} (hp : p.kind ≠ 2) : (stepM w p).1.tasks.length = w.tasks.length ∧ (stepM w p).1.m.mem.views.length = w.m.mem.views.length := by
  unfold stepM
  split
  · exact ⟨rfl, rfl⟩
  · try rw [if_neg hp]
    split
    · exact ⟨rfl, rfl⟩
    · split
      · unfold goM
        split
        · rename_i y _
          exact ⟨by simp [setTask], (size_do h.mach _ _ _).1⟩
        · exact ⟨rfl, rfl⟩
      · split
        · exact ⟨rfl, rfl⟩
        · exact ⟨rfl, rfl⟩
/-- The picks without crashes. -/
def noCr (l : List PickV) : List PickV := l.filter fun p => p.kind != 2
theorem runN_keep {C : Coder} : ∀ (l : List PickV) {w : WorldM C} {n : Nat}, WorldOk w n → (runW w (noCr l)).tasks.length = w.tasks.length ∧ (runW w (noCr l)).m.mem.views.length = w.m.mem.views.length
  | [], _, _, _ => ⟨rfl, rfl⟩
  | p :: l, w, n, h => by
    unfold noCr
    rw [List.filter_cons]
    by_cases hp : p.kind = 2
    · rw [if_neg (by simpa using hp)]
      exact runN_keep l h
    · rw [if_pos (by simpa using hp)]
      have hk := step_keep h hp
      have := runN_keep l (stepOk h p)
      exact ⟨this.1.trans hk.1, this.2.trans hk.2⟩
theorem noCr_len (l : List PickV) : (noCr l).length ≤ l.length := List.length_filter_le _ _
theorem noCr_succ {l : List PickV} {i : Nat} {p : PickV} (h : l[i]? = some p) : noCr (l.take (i + 1)) = noCr (l.take i) ++ (if p.kind = 2 then [] else [p]) := by
  unfold noCr
  rw [List.take_add_one, h, Option.toList_some, List.filter_append]
  congr 1
  by_cases hp : p.kind = 2
  · simp [hp]
  · simp [hp]
def TsInv (W : WorldM scr) (l : List (List ActM)) (ps : List PickV) (n : Int) (bb : Bool) (k : Nat) (S : St) : Prop :=
  ∃ i : Nat, i ≤ ps.length ∧ k = ps.length - i ∧ S = ⟨[(0, .sl 1 2 (l.map eA1)), (1, .sl 3 2 (ps.map ePick)), (7, .ptr 0 0 0), (10, sI n), (11, sI i)], [(0, boxW (runW W (noCr (ps.take i))))], 1⟩
def TsInv2 (V X : WorldM scr) (l : List (List ActM)) (n : Int) (k : Nat) (S : St) : Prop :=
  ∃ i : Nat, i ≤ l.length ∧ k = l.length - i ∧ S = ⟨[(0, .sl 1 2 (l.map eA1)), (7, .ptr 0 0 0), (10, sI n), (14, .ptr 1 0 0), (20, sI i)], [(0, boxW V), (1, boxW X)], 2⟩
set_option maxHeartbeats 8000000 in
theorem ok_TaskStops (l : List (List ActM)) (ps : List PickV) (t : Int) (hl : l.length ≤ 9223372036854775807) (ht : IntKind.u8.min ≤ t ∧ t ≤ IntKind.u8.max) : Ok 7 [.sl 1 2 (l.map eA1), .sl 3 2 (ps.map ePick), .v (.int .u8 t)] (sB true) := by
  refine ok_of_tr Try.func7 tr_TaskStops rfl ?_
  have ka := ok_l8awake
  by_cases hs : Small l ps
  case neg =>
    have k0 := ok_great_yes 2 l 2 ps hs hl
    unfold evFn sc_TaskStops rv_TaskStops
    refine ev_seq_k fun K1 hn1 hr1 he1 => ?_
    refine ev_ops_k fun K2 hk2 => ?_
    refine sh0 ?_
    refine hk2 _ ?_
    refine hn1 (some ([0, 1, 2], none)) _ ?_
    refine ev_seq_k fun K3 hn3 hr3 he3 => ?_
    refine ev_seq_k fun K4 hn4 hr4 he4 => ?_
    refine ev_ops_k fun K5 hk5 => ?_
    refine evL_take 2 fun K6 hk6 => ?_
    refine sh0 ?_
    refine hk6 _ ?_
    refine evL_take 1 fun K7 hk7 => ?_
    refine sh0 ?_
    refine Or.inl (Or.inl ⟨_, k0, ?_⟩)
    refine hk7 _ ?_
    refine evL_take 4 fun K8 hk8 => ?_
    refine sh0 ?_
    refine sd ?_
    refine hk8 _ ?_
    refine sh0 ?_
    refine hk5 _ ?_
    refine hn4 (some ([0, 1, 2, 28], none)) _ ?_
    refine ev_cond_k rfl (fun hc0 => ?_) (fun hx => absurd hx (by simp at hx))
    clear hc0
    refine ev_seq_k fun K9 hn9 hr9 he9 => ?_
    refine ev_ops_k fun K10 hk10 => ?_
    refine evL_take 1 fun K11 hk11 => ?_
    refine sh0 ?_
    refine Or.inl (Or.inl ⟨_, ka, ?_⟩)
    refine hk11 _ ?_
    refine sh0 ?_
    refine hk10 _ ?_
    refine hn9 (some ([6], none)) _ ?_
    refine hr3 _ ?_
    exact sf0
  have k0 := ok_great_no 2 l 2 ps hs
  obtain ⟨_, hl4, hp4⟩ := hs
  by_cases hz : l.length = 0
  · have hz' : l = [] := List.eq_nil_of_length_eq_zero hz
    subst hz'
    unfold evFn sc_TaskStops rv_TaskStops
    refine ev_seq_k fun K1 hn1 hr1 he1 => ?_
    refine ev_ops_k fun K2 hk2 => ?_
    refine sh0 ?_
    refine hk2 _ ?_
    refine hn1 (some ([0, 1, 2], none)) _ ?_
    refine ev_seq_k fun K3 hn3 hr3 he3 => ?_
    refine ev_seq_k fun K4 hn4 hr4 he4 => ?_
    refine ev_ops_k fun K5 hk5 => ?_
    refine evL_take 2 fun K6 hk6 => ?_
    refine sh0 ?_
    refine hk6 _ ?_
    refine evL_take 1 fun K7 hk7 => ?_
    refine sh0 ?_
    refine Or.inl (Or.inl ⟨_, k0, ?_⟩)
    refine hk7 _ ?_
    refine evL_take 4 fun K8 hk8 => ?_
    refine sh0 ?_
    refine sd ?_
    refine hk8 _ ?_
    refine sh0 ?_
    refine hk5 _ ?_
    refine hn4 (some ([0, 1, 2, 28], none)) _ ?_
    refine ev_cond_k rfl (fun hc0 => ?_) (fun hx => absurd hx (by simp at hx))
    clear hc0
    refine ev_seq_k fun K9 hn9 hr9 he9 => ?_
    refine ev_ops_k fun K10 hk10 => ?_
    refine evL_take 1 fun K11 hk11 => ?_
    refine sh0 ?_
    refine Or.inl (Or.inl ⟨_, ka, ?_⟩)
    refine hk11 _ ?_
    refine sh0 ?_
    refine hk10 _ ?_
    refine hn9 (some ([6], none)) _ ?_
    refine hr3 _ ?_
    exact sf0
  have hK := shK scr
  have k2 := ok_l8made 2 l hl4
  have hW := madeW_ok l hl4
  have hC := madeW_cod l
  have hWl := madeW_len l hl4
  have hWv : (madeW l).m.mem.views.length = 4 := by rw [(made_ok l hl4).2]; rfl
  generalize madeW l = W at k2 hW hC hWl hWv
  have ht0 : 0 ≤ t := ht.1
  obtain ⟨k, rfl⟩ := Int.eq_ofNat_of_zero_le ht0
  have hk : (k : Int) ≤ 255 := ht.2
  obtain ⟨c, hc⟩ : ∃ c, c = k % l.length := ⟨_, rfl⟩
  have hcl : c < l.length := by rw [hc]; exact Nat.mod_lt _ (by omega)
  have r1 : (k : Int).tmod (l.length : Int) = (c : Int) := by rw [Int.tmod_eq_emod_of_nonneg (by omega), hc]; rfl
  have r0 : IntKind.i64.wrap (k : Int) = (k : Int) := by rw [IntKind.wrap_i64]; omega
  have r2 : IntKind.i64.wrap ((c : Int) + 1) = ((c + 1 : Nat) : Int) := by rw [IntKind.wrap_i64]; omega
  have r3 : ¬ (l.length : Int) = 0 := by omega
  have r4 : ((l.length : Int) == 0) = false := by simpa using r3
  have r5 : IntKind.i64.wrap (((c + 1 : Nat) : Int) - 1) = (c : Int) := by rw [IntKind.wrap_i64]; omega
  clear hc
  -- the world behind the picks
  have hVO := runOk (noCr ps) hW
  have hVC := codedW_run (noCr ps) hC
  have hVk := runN_keep ps hW
  have hnl := noCr_len ps
  obtain ⟨V, hV⟩ : ∃ V, V = runW W (noCr ps) := ⟨_, rfl⟩
  rw [← hV] at hVO hVC hVk
  rw [hWl, hWv] at hVk
  obtain ⟨v1, v2⟩ := hVk
  have v3 := hVO.stops
  have q1 : ¬ (V.stopped.length : Int) < ((c + 1 : Nat) : Int) := by omega
  have q2 : ¬ (V.tasks.length : Int) < (l.length : Int) := by omega
  have q3 : c < V.stopped.length := by omega
  have q4 : c < V.tasks.length := by omega
  have q5 : (c : Int) < (V.stopped.length : Int) := by omega
  have q6 : (c : Int) < (V.tasks.length : Int) := by omega
  obtain ⟨sb, hsb⟩ : ∃ b, V.stopped[c]? = some b := ⟨_, List.getElem?_eq_getElem q3⟩
  obtain ⟨y, hy⟩ : ∃ y, V.tasks[c]? = some y := ⟨_, List.getElem?_eq_getElem q4⟩
  have k4 := ok_kDone y
  by_cases hgo : sb = false ∧ y.live = true
  case neg =>
    have hcase : sb = true ∨ (sb = false ∧ y.live = false) := by
      cases sb
      · cases hv : y.live
        · exact .inr ⟨rfl, rfl⟩
        · exact absurd ⟨rfl, hv⟩ hgo
      · exact .inl rfl
    rcases hcase with hb | ⟨hb, hv⟩
    · subst hb
      unfold evFn sc_TaskStops rv_TaskStops
      have F1 := And.intro @r0 (And.intro @r1 (And.intro @r2 (And.intro @r3 (And.intro @r4 (And.intro @r5 (And.intro @hK (And.intro @q1 (And.intro @q2 (And.intro @q3 (And.intro @q4 (And.intro @q5 (And.intro @q6 (And.intro @hsb @hy)))))))))))))
      refine ev_seq_k fun K1 hn1 hr1 he1 => ?_
      refine ev_ops_k fun K2 hk2 => ?_
      refine sh1 F1 ?_
      refine hk2 _ ?_
      refine hn1 (some ([0, 1, 2], none)) _ ?_
      refine ev_seq_k fun K3 hn3 hr3 he3 => ?_
      refine ev_seq_k fun K4 hn4 hr4 he4 => ?_
      refine ev_ops_k fun K5 hk5 => ?_
      refine evL_take 2 fun K6 hk6 => ?_
      refine sh1 F1 ?_
      refine hk6 _ ?_
      refine evL_take 1 fun K7 hk7 => ?_
      refine sh1 F1 ?_
      refine Or.inl (Or.inl ⟨_, k0, ?_⟩)
      refine hk7 _ ?_
      refine evL_take 4 fun K8 hk8 => ?_
      refine sh1 F1 ?_
      refine sd ?_
      refine hk8 _ ?_
      refine sh1 F1 ?_
      refine hk5 _ ?_
      refine hn4 (some ([0, 1, 2, 28], none)) _ ?_
      refine ev_cond_k rfl (fun hx => absurd hx (by simp at hx)) (fun hc0 => ?_)
      clear hc0
      refine hn3 (some ([0, 1, 2], none)) _ ?_
      refine ev_seq_k fun K9 hn9 hr9 he9 => ?_
      refine ev_ops_k fun K10 hk10 => ?_
      refine evL_take 1 fun K11 hk11 => ?_
      refine sh1 F1 ?_
      refine hk11 _ ?_
      refine evL_take 1 fun K12 hk12 => ?_
      refine sh1 F1 ?_
      refine Or.inl (Or.inl ⟨_, k2, ?_⟩)
      refine hk12 _ ?_
      refine evL_take 6 fun K13 hk13 => ?_
      refine sh1 F1 ?_
      refine sd ?_
      refine hk13 _ ?_
      refine sh1 F1 ?_
      refine hk10 _ ?_
      refine hn9 (some ([0, 1, 2, 7, 9], none)) _ ?_
      refine ev_seq_k fun K14 hn14 hr14 he14 => ?_
      refine ev_seq_k fun K15 hn15 hr15 he15 => ?_
      refine ev_ops_k fun K16 hk16 => ?_
      refine sh1 F1 ?_
      refine hk16 _ ?_
      refine hn15 (some ([0, 1, 2, 7, 37], none)) _ ?_
      refine ev_cond_k rfl (fun hx => absurd hx (by simp at hx)) (fun hc1 => ?_)
      clear hc1
      refine hn14 (some ([0, 1, 2, 7], none)) _ ?_
      refine ev_seq_k fun K17 hn17 hr17 he17 => ?_
      refine ev_ops_k fun K18 hk18 => ?_
      refine evL_take 5 fun K19 hk19 => ?_
      refine sh1 F1 ?_
      refine sd ?_
      refine hk19 _ ?_
      refine evL_take 1 fun K20 hk20 => ?_
      refine sh1 F1 ?_
      refine sd ?_
      refine hk20 _ ?_
      refine sh1 F1 ?_
      refine hk18 _ ?_
      refine hn17 (some ([0, 1, 7, 10], none)) _ ?_
      refine ev_seq_k fun K21 hn21 hr21 he21 => ?_
      refine ev_seq_k fun K22 hn22 hr22 he22 => ?_
      refine ev_ops_k fun K23 hk23 => ?_
      refine sh1 F1 ?_
      refine hk23 _ ?_
      refine hn22 (some ([0, 1, 7, 10, 11], none)) _ ?_
      refine ev_block_k fun K24 hn24 hx24 hr24 he24 => ?_
      refine ev_loop_k (TsInv W l ps ((c + 1 : Nat) : Int) true) (ps.length) (some ([0, 1, 7, 10, 11], some ([0], 1))) ([]) ?_ ?_
      · try refine lp0 ?_
        exact ⟨0, by omega, by omega, by rfl⟩
      · intro k S1 hI
        obtain ⟨i, hi, rfl, rfl⟩ := hI
        have hcase : i = ps.length ∨ (∃ p, ps[i]? = some p ∧ p.kind = 2) ∨ (∃ p, ps[i]? = some p ∧ ¬ p.kind = 2) := by
          rcases Nat.lt_or_ge i ps.length with h | h
          · by_cases h2 : (ps[i]).kind = 2
            · exact .inr (.inl ⟨_, List.getElem?_eq_getElem h, h2⟩)
            · exact .inr (.inr ⟨_, List.getElem?_eq_getElem h, h2⟩)
          · exact .inl (by omega)
        intro K25 hn25 hr25 he25
        rcases hcase with hcc | ⟨p, hp, hpk⟩ | ⟨p, hp, hpk⟩
        · skip
          have w2 : ¬ (i : Int) < (ps.length : Int) := by omega
          have w3 : runW W (noCr (ps.take i)) = V := by rw [List.take_of_length_le (by omega), hV]
          have F2 := And.intro F1 (And.intro @w2 @w3)
          refine ev_seq_k fun K26 hn26 hr26 he26 => ?_
          refine ev_seq_k fun K27 hn27 hr27 he27 => ?_
          refine ev_ops_k fun K28 hk28 => ?_
          refine sh1 F2 ?_
          refine sd ?_
          refine hk28 _ ?_
          refine hn27 (some ([0, 1, 7, 10, 11, 47], none)) _ ?_
          refine ev_cond_k rfl (fun hx => absurd hx (by simp at hx)) (fun hc2 => ?_)
          clear hc2
          refine he26 0 _ ?_
          refine he25 0 _ ?_
          refine hx24 _ ?_
          refine hn21 (some ([0, 7, 10], none)) _ ?_
          refine ev_seq_k fun K29 hn29 hr29 he29 => ?_
          refine ev_seq_k fun K30 hn30 hr30 he30 => ?_
          refine ev_ops_k fun K31 hk31 => ?_
          refine evL_take 2 fun K32 hk32 => ?_
          refine sh1 F2 ?_
          refine sd ?_
          refine hk32 _ ?_
          refine evL_take 3 fun K33 hk33 => ?_
          refine sh1 F2 ?_
          refine sd ?_
          refine hk33 _ ?_
          refine evL_take 3 fun K34 hk34 => ?_
          refine sh1 F2 ?_
          refine sd ?_
          refine hk34 _ ?_
          refine evL_take 4 fun K35 hk35 => ?_
          refine sh1 F2 ?_
          refine sd ?_
          refine hk35 _ ?_
          refine sh1 F2 ?_
          refine hk31 _ ?_
          refine hn30 (some ([0, 7, 10, 78], none)) _ ?_
          refine ev_cond_k rfl (fun hx => absurd hx (by simp at hx)) (fun hc4 => ?_)
          clear hc4
          refine hn29 (some ([0, 7, 10], none)) _ ?_
          refine ev_seq_k fun K36 hn36 hr36 he36 => ?_
          refine ev_seq_k fun K37 hn37 hr37 he37 => ?_
          refine ev_ops_k fun K38 hk38 => ?_
          refine evL_take 2 fun K39 hk39 => ?_
          refine sh1 F2 ?_
          refine sd ?_
          refine hk39 _ ?_
          refine evL_take 2 fun K40 hk40 => ?_
          refine sh1 F2 ?_
          refine sd ?_
          refine hk40 _ ?_
          refine evL_take 1 fun K41 hk41 => ?_
          refine sh1 F2 ?_
          refine sd ?_
          refine hk41 _ ?_
          refine evL_take 1 fun K42 hk42 => ?_
          refine sh1 F2 ?_
          refine sd ?_
          refine hk42 _ ?_
          refine evL_take 3 fun K43 hk43 => ?_
          refine sh1 F2 ?_
          refine sd ?_
          refine hk43 _ ?_
          refine evL_take 2 fun K44 hk44 => ?_
          refine sh1 F2 ?_
          refine sd ?_
          refine hk44 _ ?_
          refine evL_take 1 fun K45 hk45 => ?_
          refine sh1 F2 ?_
          refine sd ?_
          refine hk45 _ ?_
          refine evL_take 1 fun K46 hk46 => ?_
          refine sh1 F2 ?_
          refine sd ?_
          refine hk46 _ ?_
          refine evL_take 1 fun K47 hk47 => ?_
          refine sh1 F2 ?_
          skip
          refine hk47 _ ?_
          refine sh1 F2 ?_
          refine hk38 _ ?_
          refine hn37 (some ([0, 7, 10, 93], none)) _ ?_
          refine ev_cond_k rfl (fun hc5 => ?_) (fun hx => absurd hx (by simp at hx))
          clear hc5
          refine ev_seq_k fun K48 hn48 hr48 he48 => ?_
          refine ev_ops_k fun K49 hk49 => ?_
          refine evL_take 1 fun K50 hk50 => ?_
          refine sh1 F2 ?_
          refine Or.inl (Or.inl ⟨_, ka, ?_⟩)
          refine hk50 _ ?_
          refine sh1 F2 ?_
          refine hk49 _ ?_
          refine hn48 (some ([6], none)) _ ?_
          refine hr36 _ ?_
          exact sf1 F2
        · skip
          have hlt := (List.getElem?_eq_some_iff.1 hp).1
          have w2 : (i : Int) < (ps.length : Int) := by omega
          have w3 : IntKind.i64.wrap ((i : Int) + 1) = ((i + 1 : Nat) : Int) := by rw [IntKind.wrap_i64]; omega
          have w4 : (p.kind != 2) = false := by simpa using hpk
          have hn : noCr (ps.take (i + 1)) = noCr (ps.take i) := by rw [noCr_succ hp, if_pos hpk, List.append_nil]
          have F3 := And.intro F1 (And.intro @w2 (And.intro @w3 (And.intro @hp @w4)))
          refine ev_seq_k fun K51 hn51 hr51 he51 => ?_
          refine ev_seq_k fun K52 hn52 hr52 he52 => ?_
          refine ev_ops_k fun K53 hk53 => ?_
          refine sh1 F3 ?_
          refine sd ?_
          refine hk53 _ ?_
          refine hn52 (some ([0, 1, 7, 10, 11, 47], none)) _ ?_
          refine ev_cond_k rfl (fun hc2 => ?_) (fun hx => absurd hx (by simp at hx))
          clear hc2
          refine hn51 (some ([0, 1, 7, 10, 11], none)) _ ?_
          refine ev_seq_k fun K54 hn54 hr54 he54 => ?_
          refine ev_block_k fun K55 hn55 hx55 hr55 he55 => ?_
          refine ev_seq_k fun K56 hn56 hr56 he56 => ?_
          refine ev_ops_k fun K57 hk57 => ?_
          refine evL_take 3 fun K58 hk58 => ?_
          refine sh1 F3 ?_
          refine sd ?_
          refine hk58 _ ?_
          refine evL_take 2 fun K59 hk59 => ?_
          refine sh1 F3 ?_
          refine sd ?_
          refine hk59 _ ?_
          refine sh1 F3 ?_
          refine sd ?_
          refine hk57 _ ?_
          refine hn56 (some ([0, 1, 7, 10, 11, 55], none)) _ ?_
          refine ev_cond_k rfl (fun hx => absurd hx (by simp at hx)) (fun hc3 => ?_)
          clear hc3
          refine hn55 _ ?_
          refine hn54 (some ([0, 1, 7, 10, 11], none)) _ ?_
          refine ev_ops_k fun K60 hk60 => ?_
          refine evL_take 2 fun K61 hk61 => ?_
          refine sh1 F3 ?_
          refine sd ?_
          refine hk61 _ ?_
          refine sh1 F3 ?_
          refine hk60 _ ?_
          refine hn25 (ps.length - (i + 1)) (some ([0, 1, 7, 10, 11], some ([0], 1))) _ ?_ ?_
          all_goals try refine lp0 ?_
          · omega
          · exact ⟨i + 1, by omega, by omega, by rw [hn]⟩
        · skip
          have hlt := (List.getElem?_eq_some_iff.1 hp).1
          have w2 : (i : Int) < (ps.length : Int) := by omega
          have w3 : IntKind.i64.wrap ((i : Int) + 1) = ((i + 1 : Nat) : Int) := by rw [IntKind.wrap_i64]; omega
          have w4 : (p.kind != 2) = true := by simpa using hpk
          have hn : noCr (ps.take (i + 1)) = noCr (ps.take i) ++ [p] := by rw [noCr_succ hp, if_neg hpk]
          have hn2 := noCr_len (ps.take i)
          have hn3 : (ps.take i).length = i := by simp; omega
          have k3 := ok_kStep (runW W (noCr (ps.take i))) p (runOk (noCr (ps.take i)) hW) (by omega)
          have hr : (stepM (runW W (noCr (ps.take i))) p).1 = runW W (noCr (ps.take (i + 1))) := by rw [hn, runW_app]; rfl
          rw [hr] at k3
          generalize (stepM (runW W (noCr (ps.take i))) p).2 = b2 at k3
          have F4 := And.intro F1 (And.intro @w2 (And.intro @w3 (And.intro @hp @w4)))
          refine ev_seq_k fun K62 hn62 hr62 he62 => ?_
          refine ev_seq_k fun K63 hn63 hr63 he63 => ?_
          refine ev_ops_k fun K64 hk64 => ?_
          refine sh1 F4 ?_
          refine sd ?_
          refine hk64 _ ?_
          refine hn63 (some ([0, 1, 7, 10, 11, 47], none)) _ ?_
          refine ev_cond_k rfl (fun hc2 => ?_) (fun hx => absurd hx (by simp at hx))
          clear hc2
          refine hn62 (some ([0, 1, 7, 10, 11], none)) _ ?_
          refine ev_seq_k fun K65 hn65 hr65 he65 => ?_
          refine ev_block_k fun K66 hn66 hx66 hr66 he66 => ?_
          refine ev_seq_k fun K67 hn67 hr67 he67 => ?_
          refine ev_ops_k fun K68 hk68 => ?_
          refine evL_take 3 fun K69 hk69 => ?_
          refine sh1 F4 ?_
          refine sd ?_
          refine hk69 _ ?_
          refine evL_take 2 fun K70 hk70 => ?_
          refine sh1 F4 ?_
          refine sd ?_
          refine hk70 _ ?_
          refine sh1 F4 ?_
          refine sd ?_
          refine hk68 _ ?_
          refine hn67 (some ([0, 1, 7, 10, 11, 55], none)) _ ?_
          refine ev_cond_k rfl (fun hc3 => ?_) (fun hx => absurd hx (by simp at hx))
          clear hc3
          refine ev_seq_k fun K71 hn71 hr71 he71 => ?_
          refine ev_drw_k [] (n := 10) fun K72 hk72 => ?_
          refine sq0 ?_
          refine evF_take 1 fun K74 hk74 => ?_
          refine sh1 F4 ?_
          refine sd ?_
          refine hk74 _ _ _ ?_
          refine evF_take 3 fun K75 hk75 => ?_
          refine sh1 F4 ?_
          refine sd ?_
          refine hk75 _ _ _ ?_
          refine evF_take 1 fun K76 hk76 => ?_
          refine sh1 F4 ?_
          refine sd ?_
          refine hk76 _ _ _ ?_
          refine evF_take 1 fun K77 hk77 => ?_
          refine sh1 F4 ?_
          refine ⟨_, k3, ?_⟩
          refine hk77 _ _ _ ?_
          refine sh1 F4 ?_
          refine hk72 _ ?_
          refine sr0 ?_
          refine evL_take 1 fun K78 hk78 => ?_
          refine sh1 F4 ?_
          refine sd ?_
          refine hk78 _ ?_
          refine sh1 F4 ?_
          refine hn71 (some ([0, 1, 7, 10, 11, 12], none)) _ ?_
          refine ev_ops_k fun K79 hk79 => ?_
          refine evL_take 1 fun K80 hk80 => ?_
          refine sh1 F4 ?_
          refine sd ?_
          refine hk80 _ ?_
          refine sh1 F4 ?_
          refine sd ?_
          refine hk79 _ ?_
          refine hn66 _ ?_
          refine hn65 (some ([0, 1, 7, 10, 11], none)) _ ?_
          refine ev_ops_k fun K81 hk81 => ?_
          refine evL_take 2 fun K82 hk82 => ?_
          refine sh1 F4 ?_
          refine sd ?_
          refine hk82 _ ?_
          refine sh1 F4 ?_
          refine hk81 _ ?_
          refine hn25 (ps.length - (i + 1)) (some ([0, 1, 7, 10, 11], some ([0], 1))) _ ?_ ?_
          all_goals try refine lp0 ?_
          · omega
          · exact ⟨i + 1, by omega, by omega, rfl⟩
    · subst hb
      rw [hv] at k4
      unfold evFn sc_TaskStops rv_TaskStops
      have F1 := And.intro @r0 (And.intro @r1 (And.intro @r2 (And.intro @r3 (And.intro @r4 (And.intro @r5 (And.intro @hK (And.intro @q1 (And.intro @q2 (And.intro @q3 (And.intro @q4 (And.intro @q5 (And.intro @q6 (And.intro @hsb @hy)))))))))))))
      refine ev_seq_k fun K1 hn1 hr1 he1 => ?_
      refine ev_ops_k fun K2 hk2 => ?_
      refine sh1 F1 ?_
      refine hk2 _ ?_
      refine hn1 (some ([0, 1, 2], none)) _ ?_
      refine ev_seq_k fun K3 hn3 hr3 he3 => ?_
      refine ev_seq_k fun K4 hn4 hr4 he4 => ?_
      refine ev_ops_k fun K5 hk5 => ?_
      refine evL_take 2 fun K6 hk6 => ?_
      refine sh1 F1 ?_
      refine hk6 _ ?_
      refine evL_take 1 fun K7 hk7 => ?_
      refine sh1 F1 ?_
      refine Or.inl (Or.inl ⟨_, k0, ?_⟩)
      refine hk7 _ ?_
      refine evL_take 4 fun K8 hk8 => ?_
      refine sh1 F1 ?_
      refine sd ?_
      refine hk8 _ ?_
      refine sh1 F1 ?_
      refine hk5 _ ?_
      refine hn4 (some ([0, 1, 2, 28], none)) _ ?_
      refine ev_cond_k rfl (fun hx => absurd hx (by simp at hx)) (fun hc0 => ?_)
      clear hc0
      refine hn3 (some ([0, 1, 2], none)) _ ?_
      refine ev_seq_k fun K9 hn9 hr9 he9 => ?_
      refine ev_ops_k fun K10 hk10 => ?_
      refine evL_take 1 fun K11 hk11 => ?_
      refine sh1 F1 ?_
      refine hk11 _ ?_
      refine evL_take 1 fun K12 hk12 => ?_
      refine sh1 F1 ?_
      refine Or.inl (Or.inl ⟨_, k2, ?_⟩)
      refine hk12 _ ?_
      refine evL_take 6 fun K13 hk13 => ?_
      refine sh1 F1 ?_
      refine sd ?_
      refine hk13 _ ?_
      refine sh1 F1 ?_
      refine hk10 _ ?_
      refine hn9 (some ([0, 1, 2, 7, 9], none)) _ ?_
      refine ev_seq_k fun K14 hn14 hr14 he14 => ?_
      refine ev_seq_k fun K15 hn15 hr15 he15 => ?_
      refine ev_ops_k fun K16 hk16 => ?_
      refine sh1 F1 ?_
      refine hk16 _ ?_
      refine hn15 (some ([0, 1, 2, 7, 37], none)) _ ?_
      refine ev_cond_k rfl (fun hx => absurd hx (by simp at hx)) (fun hc1 => ?_)
      clear hc1
      refine hn14 (some ([0, 1, 2, 7], none)) _ ?_
      refine ev_seq_k fun K17 hn17 hr17 he17 => ?_
      refine ev_ops_k fun K18 hk18 => ?_
      refine evL_take 5 fun K19 hk19 => ?_
      refine sh1 F1 ?_
      refine sd ?_
      refine hk19 _ ?_
      refine evL_take 1 fun K20 hk20 => ?_
      refine sh1 F1 ?_
      refine sd ?_
      refine hk20 _ ?_
      refine sh1 F1 ?_
      refine hk18 _ ?_
      refine hn17 (some ([0, 1, 7, 10], none)) _ ?_
      refine ev_seq_k fun K21 hn21 hr21 he21 => ?_
      refine ev_seq_k fun K22 hn22 hr22 he22 => ?_
      refine ev_ops_k fun K23 hk23 => ?_
      refine sh1 F1 ?_
      refine hk23 _ ?_
      refine hn22 (some ([0, 1, 7, 10, 11], none)) _ ?_
      refine ev_block_k fun K24 hn24 hx24 hr24 he24 => ?_
      refine ev_loop_k (TsInv W l ps ((c + 1 : Nat) : Int) true) (ps.length) (some ([0, 1, 7, 10, 11], some ([0], 1))) ([]) ?_ ?_
      · try refine lp0 ?_
        exact ⟨0, by omega, by omega, by rfl⟩
      · intro k S1 hI
        obtain ⟨i, hi, rfl, rfl⟩ := hI
        have hcase : i = ps.length ∨ (∃ p, ps[i]? = some p ∧ p.kind = 2) ∨ (∃ p, ps[i]? = some p ∧ ¬ p.kind = 2) := by
          rcases Nat.lt_or_ge i ps.length with h | h
          · by_cases h2 : (ps[i]).kind = 2
            · exact .inr (.inl ⟨_, List.getElem?_eq_getElem h, h2⟩)
            · exact .inr (.inr ⟨_, List.getElem?_eq_getElem h, h2⟩)
          · exact .inl (by omega)
        intro K25 hn25 hr25 he25
        rcases hcase with hcc | ⟨p, hp, hpk⟩ | ⟨p, hp, hpk⟩
        · skip
          have w2 : ¬ (i : Int) < (ps.length : Int) := by omega
          have w3 : runW W (noCr (ps.take i)) = V := by rw [List.take_of_length_le (by omega), hV]
          have F2 := And.intro F1 (And.intro @w2 @w3)
          refine ev_seq_k fun K26 hn26 hr26 he26 => ?_
          refine ev_seq_k fun K27 hn27 hr27 he27 => ?_
          refine ev_ops_k fun K28 hk28 => ?_
          refine sh1 F2 ?_
          refine sd ?_
          refine hk28 _ ?_
          refine hn27 (some ([0, 1, 7, 10, 11, 47], none)) _ ?_
          refine ev_cond_k rfl (fun hx => absurd hx (by simp at hx)) (fun hc2 => ?_)
          clear hc2
          refine he26 0 _ ?_
          refine he25 0 _ ?_
          refine hx24 _ ?_
          refine hn21 (some ([0, 7, 10], none)) _ ?_
          refine ev_seq_k fun K29 hn29 hr29 he29 => ?_
          refine ev_seq_k fun K30 hn30 hr30 he30 => ?_
          refine ev_ops_k fun K31 hk31 => ?_
          refine evL_take 2 fun K32 hk32 => ?_
          refine sh1 F2 ?_
          refine sd ?_
          refine hk32 _ ?_
          refine evL_take 3 fun K33 hk33 => ?_
          refine sh1 F2 ?_
          refine sd ?_
          refine hk33 _ ?_
          refine evL_take 3 fun K34 hk34 => ?_
          refine sh1 F2 ?_
          refine sd ?_
          refine hk34 _ ?_
          refine evL_take 4 fun K35 hk35 => ?_
          refine sh1 F2 ?_
          refine sd ?_
          refine hk35 _ ?_
          refine sh1 F2 ?_
          refine hk31 _ ?_
          refine hn30 (some ([0, 7, 10, 78], none)) _ ?_
          refine ev_cond_k rfl (fun hx => absurd hx (by simp at hx)) (fun hc4 => ?_)
          clear hc4
          refine hn29 (some ([0, 7, 10], none)) _ ?_
          refine ev_seq_k fun K36 hn36 hr36 he36 => ?_
          refine ev_seq_k fun K37 hn37 hr37 he37 => ?_
          refine ev_ops_k fun K38 hk38 => ?_
          refine evL_take 2 fun K39 hk39 => ?_
          refine sh1 F2 ?_
          refine sd ?_
          refine hk39 _ ?_
          refine evL_take 2 fun K40 hk40 => ?_
          refine sh1 F2 ?_
          refine sd ?_
          refine hk40 _ ?_
          refine evL_take 1 fun K41 hk41 => ?_
          refine sh1 F2 ?_
          refine sd ?_
          refine hk41 _ ?_
          refine evL_take 1 fun K42 hk42 => ?_
          refine sh1 F2 ?_
          refine sd ?_
          refine hk42 _ ?_
          refine evL_take 3 fun K43 hk43 => ?_
          refine sh1 F2 ?_
          refine sd ?_
          refine hk43 _ ?_
          refine evL_take 2 fun K44 hk44 => ?_
          refine sh1 F2 ?_
          refine sd ?_
          refine hk44 _ ?_
          refine evL_take 1 fun K45 hk45 => ?_
          refine sh1 F2 ?_
          refine sd ?_
          refine hk45 _ ?_
          refine evL_take 1 fun K46 hk46 => ?_
          refine sh1 F2 ?_
          refine sd ?_
          refine hk46 _ ?_
          refine evL_take 1 fun K47 hk47 => ?_
          refine sh1 F2 ?_
          refine Or.inl (Or.inl ⟨_, k4, ?_⟩)
          refine hk47 _ ?_
          refine sh1 F2 ?_
          refine hk38 _ ?_
          refine hn37 (some ([0, 7, 10, 93], none)) _ ?_
          refine ev_cond_k rfl (fun hc5 => ?_) (fun hx => absurd hx (by simp at hx))
          clear hc5
          refine ev_seq_k fun K48 hn48 hr48 he48 => ?_
          refine ev_ops_k fun K49 hk49 => ?_
          refine evL_take 1 fun K50 hk50 => ?_
          refine sh1 F2 ?_
          refine Or.inl (Or.inl ⟨_, ka, ?_⟩)
          refine hk50 _ ?_
          refine sh1 F2 ?_
          refine hk49 _ ?_
          refine hn48 (some ([6], none)) _ ?_
          refine hr36 _ ?_
          exact sf1 F2
        · skip
          have hlt := (List.getElem?_eq_some_iff.1 hp).1
          have w2 : (i : Int) < (ps.length : Int) := by omega
          have w3 : IntKind.i64.wrap ((i : Int) + 1) = ((i + 1 : Nat) : Int) := by rw [IntKind.wrap_i64]; omega
          have w4 : (p.kind != 2) = false := by simpa using hpk
          have hn : noCr (ps.take (i + 1)) = noCr (ps.take i) := by rw [noCr_succ hp, if_pos hpk, List.append_nil]
          have F3 := And.intro F1 (And.intro @w2 (And.intro @w3 (And.intro @hp @w4)))
          refine ev_seq_k fun K51 hn51 hr51 he51 => ?_
          refine ev_seq_k fun K52 hn52 hr52 he52 => ?_
          refine ev_ops_k fun K53 hk53 => ?_
          refine sh1 F3 ?_
          refine sd ?_
          refine hk53 _ ?_
          refine hn52 (some ([0, 1, 7, 10, 11, 47], none)) _ ?_
          refine ev_cond_k rfl (fun hc2 => ?_) (fun hx => absurd hx (by simp at hx))
          clear hc2
          refine hn51 (some ([0, 1, 7, 10, 11], none)) _ ?_
          refine ev_seq_k fun K54 hn54 hr54 he54 => ?_
          refine ev_block_k fun K55 hn55 hx55 hr55 he55 => ?_
          refine ev_seq_k fun K56 hn56 hr56 he56 => ?_
          refine ev_ops_k fun K57 hk57 => ?_
          refine evL_take 3 fun K58 hk58 => ?_
          refine sh1 F3 ?_
          refine sd ?_
          refine hk58 _ ?_
          refine evL_take 2 fun K59 hk59 => ?_
          refine sh1 F3 ?_
          refine sd ?_
          refine hk59 _ ?_
          refine sh1 F3 ?_
          refine sd ?_
          refine hk57 _ ?_
          refine hn56 (some ([0, 1, 7, 10, 11, 55], none)) _ ?_
          refine ev_cond_k rfl (fun hx => absurd hx (by simp at hx)) (fun hc3 => ?_)
          clear hc3
          refine hn55 _ ?_
          refine hn54 (some ([0, 1, 7, 10, 11], none)) _ ?_
          refine ev_ops_k fun K60 hk60 => ?_
          refine evL_take 2 fun K61 hk61 => ?_
          refine sh1 F3 ?_
          refine sd ?_
          refine hk61 _ ?_
          refine sh1 F3 ?_
          refine hk60 _ ?_
          refine hn25 (ps.length - (i + 1)) (some ([0, 1, 7, 10, 11], some ([0], 1))) _ ?_ ?_
          all_goals try refine lp0 ?_
          · omega
          · exact ⟨i + 1, by omega, by omega, by rw [hn]⟩
        · skip
          have hlt := (List.getElem?_eq_some_iff.1 hp).1
          have w2 : (i : Int) < (ps.length : Int) := by omega
          have w3 : IntKind.i64.wrap ((i : Int) + 1) = ((i + 1 : Nat) : Int) := by rw [IntKind.wrap_i64]; omega
          have w4 : (p.kind != 2) = true := by simpa using hpk
          have hn : noCr (ps.take (i + 1)) = noCr (ps.take i) ++ [p] := by rw [noCr_succ hp, if_neg hpk]
          have hn2 := noCr_len (ps.take i)
          have hn3 : (ps.take i).length = i := by simp; omega
          have k3 := ok_kStep (runW W (noCr (ps.take i))) p (runOk (noCr (ps.take i)) hW) (by omega)
          have hr : (stepM (runW W (noCr (ps.take i))) p).1 = runW W (noCr (ps.take (i + 1))) := by rw [hn, runW_app]; rfl
          rw [hr] at k3
          generalize (stepM (runW W (noCr (ps.take i))) p).2 = b2 at k3
          have F4 := And.intro F1 (And.intro @w2 (And.intro @w3 (And.intro @hp @w4)))
          refine ev_seq_k fun K62 hn62 hr62 he62 => ?_
          refine ev_seq_k fun K63 hn63 hr63 he63 => ?_
          refine ev_ops_k fun K64 hk64 => ?_
          refine sh1 F4 ?_
          refine sd ?_
          refine hk64 _ ?_
          refine hn63 (some ([0, 1, 7, 10, 11, 47], none)) _ ?_
          refine ev_cond_k rfl (fun hc2 => ?_) (fun hx => absurd hx (by simp at hx))
          clear hc2
          refine hn62 (some ([0, 1, 7, 10, 11], none)) _ ?_
          refine ev_seq_k fun K65 hn65 hr65 he65 => ?_
          refine ev_block_k fun K66 hn66 hx66 hr66 he66 => ?_
          refine ev_seq_k fun K67 hn67 hr67 he67 => ?_
          refine ev_ops_k fun K68 hk68 => ?_
          refine evL_take 3 fun K69 hk69 => ?_
          refine sh1 F4 ?_
          refine sd ?_
          refine hk69 _ ?_
          refine evL_take 2 fun K70 hk70 => ?_
          refine sh1 F4 ?_
          refine sd ?_
          refine hk70 _ ?_
          refine sh1 F4 ?_
          refine sd ?_
          refine hk68 _ ?_
          refine hn67 (some ([0, 1, 7, 10, 11, 55], none)) _ ?_
          refine ev_cond_k rfl (fun hc3 => ?_) (fun hx => absurd hx (by simp at hx))
          clear hc3
          refine ev_seq_k fun K71 hn71 hr71 he71 => ?_
          refine ev_drw_k [] (n := 10) fun K72 hk72 => ?_
          refine sq0 ?_
          refine evF_take 1 fun K74 hk74 => ?_
          refine sh1 F4 ?_
          refine sd ?_
          refine hk74 _ _ _ ?_
          refine evF_take 3 fun K75 hk75 => ?_
          refine sh1 F4 ?_
          refine sd ?_
          refine hk75 _ _ _ ?_
          refine evF_take 1 fun K76 hk76 => ?_
          refine sh1 F4 ?_
          refine sd ?_
          refine hk76 _ _ _ ?_
          refine evF_take 1 fun K77 hk77 => ?_
          refine sh1 F4 ?_
          refine ⟨_, k3, ?_⟩
          refine hk77 _ _ _ ?_
          refine sh1 F4 ?_
          refine hk72 _ ?_
          refine sr0 ?_
          refine evL_take 1 fun K78 hk78 => ?_
          refine sh1 F4 ?_
          refine sd ?_
          refine hk78 _ ?_
          refine sh1 F4 ?_
          refine hn71 (some ([0, 1, 7, 10, 11, 12], none)) _ ?_
          refine ev_ops_k fun K79 hk79 => ?_
          refine evL_take 1 fun K80 hk80 => ?_
          refine sh1 F4 ?_
          refine sd ?_
          refine hk80 _ ?_
          refine sh1 F4 ?_
          refine sd ?_
          refine hk79 _ ?_
          refine hn66 _ ?_
          refine hn65 (some ([0, 1, 7, 10, 11], none)) _ ?_
          refine ev_ops_k fun K81 hk81 => ?_
          refine evL_take 2 fun K82 hk82 => ?_
          refine sh1 F4 ?_
          refine sd ?_
          refine hk82 _ ?_
          refine sh1 F4 ?_
          refine hk81 _ ?_
          refine hn25 (ps.length - (i + 1)) (some ([0, 1, 7, 10, 11], some ([0], 1))) _ ?_ ?_
          all_goals try refine lp0 ?_
          · omega
          · exact ⟨i + 1, by omega, by omega, rfl⟩
  obtain ⟨hb, hv⟩ := hgo
  subst hb
  rw [hv] at k4
  have hstop : stoppedM V c = false := by unfold stoppedM; rw [hsb]; rfl
  have hlive : liveAt V c = true := by unfold liveAt; rw [hy]; exact hv
  have hdead : deadM V = false := by unfold deadM; rw [v2]; rfl
  have htk : takesM V ((c + 1 : Nat) : Int) = true := by
    unfold takesM
    rw [decide_eq_true (by omega), show (((c + 1 : Nat) : Int) - 1).toNat = c by omega, hstop, hlive]; rfl
  have hx : stepM V ⟨1, ((c + 1 : Nat) : Int), 0⟩ = (haltM V ((c + 1 : Nat) : Int), true) := by
    unfold stepM
    rw [if_neg (by rw [hdead]; simp), if_neg (by simp), if_neg (by rw [htk]; simp), if_neg (by simp), if_pos rfl]
  have k6 := ok_kStep V ⟨1, ((c + 1 : Nat) : Int), 0⟩ hVO (by omega)
  rw [hx] at k6
  have hXO := haltOk hVO ((c + 1 : Nat) : Int)
  have hXC : CodedW (haltM V ((c + 1 : Nat) : Int)) := hVC
  have x1 : (haltM V ((c + 1 : Nat) : Int)).tasks = V.tasks := rfl
  have x2 : (haltM V ((c + 1 : Nat) : Int)).m = V.m := rfl
  have x3 : (haltM V ((c + 1 : Nat) : Int)).stopped = V.stopped.set c true := by
    unfold haltM; rw [show (((c + 1 : Nat) : Int) - 1).toNat = c by omega]
  clear hx
  obtain ⟨X, hX⟩ : ∃ X, X = haltM V ((c + 1 : Nat) : Int) := ⟨_, rfl⟩
  rw [← hX] at k6 hXO hXC x1 x2 x3
  clear hX
  have xst : stoppedM X c = true := by unfold stoppedM; rw [x3, List.getElem?_set_self q3]; rfl
  have htk2 : takesM X ((c + 1 : Nat) : Int) = false := by
    unfold takesM
    rw [show (((c + 1 : Nat) : Int) - 1).toNat = c by omega, xst, Bool.not_true, Bool.false_and, Bool.and_false]
  have hx2 : stepM X ⟨0, ((c + 1 : Nat) : Int), 0⟩ = (X, false) := by
    unfold stepM
    split
    · rfl
    · first | rfl | (rw [if_neg (by simp)]; rw [if_pos htk2])
  have k7 := ok_kStep X ⟨0, ((c + 1 : Nat) : Int), 0⟩ hXO (by omega)
  rw [hx2] at k7
  have k8 := ok_kAlone X ((c + 1 : Nat) : Int) 5 hXO (by show _ + 5 ≤ 900; omega)
  have ha : aloneM X ((c + 1 : Nat) : Int) 5 = (X, false) := by
    unfold aloneM
    rw [if_pos (.inr (.inr (by rw [show (((c + 1 : Nat) : Int) - 1).toNat = c by omega]; exact xst)))]
  rw [ha] at k8
  have k9 := ok_l8words V.m X.m hVO.mach.mem hXO.mach.mem (by omega) (by rw [x2])
  have k10 := ok_l8alike X hXO hXC (by omega)
  have xc : X.stopped[c]? = some true := by rw [x3, List.getElem?_set_self q3]
  have xl : X.stopped.length = V.stopped.length := by rw [x3, List.length_set]
  have xt : X.tasks.length = V.tasks.length := by rw [x1]
  have y3 : c < X.stopped.length := by omega
  have y5 : (c : Int) < (X.stopped.length : Int) := by omega
  unfold evFn sc_TaskStops rv_TaskStops
  have F1 := And.intro @r0 (And.intro @r1 (And.intro @r2 (And.intro @r3 (And.intro @r4 (And.intro @r5 (And.intro @hK (And.intro @q1 (And.intro @q2 (And.intro @q3 (And.intro @q4 (And.intro @q5 (And.intro @q6 (And.intro @hsb (And.intro @hy (And.intro @xc (And.intro @y3 @y5))))))))))))))))
  refine ev_seq_k fun K1 hn1 hr1 he1 => ?_
  refine ev_ops_k fun K2 hk2 => ?_
  refine sh1 F1 ?_
  refine hk2 _ ?_
  refine hn1 (some ([0, 1, 2], none)) _ ?_
  refine ev_seq_k fun K3 hn3 hr3 he3 => ?_
  refine ev_seq_k fun K4 hn4 hr4 he4 => ?_
  refine ev_ops_k fun K5 hk5 => ?_
  refine evL_take 2 fun K6 hk6 => ?_
  refine sh1 F1 ?_
  refine hk6 _ ?_
  refine evL_take 1 fun K7 hk7 => ?_
  refine sh1 F1 ?_
  refine Or.inl (Or.inl ⟨_, k0, ?_⟩)
  refine hk7 _ ?_
  refine evL_take 4 fun K8 hk8 => ?_
  refine sh1 F1 ?_
  refine sd ?_
  refine hk8 _ ?_
  refine sh1 F1 ?_
  refine hk5 _ ?_
  refine hn4 (some ([0, 1, 2, 28], none)) _ ?_
  refine ev_cond_k rfl (fun hx => absurd hx (by simp at hx)) (fun hc0 => ?_)
  clear hc0
  refine hn3 (some ([0, 1, 2], none)) _ ?_
  refine ev_seq_k fun K9 hn9 hr9 he9 => ?_
  refine ev_ops_k fun K10 hk10 => ?_
  refine evL_take 1 fun K11 hk11 => ?_
  refine sh1 F1 ?_
  refine hk11 _ ?_
  refine evL_take 1 fun K12 hk12 => ?_
  refine sh1 F1 ?_
  refine Or.inl (Or.inl ⟨_, k2, ?_⟩)
  refine hk12 _ ?_
  refine evL_take 4 fun K13 hk13 => ?_
  refine sh1 F1 ?_
  refine hk13 _ ?_
  refine evL_take 2 fun K14 hk14 => ?_
  refine sh1 F1 ?_
  refine sd ?_
  refine hk14 _ ?_
  refine sh1 F1 ?_
  refine hk10 _ ?_
  refine hn9 (some ([0, 1, 2, 7, 9], none)) _ ?_
  refine ev_seq_k fun K15 hn15 hr15 he15 => ?_
  refine ev_seq_k fun K16 hn16 hr16 he16 => ?_
  refine ev_ops_k fun K17 hk17 => ?_
  refine sh1 F1 ?_
  refine hk17 _ ?_
  refine hn16 (some ([0, 1, 2, 7, 37], none)) _ ?_
  refine ev_cond_k rfl (fun hx => absurd hx (by simp at hx)) (fun hc1 => ?_)
  clear hc1
  refine hn15 (some ([0, 1, 2, 7], none)) _ ?_
  refine ev_seq_k fun K18 hn18 hr18 he18 => ?_
  refine ev_ops_k fun K19 hk19 => ?_
  refine evL_take 4 fun K20 hk20 => ?_
  refine sh1 F1 ?_
  refine hk20 _ ?_
  refine evL_take 1 fun K21 hk21 => ?_
  refine sh1 F1 ?_
  refine sd ?_
  refine hk21 _ ?_
  refine evL_take 1 fun K22 hk22 => ?_
  refine sh1 F1 ?_
  refine sd ?_
  refine hk22 _ ?_
  refine sh1 F1 ?_
  refine hk19 _ ?_
  refine hn18 (some ([0, 1, 7, 10], none)) _ ?_
  refine ev_seq_k fun K23 hn23 hr23 he23 => ?_
  refine ev_seq_k fun K24 hn24 hr24 he24 => ?_
  refine ev_ops_k fun K25 hk25 => ?_
  refine sh1 F1 ?_
  refine hk25 _ ?_
  refine hn24 (some ([0, 1, 7, 10, 11], none)) _ ?_
  refine ev_block_k fun K26 hn26 hx26 hr26 he26 => ?_
  refine ev_loop_k (TsInv W l ps ((c + 1 : Nat) : Int) true) (ps.length) (some ([0, 1, 7, 10, 11], some ([0], 1))) ([]) ?_ ?_
  · try refine lp0 ?_
    exact ⟨0, by omega, by omega, by rfl⟩
  · intro k S1 hI
    obtain ⟨i, hi, rfl, rfl⟩ := hI
    have hcase : i = ps.length ∨ (∃ p, ps[i]? = some p ∧ p.kind = 2) ∨ (∃ p, ps[i]? = some p ∧ ¬ p.kind = 2) := by
      rcases Nat.lt_or_ge i ps.length with h | h
      · by_cases h2 : (ps[i]).kind = 2
        · exact .inr (.inl ⟨_, List.getElem?_eq_getElem h, h2⟩)
        · exact .inr (.inr ⟨_, List.getElem?_eq_getElem h, h2⟩)
      · exact .inl (by omega)
    intro K27 hn27 hr27 he27
    rcases hcase with hcc | ⟨p, hp, hpk⟩ | ⟨p, hp, hpk⟩
    · skip
      have w2 : ¬ (i : Int) < (ps.length : Int) := by omega
      have w3 : runW W (noCr (ps.take i)) = V := by rw [List.take_of_length_le (by omega), hV]
      have F2 := And.intro F1 (And.intro @w2 @w3)
      refine ev_seq_k fun K28 hn28 hr28 he28 => ?_
      refine ev_seq_k fun K29 hn29 hr29 he29 => ?_
      refine ev_ops_k fun K30 hk30 => ?_
      refine sh1 F2 ?_
      refine sd ?_
      refine hk30 _ ?_
      refine hn29 (some ([0, 1, 7, 10, 11, 47], none)) _ ?_
      refine ev_cond_k rfl (fun hx => absurd hx (by simp at hx)) (fun hc2 => ?_)
      clear hc2
      refine he28 0 _ ?_
      refine he27 0 _ ?_
      refine hx26 _ ?_
      refine hn23 (some ([0, 7, 10], none)) _ ?_
      refine ev_seq_k fun K31 hn31 hr31 he31 => ?_
      refine ev_seq_k fun K32 hn32 hr32 he32 => ?_
      refine ev_ops_k fun K33 hk33 => ?_
      refine evL_take 2 fun K34 hk34 => ?_
      refine sh1 F2 ?_
      refine sd ?_
      refine hk34 _ ?_
      refine evL_take 3 fun K35 hk35 => ?_
      refine sh1 F2 ?_
      refine sd ?_
      refine hk35 _ ?_
      refine evL_take 3 fun K36 hk36 => ?_
      refine sh1 F2 ?_
      refine sd ?_
      refine hk36 _ ?_
      refine evL_take 4 fun K37 hk37 => ?_
      refine sh1 F2 ?_
      refine sd ?_
      refine hk37 _ ?_
      refine sh1 F2 ?_
      refine hk33 _ ?_
      refine hn32 (some ([0, 7, 10, 78], none)) _ ?_
      refine ev_cond_k rfl (fun hx => absurd hx (by simp at hx)) (fun hc4 => ?_)
      clear hc4
      refine hn31 (some ([0, 7, 10], none)) _ ?_
      refine ev_seq_k fun K38 hn38 hr38 he38 => ?_
      refine ev_seq_k fun K39 hn39 hr39 he39 => ?_
      refine ev_ops_k fun K40 hk40 => ?_
      refine evL_take 2 fun K41 hk41 => ?_
      refine sh1 F2 ?_
      refine sd ?_
      refine hk41 _ ?_
      refine evL_take 2 fun K42 hk42 => ?_
      refine sh1 F2 ?_
      refine sd ?_
      refine hk42 _ ?_
      refine evL_take 1 fun K43 hk43 => ?_
      refine sh1 F2 ?_
      refine sd ?_
      refine hk43 _ ?_
      refine evL_take 1 fun K44 hk44 => ?_
      refine sh1 F2 ?_
      refine sd ?_
      refine hk44 _ ?_
      refine evL_take 3 fun K45 hk45 => ?_
      refine sh1 F2 ?_
      refine sd ?_
      refine hk45 _ ?_
      refine evL_take 2 fun K46 hk46 => ?_
      refine sh1 F2 ?_
      refine sd ?_
      refine hk46 _ ?_
      refine evL_take 1 fun K47 hk47 => ?_
      refine sh1 F2 ?_
      refine sd ?_
      refine hk47 _ ?_
      refine evL_take 1 fun K48 hk48 => ?_
      refine sh1 F2 ?_
      refine sd ?_
      refine hk48 _ ?_
      refine evL_take 1 fun K49 hk49 => ?_
      refine sh1 F2 ?_
      refine Or.inl (Or.inl ⟨_, k4, ?_⟩)
      refine hk49 _ ?_
      refine sh1 F2 ?_
      refine hk40 _ ?_
      refine hn39 (some ([0, 7, 10, 93], none)) _ ?_
      refine ev_cond_k rfl (fun hx => absurd hx (by simp at hx)) (fun hc5 => ?_)
      clear hc5
      refine hn38 (some ([0, 7, 10], none)) _ ?_
      refine ev_seq_k fun K50 hn50 hr50 he50 => ?_
      refine ev_ops_k fun K51 hk51 => ?_
      refine evL_take 1 fun K52 hk52 => ?_
      refine sh1 F2 ?_
      refine sd ?_
      refine hk52 _ ?_
      refine evL_take 2 fun K53 hk53 => ?_
      refine sh1 F2 ?_
      refine hk53 _ ?_
      refine evL_take 1 fun K54 hk54 => ?_
      refine sh1 F2 ?_
      refine Or.inl (Or.inl ⟨_, k6, ?_⟩)
      refine hk54 _ ?_
      refine evL_take 4 fun K55 hk55 => ?_
      refine sh1 F2 ?_
      refine hk55 _ ?_
      refine evL_take 1 fun K56 hk56 => ?_
      refine sh1 F2 ?_
      refine sd ?_
      refine hk56 _ ?_
      refine sh1 F2 ?_
      refine hk51 _ ?_
      refine hn50 (some ([0, 7, 10, 14, 15], none)) _ ?_
      refine ev_seq_k fun K57 hn57 hr57 he57 => ?_
      refine ev_ops_k fun K58 hk58 => ?_
      refine evL_take 1 fun K59 hk59 => ?_
      refine sh1 F2 ?_
      refine sd ?_
      refine hk59 _ ?_
      refine evL_take 2 fun K60 hk60 => ?_
      refine sh1 F2 ?_
      refine hk60 _ ?_
      refine evL_take 1 fun K61 hk61 => ?_
      refine sh1 F2 ?_
      refine Or.inl (Or.inl ⟨_, k7, ?_⟩)
      refine hk61 _ ?_
      refine evL_take 4 fun K62 hk62 => ?_
      refine sh1 F2 ?_
      refine hk62 _ ?_
      refine evL_take 1 fun K63 hk63 => ?_
      refine sh1 F2 ?_
      refine sd ?_
      refine hk63 _ ?_
      refine sh1 F2 ?_
      refine hk58 _ ?_
      refine hn57 (some ([0, 7, 10, 14, 15, 16, 17], none)) _ ?_
      refine ev_seq_k fun K64 hn64 hr64 he64 => ?_
      refine ev_ops_k fun K65 hk65 => ?_
      refine evL_take 1 fun K66 hk66 => ?_
      refine sh1 F2 ?_
      refine sd ?_
      refine hk66 _ ?_
      refine evL_take 1 fun K67 hk67 => ?_
      refine sh1 F2 ?_
      refine hk67 _ ?_
      refine evL_take 1 fun K68 hk68 => ?_
      refine sh1 F2 ?_
      refine Or.inl (Or.inl ⟨_, k8, ?_⟩)
      refine hk68 _ ?_
      refine evL_take 4 fun K69 hk69 => ?_
      refine sh1 F2 ?_
      refine hk69 _ ?_
      refine evL_take 1 fun K70 hk70 => ?_
      refine sh1 F2 ?_
      refine sd ?_
      refine hk70 _ ?_
      refine sh1 F2 ?_
      refine hk65 _ ?_
      refine hn64 (some ([0, 7, 10, 14, 15, 16, 17, 19], none)) _ ?_
      refine ev_seq_k fun K71 hn71 hr71 he71 => ?_
      refine ev_seq_k fun K72 hn72 hr72 he72 => ?_
      refine ev_ops_k fun K73 hk73 => ?_
      refine evL_take 4 fun K74 hk74 => ?_
      refine sh1 F2 ?_
      refine hk74 _ ?_
      refine evL_take 4 fun K75 hk75 => ?_
      refine sh1 F2 ?_
      refine hk75 _ ?_
      refine evL_take 3 fun K76 hk76 => ?_
      refine sh1 F2 ?_
      refine sd ?_
      refine hk76 _ ?_
      refine evL_take 2 fun K77 hk77 => ?_
      refine sh1 F2 ?_
      refine sd ?_
      refine hk77 _ ?_
      refine evL_take 1 fun K78 hk78 => ?_
      refine sh1 F2 ?_
      refine Or.inl (Or.inl ⟨_, k9, ?_⟩)
      refine hk78 _ ?_
      refine evL_take 4 fun K79 hk79 => ?_
      refine sh1 F2 ?_
      refine hk79 _ ?_
      refine evL_take 1 fun K80 hk80 => ?_
      refine sh1 F2 ?_
      refine sd ?_
      refine hk80 _ ?_
      refine evL_take 2 fun K81 hk81 => ?_
      refine sh1 F2 ?_
      refine sd ?_
      refine hk81 _ ?_
      refine evL_take 1 fun K82 hk82 => ?_
      refine sh1 F2 ?_
      refine sd ?_
      refine hk82 _ ?_
      refine evL_take 1 fun K83 hk83 => ?_
      refine sh1 F2 ?_
      refine sd ?_
      refine hk83 _ ?_
      refine evL_take 4 fun K84 hk84 => ?_
      refine sh1 F2 ?_
      refine sd ?_
      refine hk84 _ ?_
      refine evL_take 1 fun K85 hk85 => ?_
      refine sh1 F2 ?_
      refine sd ?_
      refine hk85 _ ?_
      refine evL_take 1 fun K86 hk86 => ?_
      refine sh1 F2 ?_
      refine Or.inl (Or.inl ⟨_, k10, ?_⟩)
      refine hk86 _ ?_
      refine sh1 F2 ?_
      refine hk73 _ ?_
      refine hn72 (some ([0, 7, 10, 14, 145], none)) _ ?_
      refine ev_cond_k rfl (fun hx => absurd hx (by simp at hx)) (fun hc6 => ?_)
      clear hc6
      refine hn71 (some ([0, 7, 10, 14], none)) _ ?_
      refine ev_seq_k fun K87 hn87 hr87 he87 => ?_
      refine ev_seq_k fun K88 hn88 hr88 he88 => ?_
      refine ev_ops_k fun K89 hk89 => ?_
      refine sh1 F2 ?_
      refine hk89 _ ?_
      refine hn88 (some ([0, 7, 10, 14, 20], none)) _ ?_
      refine ev_block_k fun K90 hn90 hx90 hr90 he90 => ?_
      refine ev_loop_k (TsInv2 V X l ((c + 1 : Nat) : Int)) (l.length) (some ([0, 7, 10, 14, 20], some ([0, 1], 2))) ([]) ?_ ?_
      · try refine lp0 ?_
        exact ⟨0, by omega, by omega, by rfl⟩
      · intro k S1 hI
        obtain ⟨j, hj, rfl, rfl⟩ := hI
        have hcase2 : j = l.length ∨ (j < l.length ∧ j = c) ∨ (j < l.length ∧ ¬ j = c) := by omega
        intro K91 hn91 hr91 he91
        rcases hcase2 with hcd | ⟨hcd, hjc⟩ | ⟨hcd, hjc⟩
        · skip
          have z2 : ¬ (j : Int) < (l.length : Int) := by omega
          have F3 := And.intro F2 @z2
          refine ev_seq_k fun K92 hn92 hr92 he92 => ?_
          refine ev_seq_k fun K93 hn93 hr93 he93 => ?_
          refine ev_ops_k fun K94 hk94 => ?_
          refine sh1 F3 ?_
          refine sd ?_
          refine hk94 _ ?_
          refine hn93 (some ([0, 7, 10, 14, 20, 149], none)) _ ?_
          refine ev_cond_k rfl (fun hx => absurd hx (by simp at hx)) (fun hc7 => ?_)
          clear hc7
          refine he92 2 _ ?_
          refine he91 2 _ ?_
          refine hx90 _ ?_
          refine hn87 (some ([], none)) _ ?_
          refine ev_seq_k fun K95 hn95 hr95 he95 => ?_
          refine ev_ops_k fun K96 hk96 => ?_
          refine evL_take 1 fun K97 hk97 => ?_
          refine sh1 F3 ?_
          refine Or.inl (Or.inl ⟨_, ka, ?_⟩)
          refine hk97 _ ?_
          refine sh1 F3 ?_
          refine hk96 _ ?_
          refine hn95 (some ([6], none)) _ ?_
          exact sf1 F3
        · skip
          have z2 : (j : Int) < (l.length : Int) := by omega
          have z3 : IntKind.i64.wrap ((j : Int) + 1) = ((j + 1 : Nat) : Int) := by rw [IntKind.wrap_i64]; omega
          obtain ⟨a, ha2⟩ : ∃ a, V.tasks[j]? = some a := ⟨_, List.getElem?_eq_getElem (by omega)⟩
          have ha3 : X.tasks[j]? = some a := by rw [x1]; exact ha2
          have k11 := ok_kSteps a
          have z4 : j < V.tasks.length := by omega
          have z5 : j < X.tasks.length := by omega
          have z6 : (j : Int) < (V.tasks.length : Int) := by omega
          have z7 : (j : Int) < (X.tasks.length : Int) := by omega
          have z8 : ((j : Int) != (c : Int)) = false := by rw [hjc]; simp
          have F4 := And.intro F2 (And.intro @z2 (And.intro @z3 (And.intro @ha2 (And.intro @ha3 (And.intro @z4 (And.intro @z5 (And.intro @z6 (And.intro @z7 @z8))))))))
          refine ev_seq_k fun K98 hn98 hr98 he98 => ?_
          refine ev_seq_k fun K99 hn99 hr99 he99 => ?_
          refine ev_ops_k fun K100 hk100 => ?_
          refine sh1 F4 ?_
          refine sd ?_
          refine hk100 _ ?_
          refine hn99 (some ([0, 7, 10, 14, 20, 149], none)) _ ?_
          refine ev_cond_k rfl (fun hc7 => ?_) (fun hx => absurd hx (by simp at hx))
          clear hc7
          refine hn98 (some ([0, 7, 10, 14, 20], none)) _ ?_
          refine ev_seq_k fun K101 hn101 hr101 he101 => ?_
          refine ev_block_k fun K102 hn102 hx102 hr102 he102 => ?_
          refine ev_seq_k fun K103 hn103 hr103 he103 => ?_
          refine ev_drw_k [] (n := 29) fun K104 hk104 => ?_
          refine sq0 ?_
          refine evF_take 2 fun K106 hk106 => ?_
          refine sh1 F4 ?_
          refine sd ?_
          refine hk106 _ _ _ ?_
          refine evF_take 2 fun K107 hk107 => ?_
          refine sh1 F4 ?_
          refine sd ?_
          refine hk107 _ _ _ ?_
          refine evF_take 1 fun K108 hk108 => ?_
          refine sh1 F4 ?_
          refine sd ?_
          refine hk108 _ _ _ ?_
          refine evF_take 1 fun K109 hk109 => ?_
          refine sh1 F4 ?_
          refine ⟨_, k11, ?_⟩
          refine hk109 _ _ _ ?_
          refine evF_take 2 fun K110 hk110 => ?_
          refine sh1 F4 ?_
          refine sd ?_
          refine hk110 _ _ _ ?_
          refine evF_take 2 fun K111 hk111 => ?_
          refine sh1 F4 ?_
          refine sd ?_
          refine hk111 _ _ _ ?_
          refine evF_take 1 fun K112 hk112 => ?_
          refine sh1 F4 ?_
          refine sd ?_
          refine hk112 _ _ _ ?_
          refine evF_take 1 fun K113 hk113 => ?_
          refine sh1 F4 ?_
          refine ⟨_, k11, ?_⟩
          refine hk113 _ _ _ ?_
          refine evF_take 1 fun K114 hk114 => ?_
          refine sh1 F4 ?_
          refine sd ?_
          refine hk114 _ _ _ ?_
          refine evF_take 4 fun K115 hk115 => ?_
          refine sh1 F4 ?_
          refine sd ?_
          refine hk115 _ _ _ ?_
          refine evF_take 1 fun K116 hk116 => ?_
          refine sh1 F4 ?_
          refine sd ?_
          refine hk116 _ _ _ ?_
          refine evF_take 3 fun K117 hk117 => ?_
          refine sh1 F4 ?_
          refine sd ?_
          refine hk117 _ _ _ ?_
          refine evF_take 2 fun K118 hk118 => ?_
          refine sh1 F4 ?_
          refine sd ?_
          refine hk118 _ _ _ ?_
          refine evF_take 1 fun K119 hk119 => ?_
          refine sh1 F4 ?_
          refine sd ?_
          refine hk119 _ _ _ ?_
          refine evF_take 2 fun K120 hk120 => ?_
          refine sh1 F4 ?_
          refine sd ?_
          refine hk120 _ _ _ ?_
          refine evF_take 2 fun K121 hk121 => ?_
          refine sh1 F4 ?_
          refine sd ?_
          refine hk121 _ _ _ ?_
          refine sh1 F4 ?_
          refine sd ?_
          refine hk104 _ ?_
          refine sr0 ?_
          refine evL_take 1 fun K122 hk122 => ?_
          refine sh1 F4 ?_
          skip
          refine hk122 _ ?_
          refine sh1 F4 ?_
          refine hn103 (some ([0, 7, 10, 14, 20, 183], none)) _ ?_
          refine ev_cond_k rfl (fun hx => absurd hx (by simp at hx)) (fun hc8 => ?_)
          clear hc8
          refine hn102 _ ?_
          refine hn101 (some ([0, 7, 10, 14, 20], none)) _ ?_
          refine ev_ops_k fun K123 hk123 => ?_
          refine evL_take 2 fun K124 hk124 => ?_
          refine sh1 F4 ?_
          refine sd ?_
          refine hk124 _ ?_
          refine sh1 F4 ?_
          refine hk123 _ ?_
          refine hn91 (l.length - (j + 1)) (some ([0, 7, 10, 14, 20], some ([0, 1], 2))) _ ?_ ?_
          all_goals try refine lp0 ?_
          · omega
          · exact ⟨j + 1, by omega, by omega, rfl⟩
        · skip
          have z2 : (j : Int) < (l.length : Int) := by omega
          have z3 : IntKind.i64.wrap ((j : Int) + 1) = ((j + 1 : Nat) : Int) := by rw [IntKind.wrap_i64]; omega
          obtain ⟨a, ha2⟩ : ∃ a, V.tasks[j]? = some a := ⟨_, List.getElem?_eq_getElem (by omega)⟩
          have ha3 : X.tasks[j]? = some a := by rw [x1]; exact ha2
          obtain ⟨sj, hs2⟩ : ∃ a, V.stopped[j]? = some a := ⟨_, List.getElem?_eq_getElem (by omega)⟩
          have hs3 : X.stopped[j]? = some sj := by rw [x3, List.getElem?_set_ne (fun h => hjc h.symm)]; exact hs2
          have k11 := ok_kSteps a
          have z4 : j < V.tasks.length := by omega
          have z5 : j < X.tasks.length := by omega
          have z6 : (j : Int) < (V.tasks.length : Int) := by omega
          have z7 : (j : Int) < (X.tasks.length : Int) := by omega
          have z8 : ((j : Int) != (c : Int)) = true := by simp only [bne_iff_ne, ne_eq]; omega
          have s4 : j < V.stopped.length := by omega
          have s5 : j < X.stopped.length := by omega
          have s6 : (j : Int) < (V.stopped.length : Int) := by omega
          have s7 : (j : Int) < (X.stopped.length : Int) := by omega
          have F5 := And.intro F2 (And.intro @z2 (And.intro @z3 (And.intro @ha2 (And.intro @ha3 (And.intro @z4 (And.intro @z5 (And.intro @z6 (And.intro @z7 (And.intro @z8 (And.intro @hs2 (And.intro @hs3 (And.intro @s4 (And.intro @s5 (And.intro @s6 @s7))))))))))))))
          refine ev_seq_k fun K125 hn125 hr125 he125 => ?_
          refine ev_seq_k fun K126 hn126 hr126 he126 => ?_
          refine ev_ops_k fun K127 hk127 => ?_
          refine sh1 F5 ?_
          refine sd ?_
          refine hk127 _ ?_
          refine hn126 (some ([0, 7, 10, 14, 20, 149], none)) _ ?_
          refine ev_cond_k rfl (fun hc7 => ?_) (fun hx => absurd hx (by simp at hx))
          clear hc7
          refine hn125 (some ([0, 7, 10, 14, 20], none)) _ ?_
          refine ev_seq_k fun K128 hn128 hr128 he128 => ?_
          refine ev_block_k fun K129 hn129 hx129 hr129 he129 => ?_
          refine ev_seq_k fun K130 hn130 hr130 he130 => ?_
          refine ev_drw_k [] (n := 29) fun K131 hk131 => ?_
          refine sq0 ?_
          refine evF_take 2 fun K133 hk133 => ?_
          refine sh1 F5 ?_
          refine sd ?_
          refine hk133 _ _ _ ?_
          refine evF_take 2 fun K134 hk134 => ?_
          refine sh1 F5 ?_
          refine sd ?_
          refine hk134 _ _ _ ?_
          refine evF_take 1 fun K135 hk135 => ?_
          refine sh1 F5 ?_
          refine sd ?_
          refine hk135 _ _ _ ?_
          refine evF_take 1 fun K136 hk136 => ?_
          refine sh1 F5 ?_
          refine ⟨_, k11, ?_⟩
          refine hk136 _ _ _ ?_
          refine evF_take 2 fun K137 hk137 => ?_
          refine sh1 F5 ?_
          refine sd ?_
          refine hk137 _ _ _ ?_
          refine evF_take 2 fun K138 hk138 => ?_
          refine sh1 F5 ?_
          refine sd ?_
          refine hk138 _ _ _ ?_
          refine evF_take 1 fun K139 hk139 => ?_
          refine sh1 F5 ?_
          refine sd ?_
          refine hk139 _ _ _ ?_
          refine evF_take 1 fun K140 hk140 => ?_
          refine sh1 F5 ?_
          refine ⟨_, k11, ?_⟩
          refine hk140 _ _ _ ?_
          refine evF_take 1 fun K141 hk141 => ?_
          refine sh1 F5 ?_
          refine sd ?_
          refine hk141 _ _ _ ?_
          refine evF_take 4 fun K142 hk142 => ?_
          refine sh1 F5 ?_
          refine sd ?_
          refine hk142 _ _ _ ?_
          refine evF_take 1 fun K143 hk143 => ?_
          refine sh1 F5 ?_
          refine sd ?_
          refine hk143 _ _ _ ?_
          refine evF_take 3 fun K144 hk144 => ?_
          refine sh1 F5 ?_
          refine sd ?_
          refine hk144 _ _ _ ?_
          refine evF_take 2 fun K145 hk145 => ?_
          refine sh1 F5 ?_
          refine sd ?_
          refine hk145 _ _ _ ?_
          refine evF_take 1 fun K146 hk146 => ?_
          refine sh1 F5 ?_
          refine sd ?_
          refine hk146 _ _ _ ?_
          refine evF_take 2 fun K147 hk147 => ?_
          refine sh1 F5 ?_
          refine sd ?_
          refine hk147 _ _ _ ?_
          refine evF_take 2 fun K148 hk148 => ?_
          refine sh1 F5 ?_
          refine sd ?_
          refine hk148 _ _ _ ?_
          refine sh1 F5 ?_
          refine sd ?_
          refine hk131 _ ?_
          refine sr0 ?_
          refine evL_take 1 fun K149 hk149 => ?_
          refine sh1 F5 ?_
          refine Or.inl ⟨_, eqsh_bool_refl _, ?_⟩
          refine hk149 _ ?_
          refine sh1 F5 ?_
          refine hn130 (some ([0, 7, 10, 14, 20, 183], none)) _ ?_
          refine ev_cond_k rfl (fun hx => absurd hx (by simp at hx)) (fun hc8 => ?_)
          clear hc8
          refine hn129 _ ?_
          refine hn128 (some ([0, 7, 10, 14, 20], none)) _ ?_
          refine ev_ops_k fun K150 hk150 => ?_
          refine evL_take 2 fun K151 hk151 => ?_
          refine sh1 F5 ?_
          refine sd ?_
          refine hk151 _ ?_
          refine sh1 F5 ?_
          refine hk150 _ ?_
          refine hn91 (l.length - (j + 1)) (some ([0, 7, 10, 14, 20], some ([0, 1], 2))) _ ?_ ?_
          all_goals try refine lp0 ?_
          · omega
          · exact ⟨j + 1, by omega, by omega, rfl⟩
    · skip
      have hlt := (List.getElem?_eq_some_iff.1 hp).1
      have w2 : (i : Int) < (ps.length : Int) := by omega
      have w3 : IntKind.i64.wrap ((i : Int) + 1) = ((i + 1 : Nat) : Int) := by rw [IntKind.wrap_i64]; omega
      have w4 : (p.kind != 2) = false := by simpa using hpk
      have hn : noCr (ps.take (i + 1)) = noCr (ps.take i) := by rw [noCr_succ hp, if_pos hpk, List.append_nil]
      have F6 := And.intro F1 (And.intro @w2 (And.intro @w3 (And.intro @hp @w4)))
      refine ev_seq_k fun K152 hn152 hr152 he152 => ?_
      refine ev_seq_k fun K153 hn153 hr153 he153 => ?_
      refine ev_ops_k fun K154 hk154 => ?_
      refine sh1 F6 ?_
      refine sd ?_
      refine hk154 _ ?_
      refine hn153 (some ([0, 1, 7, 10, 11, 47], none)) _ ?_
      refine ev_cond_k rfl (fun hc2 => ?_) (fun hx => absurd hx (by simp at hx))
      clear hc2
      refine hn152 (some ([0, 1, 7, 10, 11], none)) _ ?_
      refine ev_seq_k fun K155 hn155 hr155 he155 => ?_
      refine ev_block_k fun K156 hn156 hx156 hr156 he156 => ?_
      refine ev_seq_k fun K157 hn157 hr157 he157 => ?_
      refine ev_ops_k fun K158 hk158 => ?_
      refine evL_take 3 fun K159 hk159 => ?_
      refine sh1 F6 ?_
      refine sd ?_
      refine hk159 _ ?_
      refine evL_take 2 fun K160 hk160 => ?_
      refine sh1 F6 ?_
      refine sd ?_
      refine hk160 _ ?_
      refine sh1 F6 ?_
      refine sd ?_
      refine hk158 _ ?_
      refine hn157 (some ([0, 1, 7, 10, 11, 55], none)) _ ?_
      refine ev_cond_k rfl (fun hx => absurd hx (by simp at hx)) (fun hc3 => ?_)
      clear hc3
      refine hn156 _ ?_
      refine hn155 (some ([0, 1, 7, 10, 11], none)) _ ?_
      refine ev_ops_k fun K161 hk161 => ?_
      refine evL_take 2 fun K162 hk162 => ?_
      refine sh1 F6 ?_
      refine sd ?_
      refine hk162 _ ?_
      refine sh1 F6 ?_
      refine hk161 _ ?_
      refine hn27 (ps.length - (i + 1)) (some ([0, 1, 7, 10, 11], some ([0], 1))) _ ?_ ?_
      all_goals try refine lp0 ?_
      · omega
      · exact ⟨i + 1, by omega, by omega, by rw [hn]⟩
    · skip
      have hlt := (List.getElem?_eq_some_iff.1 hp).1
      have w2 : (i : Int) < (ps.length : Int) := by omega
      have w3 : IntKind.i64.wrap ((i : Int) + 1) = ((i + 1 : Nat) : Int) := by rw [IntKind.wrap_i64]; omega
      have w4 : (p.kind != 2) = true := by simpa using hpk
      have hn : noCr (ps.take (i + 1)) = noCr (ps.take i) ++ [p] := by rw [noCr_succ hp, if_neg hpk]
      have hn2 := noCr_len (ps.take i)
      have hn3 : (ps.take i).length = i := by simp; omega
      have k3 := ok_kStep (runW W (noCr (ps.take i))) p (runOk (noCr (ps.take i)) hW) (by omega)
      have hr : (stepM (runW W (noCr (ps.take i))) p).1 = runW W (noCr (ps.take (i + 1))) := by rw [hn, runW_app]; rfl
      rw [hr] at k3
      generalize (stepM (runW W (noCr (ps.take i))) p).2 = b2 at k3
      have F7 := And.intro F1 (And.intro @w2 (And.intro @w3 (And.intro @hp @w4)))
      refine ev_seq_k fun K163 hn163 hr163 he163 => ?_
      refine ev_seq_k fun K164 hn164 hr164 he164 => ?_
      refine ev_ops_k fun K165 hk165 => ?_
      refine sh1 F7 ?_
      refine sd ?_
      refine hk165 _ ?_
      refine hn164 (some ([0, 1, 7, 10, 11, 47], none)) _ ?_
      refine ev_cond_k rfl (fun hc2 => ?_) (fun hx => absurd hx (by simp at hx))
      clear hc2
      refine hn163 (some ([0, 1, 7, 10, 11], none)) _ ?_
      refine ev_seq_k fun K166 hn166 hr166 he166 => ?_
      refine ev_block_k fun K167 hn167 hx167 hr167 he167 => ?_
      refine ev_seq_k fun K168 hn168 hr168 he168 => ?_
      refine ev_ops_k fun K169 hk169 => ?_
      refine evL_take 3 fun K170 hk170 => ?_
      refine sh1 F7 ?_
      refine sd ?_
      refine hk170 _ ?_
      refine evL_take 2 fun K171 hk171 => ?_
      refine sh1 F7 ?_
      refine sd ?_
      refine hk171 _ ?_
      refine sh1 F7 ?_
      refine sd ?_
      refine hk169 _ ?_
      refine hn168 (some ([0, 1, 7, 10, 11, 55], none)) _ ?_
      refine ev_cond_k rfl (fun hc3 => ?_) (fun hx => absurd hx (by simp at hx))
      clear hc3
      refine ev_seq_k fun K172 hn172 hr172 he172 => ?_
      refine ev_drw_k [] (n := 10) fun K173 hk173 => ?_
      refine sq0 ?_
      refine evF_take 1 fun K175 hk175 => ?_
      refine sh1 F7 ?_
      refine sd ?_
      refine hk175 _ _ _ ?_
      refine evF_take 3 fun K176 hk176 => ?_
      refine sh1 F7 ?_
      refine sd ?_
      refine hk176 _ _ _ ?_
      refine evF_take 1 fun K177 hk177 => ?_
      refine sh1 F7 ?_
      refine sd ?_
      refine hk177 _ _ _ ?_
      refine evF_take 1 fun K178 hk178 => ?_
      refine sh1 F7 ?_
      refine ⟨_, k3, ?_⟩
      refine hk178 _ _ _ ?_
      refine sh1 F7 ?_
      refine hk173 _ ?_
      refine sr0 ?_
      refine evL_take 1 fun K179 hk179 => ?_
      refine sh1 F7 ?_
      refine sd ?_
      refine hk179 _ ?_
      refine sh1 F7 ?_
      refine hn172 (some ([0, 1, 7, 10, 11, 12], none)) _ ?_
      refine ev_ops_k fun K180 hk180 => ?_
      refine evL_take 1 fun K181 hk181 => ?_
      refine sh1 F7 ?_
      refine sd ?_
      refine hk181 _ ?_
      refine sh1 F7 ?_
      refine sd ?_
      refine hk180 _ ?_
      refine hn167 _ ?_
      refine hn166 (some ([0, 1, 7, 10, 11], none)) _ ?_
      refine ev_ops_k fun K182 hk182 => ?_
      refine evL_take 2 fun K183 hk183 => ?_
      refine sh1 F7 ?_
      refine sd ?_
      refine hk183 _ ?_
      refine sh1 F7 ?_
      refine hk182 _ ?_
      refine hn27 (ps.length - (i + 1)) (some ([0, 1, 7, 10, 11], some ([0], 1))) _ ?_ ?_
      all_goals try refine lp0 ?_
      · omega
      · exact ⟨i + 1, by omega, by omega, rfl⟩
end Go.Proofs.Ytcbdgnjdpfgobaa

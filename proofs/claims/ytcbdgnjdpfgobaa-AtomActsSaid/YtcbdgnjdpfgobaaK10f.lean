/-
  AtomActs, by shadows.
-/
import Derived.Test.YtcbdgnjdpfgobaaK10c
import Derived.Test.YtcbdgnjdpfgobaaK10e
import Derived.Test.YtcbdgnjdpfgobaaScAtomActs
import Derived.Test.YtcbdgnjdpfgobaaMC
namespace Go.Proofs.Ytcbdgnjdpfgobaa
set_option linter.unusedSimpArgs false
set_option linter.unusedVariables false
open Go.RowKit Go.Maps

theorem atW_runs {l : List OpV} {w : WorldM atm} (h : AtW l w) (ps : List PickV) (hp : ∀ p ∈ ps, p.kind ≠ 2) : AtW l (runW w ps) := run_keeps (I := AtW l) (fun w p hp h => (atW_step h p hp).1) ps hp h
theorem great_no {r : RunV} (h : greatR r = false) : r.ops.length ≤ 3 ∧ 1 ≤ r.ops.length ∧ r.picks.length ≤ 120 := by
  have := of_decide_eq_false h
  omega
def AaInv (r : RunV) (L : List OpV) (k : Nat) (S : St) : Prop :=
  ∃ i : Nat, i ≤ r.picks.length ∧ k = r.picks.length - i ∧ S = ⟨[(3, .ptr 0 0 0), (4, .sl 3 0 (L.map eOp)), (24, .sl 3 r.gp (r.picks.map ePick)), (25, sI r.picks.length), (26, sI i)], [(0, boxW (runI (begunW L r.w0 r.w1) isNo r.picks i))], 1⟩
def AaInv2 (r : RunV) (L : List OpV) (i : Nat) (p : PickV) (k : Nat) (S : St) : Prop :=
  ∃ j : Nat, j ≤ L.length ∧ k = L.length - j ∧ S = ⟨[(3, .ptr 0 0 0), (4, .sl 3 0 (L.map eOp)), (7, .ptr 1 0 0), (24, .sl 3 r.gp (r.picks.map ePick)), (25, sI r.picks.length), (26, sI i), (30, .sl 3 0 (L.map eOp)), (31, sI L.length), (32, sI j)], [(0, boxW (runI (begunW L r.w0 r.w1) isNo r.picks i)), (1, .box 84 (ePick p))], 2⟩
set_option maxHeartbeats 8000000 in
theorem ok_AtomActs (r : RunV) : Ok 8 [.agg (cRun r)] (sB true) := by
  refine ok_of_tr Try.func8 tr_AtomActs rfl ?_
  have ka := ok_l10awake
  have k0 := ok_l10Great r
  cases hg : greatR r
  case true =>
    rw [hg] at k0
    unfold evFn sc_AtomActs rv_AtomActs
    refine ev_seq_k fun K1 hn1 hr1 he1 => ?_
    refine ev_ops_k fun K2 hk2 => ?_
    refine sh0 ?_
    refine hk2 _ ?_
    refine hn1 (some ([1], none)) _ ?_
    refine ev_seq_k fun K3 hn3 hr3 he3 => ?_
    refine ev_seq_k fun K4 hn4 hr4 he4 => ?_
    refine ev_ops_k fun K5 hk5 => ?_
    refine evL_take 1 fun K6 hk6 => ?_
    refine sh0 ?_
    refine sd ?_
    refine hk6 _ ?_
    refine sh0 ?_
    refine Or.inl (Or.inl ⟨_, k0, ?_⟩)
    refine hk5 _ ?_
    refine hn4 (some ([1, 13], none)) _ ?_
    refine ev_cond_k rfl (fun hc0 => ?_) (fun hx => absurd hx (by simp at hx))
    clear hc0
    refine ev_seq_k fun K7 hn7 hr7 he7 => ?_
    refine ev_ops_k fun K8 hk8 => ?_
    refine evL_take 1 fun K9 hk9 => ?_
    refine sh0 ?_
    refine Or.inl (Or.inl ⟨_, ka, ?_⟩)
    refine hk9 _ ?_
    refine sh0 ?_
    refine hk8 _ ?_
    refine hn7 (some ([2], none)) _ ?_
    refine hr3 _ ?_
    exact sf0
  rw [hg] at k0
  obtain ⟨g1, g2, g3⟩ := great_no hg
  have hK := shK atm
  have k2 := ok_l10begun r g1
  have hLl := opsM_len r.ops
  have hLo : ∀ o ∈ opsM r.ops, checkA o = 0 ∧ (o.loc = 0 ∨ o.loc = 1) := fun o ho => opsM_mem ho
  have hb : AtW (opsM r.ops) (begunW (opsM r.ops) r.w0 r.w1) := atW_begun (by omega) hLo
  have hi : ∀ i, AtW (opsM r.ops) (runI (begunW (opsM r.ops) r.w0 r.w1) isNo r.picks i) := fun i => atW_runs hb _ (sel_no _ _)
  have hio : ∀ i, WorldOk (runI (begunW (opsM r.ops) r.w0 r.w1) isNo r.picks i) (2 + i) := fun i => runI_ok (begun_ok _ _ _ (by omega)).1 _ _ _
  change Ok _ _ (.tup [eWorld (runI (begunW (opsM r.ops) r.w0 r.w1) isNo r.picks 0), _, _]) at k2
  generalize opsM r.ops = L at k2 hLl hi hio
  clear hb hLo
  unfold evFn sc_AtomActs rv_AtomActs
  have F1 := @hK
  refine ev_seq_k fun K1 hn1 hr1 he1 => ?_
  refine ev_ops_k fun K2 hk2 => ?_
  refine sh1 F1 ?_
  refine hk2 _ ?_
  refine hn1 (some ([1], none)) _ ?_
  refine ev_seq_k fun K3 hn3 hr3 he3 => ?_
  refine ev_seq_k fun K4 hn4 hr4 he4 => ?_
  refine ev_ops_k fun K5 hk5 => ?_
  refine evL_take 1 fun K6 hk6 => ?_
  refine sh1 F1 ?_
  refine sd ?_
  refine hk6 _ ?_
  refine sh1 F1 ?_
  refine Or.inl (Or.inl ⟨_, k0, ?_⟩)
  refine hk5 _ ?_
  refine hn4 (some ([1, 13], none)) _ ?_
  refine ev_cond_k rfl (fun hx => absurd hx (by simp at hx)) (fun hc0 => ?_)
  clear hc0
  refine hn3 (some ([1], none)) _ ?_
  refine ev_seq_k fun K7 hn7 hr7 he7 => ?_
  refine ev_ops_k fun K8 hk8 => ?_
  refine evL_take 1 fun K9 hk9 => ?_
  refine sh1 F1 ?_
  refine sd ?_
  refine hk9 _ ?_
  refine evL_take 1 fun K10 hk10 => ?_
  refine sh1 F1 ?_
  refine Or.inl (Or.inl ⟨_, k2, ?_⟩)
  refine hk10 _ ?_
  refine evL_take 6 fun K11 hk11 => ?_
  refine sh1 F1 ?_
  refine sd ?_
  refine hk11 _ ?_
  refine sh1 F1 ?_
  refine hk8 _ ?_
  refine hn7 (some ([1, 3, 4, 5], none)) _ ?_
  refine ev_seq_k fun K12 hn12 hr12 he12 => ?_
  refine ev_seq_k fun K13 hn13 hr13 he13 => ?_
  refine ev_ops_k fun K14 hk14 => ?_
  refine sh1 F1 ?_
  refine hk14 _ ?_
  refine hn13 (some ([1, 3, 4, 22], none)) _ ?_
  refine ev_cond_k rfl (fun hx => absurd hx (by simp at hx)) (fun hc1 => ?_)
  clear hc1
  refine hn12 (some ([1, 3, 4], none)) _ ?_
  refine ev_seq_k fun K15 hn15 hr15 he15 => ?_
  refine ev_seq_k fun K16 hn16 hr16 he16 => ?_
  refine ev_ops_k fun K17 hk17 => ?_
  refine evL_take 2 fun K18 hk18 => ?_
  refine sh1 F1 ?_
  refine sd ?_
  refine hk18 _ ?_
  refine sh1 F1 ?_
  refine hk17 _ ?_
  refine hn16 (some ([3, 4, 24, 25, 26], none)) _ ?_
  refine ev_block_k fun K19 hn19 hx19 hr19 he19 => ?_
  refine ev_loop_k (AaInv r L) (r.picks.length) (some ([3, 4, 24, 25, 26], some ([1], 1))) ([]) ?_ ?_
  · try refine lp0 ?_
    exact ⟨0, by omega, by omega, by rfl⟩
  · intro k S1 hI
    obtain ⟨i, hi', rfl, rfl⟩ := hI
    have hW := hi i
    have hO := hio i
    have hcase : i = r.picks.length ∨ i < r.picks.length := by omega
    intro K20 hn20 hr20 he20
    rcases hcase with hcc | hcc
    · skip
      have w2 : ¬ (i : Int) < (r.picks.length : Int) := by omega
      have F2 := And.intro F1 @w2
      refine ev_seq_k fun K21 hn21 hr21 he21 => ?_
      refine ev_ops_k fun K22 hk22 => ?_
      refine sh1 F2 ?_
      refine sd ?_
      refine hk22 _ ?_
      refine hn21 (some ([3, 4, 24, 25, 26, 27], none)) _ ?_
      refine ev_seq_k fun K23 hn23 hr23 he23 => ?_
      refine ev_cond_k rfl (fun hx => absurd hx (by simp at hx)) (fun hc2 => ?_)
      clear hc2
      refine he23 0 _ ?_
      refine he20 0 _ ?_
      refine hx19 _ ?_
      refine hn15 (some ([], none)) _ ?_
      refine ev_seq_k fun K24 hn24 hr24 he24 => ?_
      refine ev_ops_k fun K25 hk25 => ?_
      refine evL_take 1 fun K26 hk26 => ?_
      refine sh1 F2 ?_
      refine Or.inl (Or.inl ⟨_, ka, ?_⟩)
      refine hk26 _ ?_
      refine sh1 F2 ?_
      refine hk25 _ ?_
      refine hn24 (some ([2], none)) _ ?_
      exact sf1 F2
    · skip
      have w2 : (i : Int) < (r.picks.length : Int) := by omega
      have w3 : IntKind.i64.wrap ((i : Int) + 1) = ((i + 1 : Nat) : Int) := by rw [IntKind.wrap_i64]; omega
      obtain ⟨p, hp⟩ : ∃ p, r.picks[i]? = some p := ⟨_, List.getElem?_eq_getElem hcc⟩
      have k4 := ok_kStep (runI (begunW L r.w0 r.w1) isNo r.picks i) p hO (by omega)
      have hsz := fun h => (sc_size hO p h).2.2
      have hnx := runI_succ (w := begunW L r.w0 r.w1) (q := isNo) hp
      have hln := hW.len
      have w4 : (((runI (begunW L r.w0 r.w1) isNo r.picks i).tasks.length : Int) != (L.length : Int)) = false := by rw [hln]; simp
      generalize (stepM (runI (begunW L r.w0 r.w1) isNo r.picks i) p).2 = bb at k4
      have F3 := And.intro F1 (And.intro @w2 (And.intro @w3 @hp))
      refine ev_seq_k fun K27 hn27 hr27 he27 => ?_
      refine ev_ops_k fun K28 hk28 => ?_
      refine sh1 F3 ?_
      refine sd ?_
      refine hk28 _ ?_
      refine hn27 (some ([3, 4, 24, 25, 26, 27], none)) _ ?_
      refine ev_seq_k fun K29 hn29 hr29 he29 => ?_
      refine ev_cond_k rfl (fun hc2 => ?_) (fun hx => absurd hx (by simp at hx))
      clear hc2
      refine hn29 (some ([3, 4, 24, 25, 26], none)) _ ?_
      refine ev_seq_k fun K30 hn30 hr30 he30 => ?_
      refine ev_block_k fun K31 hn31 hx31 hr31 he31 => ?_
      refine ev_seq_k fun K32 hn32 hr32 he32 => ?_
      refine ev_ops_k fun K33 hk33 => ?_
      refine evL_take 1 fun K34 hk34 => ?_
      refine sh1 F3 ?_
      refine sd ?_
      refine hk34 _ ?_
      refine evL_take 1 fun K35 hk35 => ?_
      refine sh1 F3 ?_
      refine sd ?_
      refine hk35 _ ?_
      refine sh1 F3 ?_
      refine sd ?_
      refine hk33 _ ?_
      refine hn32 (some ([3, 4, 7, 24, 25, 26], none)) _ ?_
      refine ev_seq_k fun K36 hn36 hr36 he36 => ?_
      refine ev_seq_k fun K37 hn37 hr37 he37 => ?_
      refine ev_ops_k fun K38 hk38 => ?_
      refine sh1 F3 ?_
      refine hk38 _ ?_
      refine hn37 (some ([3, 4, 7, 24, 25, 26, 30, 31, 32], none)) _ ?_
      refine ev_block_k fun K39 hn39 hx39 hr39 he39 => ?_
      refine ev_loop_k (AaInv2 r L i p) (L.length) (some ([3, 4, 7, 24, 25, 26, 30, 31, 32], some ([0, 1], 2))) ([]) ?_ ?_
      · try refine lp0 ?_
        exact ⟨0, by omega, by omega, by rfl⟩
      · intro k S1 hI
        obtain ⟨j, hj', rfl, rfl⟩ := hI
        have hcase2 : j = L.length ∨ (∃ (o : OpV) (y : TaskM atm) (s : AtmV), L[j]? = some o ∧ (runI (begunW L r.w0 r.w1) isNo r.picks i).tasks[j]? = some y ∧ y.live = false) ∨
            (∃ (o : OpV) (y : TaskM atm), L[j]? = some o ∧ (runI (begunW L r.w0 r.w1) isNo r.picks i).tasks[j]? = some y ∧ y.live = true ∧ y.act = lookA o) ∨
            (∃ (o : OpV) (y : TaskM atm) (g : WordV), L[j]? = some o ∧ (runI (begunW L r.w0 r.w1) isNo r.picks i).tasks[j]? = some y ∧ y.live = true ∧ y.act = swapA o g) := by
          rcases Nat.lt_or_ge j L.length with h | h
          · obtain ⟨o, ho⟩ : ∃ o, L[j]? = some o := ⟨_, List.getElem?_eq_getElem h⟩
            obtain ⟨y, hy⟩ : ∃ y, (runI (begunW L r.w0 r.w1) isNo r.picks i).tasks[j]? = some y := ⟨_, List.getElem?_eq_getElem (by omega)⟩
            obtain ⟨s, hs⟩ := hW.task j o y ho hy
            cases hl : y.live
            · exact .inr (.inl ⟨o, y, s, ho, hy, hl⟩)
            · have hfin : s.fin = false := by have := hs.live; rw [hl] at this; simpa using this.symm
              rcases hs.act hfin with ⟨_, _, e⟩ | ⟨_, g, e, _⟩
              · exact .inr (.inr (.inl ⟨o, y, ho, hy, hl, e⟩))
              · exact .inr (.inr (.inr ⟨o, y, g, ho, hy, hl, e⟩))
          · exact .inl (by omega)
        intro K40 hn40 hr40 he40
        rcases hcase2 with hcd | ⟨o, y, s, ho, hy, hl⟩ | ⟨o, y, ho, hy, hl, ha⟩ | ⟨o, y, g, ho, hy, hl, ha⟩
        · skip
          have z2 : ¬ (j : Int) < (L.length : Int) := by omega
          have F4 := And.intro F3 @z2
          refine ev_seq_k fun K41 hn41 hr41 he41 => ?_
          refine ev_ops_k fun K42 hk42 => ?_
          refine sh1 F4 ?_
          refine sd ?_
          refine hk42 _ ?_
          refine hn41 (some ([3, 4, 7, 24, 25, 26, 30, 31, 32, 33], none)) _ ?_
          refine ev_seq_k fun K43 hn43 hr43 he43 => ?_
          refine ev_cond_k rfl (fun hx => absurd hx (by simp at hx)) (fun hc3 => ?_)
          clear hc3
          refine he43 2 _ ?_
          refine he40 2 _ ?_
          refine hx39 _ ?_
          refine hn36 (some ([3, 4, 7, 24, 25, 26], none)) _ ?_
          refine ev_seq_k fun K44 hn44 hr44 he44 => ?_
          refine ev_seq_k fun K45 hn45 hr45 he45 => ?_
          refine ev_ops_k fun K46 hk46 => ?_
          refine evL_take 2 fun K47 hk47 => ?_
          refine sh1 F4 ?_
          refine sd ?_
          refine hk47 _ ?_
          refine sh1 F4 ?_
          refine sd ?_
          refine hk46 _ ?_
          refine hn45 (some ([3, 4, 7, 24, 25, 26, 87], none)) _ ?_
          refine ev_cond_k rfl (fun hc7 => ?_) (fun hc7 => ?_)
          · try replace hc7 := hcS hc7
            have w8 : (((stepM (runI (begunW L r.w0 r.w1) isNo r.picks i) p).1.tasks.length : Int) != (L.length : Int)) = false := by rw [hsz hc7, hln]; simp
            rw [if_pos (show isNo p = true by simpa [isNo] using hc7)] at hnx
            have F5 := And.intro F4 @w8
            refine ev_ops_k fun K48 hk48 => ?_
            refine evL_take 1 fun K49 hk49 => ?_
            refine sh1 F5 ?_
            refine sd ?_
            refine hk49 _ ?_
            refine evL_take 1 fun K50 hk50 => ?_
            refine sh1 F5 ?_
            refine sd ?_
            refine hk50 _ ?_
            refine evL_take 1 fun K51 hk51 => ?_
            refine sh1 F5 ?_
            refine Or.inl (Or.inl ⟨_, k4, ?_⟩)
            refine hk51 _ ?_
            refine sh1 F5 ?_
            refine sd ?_
            refine hk48 _ ?_
            refine hn44 (some ([3, 4, 24, 25, 26], none)) _ ?_
            refine ev_seq_k fun K52 hn52 hr52 he52 => ?_
            refine ev_ops_k fun K53 hk53 => ?_
            refine evL_take 2 fun K54 hk54 => ?_
            refine sh1 F5 ?_
            refine sd ?_
            refine hk54 _ ?_
            refine sh1 F5 ?_
            refine sd ?_
            refine hk53 _ ?_
            refine hn52 (some ([3, 4, 24, 25, 26, 99], none)) _ ?_
            refine ev_cond_k rfl (fun hx => absurd hx (by simp at hx)) (fun hc8 => ?_)
            clear hc8
            refine hn31 _ ?_
            refine hn30 (some ([3, 4, 24, 25, 26], none)) _ ?_
            refine ev_ops_k fun K55 hk55 => ?_
            refine evL_take 1 fun K56 hk56 => ?_
            refine sh1 F5 ?_
            refine sd ?_
            refine hk56 _ ?_
            refine sh1 F5 ?_
            refine hk55 _ ?_
            refine hn20 (r.picks.length - (i + 1)) (some ([3, 4, 24, 25, 26], some ([0], 1))) _ ?_ ?_
            all_goals try refine lp0 ?_
            · omega
            · exact ⟨i + 1, by omega, by omega, by rw [hnx]⟩
          · try replace hc7 := hcS hc7
            rw [if_neg (show ¬ isNo p = true by simpa [isNo] using hc7)] at hnx
            have F6 := And.intro F4 @w4
            refine hn44 (some ([3, 4, 24, 25, 26], none)) _ ?_
            refine ev_seq_k fun K57 hn57 hr57 he57 => ?_
            refine ev_ops_k fun K58 hk58 => ?_
            refine evL_take 2 fun K59 hk59 => ?_
            refine sh1 F6 ?_
            refine sd ?_
            refine hk59 _ ?_
            refine sh1 F6 ?_
            refine sd ?_
            refine hk58 _ ?_
            refine hn57 (some ([3, 4, 24, 25, 26, 99], none)) _ ?_
            refine ev_cond_k rfl (fun hx => absurd hx (by simp at hx)) (fun hc8 => ?_)
            clear hc8
            refine hn31 _ ?_
            refine hn30 (some ([3, 4, 24, 25, 26], none)) _ ?_
            refine ev_ops_k fun K60 hk60 => ?_
            refine evL_take 1 fun K61 hk61 => ?_
            refine sh1 F6 ?_
            refine sd ?_
            refine hk61 _ ?_
            refine sh1 F6 ?_
            refine hk60 _ ?_
            refine hn20 (r.picks.length - (i + 1)) (some ([3, 4, 24, 25, 26], some ([0], 1))) _ ?_ ?_
            all_goals try refine lp0 ?_
            · omega
            · exact ⟨i + 1, by omega, by omega, by rw [hnx]⟩
        · skip
          have hlt := (List.getElem?_eq_some_iff.1 ho).1
          have z2 : (j : Int) < (L.length : Int) := by omega
          have z3 : IntKind.i64.wrap ((j : Int) + 1) = ((j + 1 : Nat) : Int) := by rw [IntKind.wrap_i64]; omega
          have z4 : j < (runI (begunW L r.w0 r.w1) isNo r.picks i).tasks.length := by omega
          have z5 : (j : Int) < ((runI (begunW L r.w0 r.w1) isNo r.picks i).tasks.length : Int) := by omega
          have k3 := ok_kAct y
          rw [hl] at k3
          have F7 := And.intro F3 (And.intro @z2 (And.intro @z3 (And.intro @z4 (And.intro @z5 (And.intro @ho @hy)))))
          refine ev_seq_k fun K62 hn62 hr62 he62 => ?_
          refine ev_ops_k fun K63 hk63 => ?_
          refine sh1 F7 ?_
          refine sd ?_
          refine hk63 _ ?_
          refine hn62 (some ([3, 4, 7, 24, 25, 26, 30, 31, 32, 33], none)) _ ?_
          refine ev_seq_k fun K64 hn64 hr64 he64 => ?_
          refine ev_cond_k rfl (fun hc3 => ?_) (fun hx => absurd hx (by simp at hx))
          clear hc3
          refine hn64 (some ([3, 4, 7, 24, 25, 26, 30, 31, 32], none)) _ ?_
          refine ev_seq_k fun K65 hn65 hr65 he65 => ?_
          refine ev_block_k fun K66 hn66 hx66 hr66 he66 => ?_
          refine ev_seq_k fun K67 hn67 hr67 he67 => ?_
          refine ev_ops_k fun K68 hk68 => ?_
          refine evL_take 2 fun K69 hk69 => ?_
          refine sh1 F7 ?_
          refine sd ?_
          refine hk69 _ ?_
          refine evL_take 1 fun K70 hk70 => ?_
          refine sh1 F7 ?_
          refine sd ?_
          refine hk70 _ ?_
          refine sh1 F7 ?_
          refine sd ?_
          refine hk68 _ ?_
          refine hn67 (some ([3, 4, 7, 8, 9, 24, 25, 26, 30, 31, 32], none)) _ ?_
          refine ev_seq_k fun K71 hn71 hr71 he71 => ?_
          refine ev_ops_k fun K72 hk72 => ?_
          refine evL_take 2 fun K73 hk73 => ?_
          refine sh1 F7 ?_
          refine sd ?_
          refine hk73 _ ?_
          refine evL_take 2 fun K74 hk74 => ?_
          refine sh1 F7 ?_
          refine sd ?_
          refine hk74 _ ?_
          refine evL_take 1 fun K75 hk75 => ?_
          refine sh1 F7 ?_
          refine sd ?_
          refine hk75 _ ?_
          refine evL_take 1 fun K76 hk76 => ?_
          refine sh1 F7 ?_
          refine Or.inl (Or.inl ⟨_, k3, ?_⟩)
          refine hk76 _ ?_
          refine evL_take 5 fun K77 hk77 => ?_
          refine sh1 F7 ?_
          refine sd ?_
          refine hk77 _ ?_
          refine sh1 F7 ?_
          refine hk72 _ ?_
          refine hn71 (some ([3, 4, 7, 9, 10, 11, 24, 25, 26, 30, 31, 32], none)) _ ?_
          refine ev_seq_k fun K78 hn78 hr78 he78 => ?_
          refine ev_seq_k fun K79 hn79 hr79 he79 => ?_
          refine ev_ops_k fun K80 hk80 => ?_
          refine sh1 F7 ?_
          refine hk80 _ ?_
          refine hn79 (some ([3, 4, 7, 9, 10, 24, 25, 26, 30, 31, 32, 47], none)) _ ?_
          refine ev_cond_k rfl (fun hc4 => ?_) (fun hx => absurd hx (by simp at hx))
          clear hc4
          refine he78 3 _ ?_
          refine hx66 _ ?_
          refine hn65 (some ([3, 4, 7, 24, 25, 26, 30, 31, 32], none)) _ ?_
          refine ev_ops_k fun K81 hk81 => ?_
          refine evL_take 1 fun K82 hk82 => ?_
          refine sh1 F7 ?_
          refine sd ?_
          refine hk82 _ ?_
          refine sh1 F7 ?_
          refine hk81 _ ?_
          refine hn40 (L.length - (j + 1)) (some ([3, 4, 7, 24, 25, 26, 30, 31, 32], some ([0, 1], 2))) _ ?_ ?_
          all_goals try refine lp0 ?_
          · omega
          · exact ⟨j + 1, by omega, by omega, rfl⟩
        · skip
          have hlt := (List.getElem?_eq_some_iff.1 ho).1
          have z2 : (j : Int) < (L.length : Int) := by omega
          have z3 : IntKind.i64.wrap ((j : Int) + 1) = ((j + 1 : Nat) : Int) := by rw [IntKind.wrap_i64]; omega
          have z4 : j < (runI (begunW L r.w0 r.w1) isNo r.picks i).tasks.length := by omega
          have z5 : (j : Int) < ((runI (begunW L r.w0 r.w1) isNo r.picks i).tasks.length : Int) := by omega
          have k3 := ok_kAct y
          rw [hl, ha] at k3
          simp only [lookA, zWord] at k3
          have F8 := And.intro F3 (And.intro @z2 (And.intro @z3 (And.intro @z4 (And.intro @z5 (And.intro @ho @hy)))))
          refine ev_seq_k fun K83 hn83 hr83 he83 => ?_
          refine ev_ops_k fun K84 hk84 => ?_
          refine sh1 F8 ?_
          refine sd ?_
          refine hk84 _ ?_
          refine hn83 (some ([3, 4, 7, 24, 25, 26, 30, 31, 32, 33], none)) _ ?_
          refine ev_seq_k fun K85 hn85 hr85 he85 => ?_
          refine ev_cond_k rfl (fun hc3 => ?_) (fun hx => absurd hx (by simp at hx))
          clear hc3
          refine hn85 (some ([3, 4, 7, 24, 25, 26, 30, 31, 32], none)) _ ?_
          refine ev_seq_k fun K86 hn86 hr86 he86 => ?_
          refine ev_block_k fun K87 hn87 hx87 hr87 he87 => ?_
          refine ev_seq_k fun K88 hn88 hr88 he88 => ?_
          refine ev_ops_k fun K89 hk89 => ?_
          refine evL_take 2 fun K90 hk90 => ?_
          refine sh1 F8 ?_
          refine sd ?_
          refine hk90 _ ?_
          refine evL_take 1 fun K91 hk91 => ?_
          refine sh1 F8 ?_
          refine sd ?_
          refine hk91 _ ?_
          refine sh1 F8 ?_
          refine sd ?_
          refine hk89 _ ?_
          refine hn88 (some ([3, 4, 7, 8, 9, 24, 25, 26, 30, 31, 32], none)) _ ?_
          refine ev_seq_k fun K92 hn92 hr92 he92 => ?_
          refine ev_ops_k fun K93 hk93 => ?_
          refine evL_take 2 fun K94 hk94 => ?_
          refine sh1 F8 ?_
          refine sd ?_
          refine hk94 _ ?_
          refine evL_take 2 fun K95 hk95 => ?_
          refine sh1 F8 ?_
          refine sd ?_
          refine hk95 _ ?_
          refine evL_take 1 fun K96 hk96 => ?_
          refine sh1 F8 ?_
          refine sd ?_
          refine hk96 _ ?_
          refine evL_take 1 fun K97 hk97 => ?_
          refine sh1 F8 ?_
          refine Or.inl (Or.inl ⟨_, k3, ?_⟩)
          refine hk97 _ ?_
          refine evL_take 5 fun K98 hk98 => ?_
          refine sh1 F8 ?_
          refine sd ?_
          refine hk98 _ ?_
          refine sh1 F8 ?_
          refine hk93 _ ?_
          refine hn92 (some ([3, 4, 7, 9, 10, 11, 24, 25, 26, 30, 31, 32], none)) _ ?_
          refine ev_seq_k fun K99 hn99 hr99 he99 => ?_
          refine ev_seq_k fun K100 hn100 hr100 he100 => ?_
          refine ev_ops_k fun K101 hk101 => ?_
          refine sh1 F8 ?_
          refine hk101 _ ?_
          refine hn100 (some ([3, 4, 7, 9, 10, 24, 25, 26, 30, 31, 32, 47], none)) _ ?_
          refine ev_cond_k rfl (fun hx => absurd hx (by simp at hx)) (fun hc4 => ?_)
          clear hc4
          refine hn99 (some ([3, 4, 7, 9, 10, 24, 25, 26, 30, 31, 32], none)) _ ?_
          refine ev_seq_k fun K102 hn102 hr102 he102 => ?_
          refine ev_seq_k fun K103 hn103 hr103 he103 => ?_
          refine ev_ops_k fun K104 hk104 => ?_
          refine evL_take 2 fun K105 hk105 => ?_
          refine sh1 F8 ?_
          refine sd ?_
          refine hk105 _ ?_
          refine evL_take 2 fun K106 hk106 => ?_
          refine sh1 F8 ?_
          refine sd ?_
          refine hk106 _ ?_
          refine evL_take 1 fun K107 hk107 => ?_
          refine sh1 F8 ?_
          refine sd ?_
          refine hk107 _ ?_
          refine evL_take 3 fun K108 hk108 => ?_
          refine sh1 F8 ?_
          refine sd ?_
          refine hk108 _ ?_
          refine evL_take 1 fun K109 hk109 => ?_
          refine sh1 F8 ?_
          refine sd ?_
          refine hk109 _ ?_
          refine evL_take 3 fun K110 hk110 => ?_
          refine sh1 F8 ?_
          refine sd ?_
          refine hk110 _ ?_
          refine evL_take 1 fun K111 hk111 => ?_
          refine sh1 F8 ?_
          refine sd ?_
          refine hk111 _ ?_
          refine sh1 F8 ?_
          refine hk104 _ ?_
          refine hn103 (some ([3, 4, 7, 10, 24, 25, 26, 30, 31, 32, 62], none)) _ ?_
          refine ev_cond_k rfl (fun hx => absurd hx (by simp at hx)) (fun hc5 => ?_)
          clear hc5
          refine hn102 (some ([3, 4, 7, 10, 24, 25, 26, 30, 31, 32], none)) _ ?_
          refine ev_seq_k fun K112 hn112 hr112 he112 => ?_
          refine ev_ops_k fun K113 hk113 => ?_
          refine evL_take 2 fun K114 hk114 => ?_
          refine sh1 F8 ?_
          refine sd ?_
          refine hk114 _ ?_
          refine evL_take 1 fun K115 hk115 => ?_
          refine sh1 F8 ?_
          refine sd ?_
          refine hk115 _ ?_
          refine evL_take 4 fun K116 hk116 => ?_
          refine sh1 F8 ?_
          refine sd ?_
          refine hk116 _ ?_
          refine evL_take 3 fun K117 hk117 => ?_
          refine sh1 F8 ?_
          refine sd ?_
          refine hk117 _ ?_
          refine evL_take 1 fun K118 hk118 => ?_
          refine sh1 F8 ?_
          refine sd ?_
          refine hk118 _ ?_
          refine evL_take 4 fun K119 hk119 => ?_
          refine sh1 F8 ?_
          refine sd ?_
          refine hk119 _ ?_
          refine evL_take 3 fun K120 hk120 => ?_
          refine sh1 F8 ?_
          refine sd ?_
          refine hk120 _ ?_
          refine evL_take 1 fun K121 hk121 => ?_
          refine sh1 F8 ?_
          refine sd ?_
          refine hk121 _ ?_
          refine sh1 F8 ?_
          refine hk113 _ ?_
          refine hn112 (some ([3, 4, 7, 24, 25, 26, 30, 31, 32, 83], none)) _ ?_
          refine ev_cond_k rfl (fun hx => absurd hx (by simp at hx)) (fun hc6 => ?_)
          clear hc6
          refine hn87 _ ?_
          refine hn86 (some ([3, 4, 7, 24, 25, 26, 30, 31, 32], none)) _ ?_
          refine ev_ops_k fun K122 hk122 => ?_
          refine evL_take 1 fun K123 hk123 => ?_
          refine sh1 F8 ?_
          refine sd ?_
          refine hk123 _ ?_
          refine sh1 F8 ?_
          refine hk122 _ ?_
          refine hn40 (L.length - (j + 1)) (some ([3, 4, 7, 24, 25, 26, 30, 31, 32], some ([0, 1], 2))) _ ?_ ?_
          all_goals try refine lp0 ?_
          · omega
          · exact ⟨j + 1, by omega, by omega, rfl⟩
        · skip
          have hlt := (List.getElem?_eq_some_iff.1 ho).1
          have z2 : (j : Int) < (L.length : Int) := by omega
          have z3 : IntKind.i64.wrap ((j : Int) + 1) = ((j + 1 : Nat) : Int) := by rw [IntKind.wrap_i64]; omega
          have z4 : j < (runI (begunW L r.w0 r.w1) isNo r.picks i).tasks.length := by omega
          have z5 : (j : Int) < ((runI (begunW L r.w0 r.w1) isNo r.picks i).tasks.length : Int) := by omega
          have k3 := ok_kAct y
          rw [hl, ha] at k3
          simp only [swapA] at k3
          have F9 := And.intro F3 (And.intro @z2 (And.intro @z3 (And.intro @z4 (And.intro @z5 (And.intro @ho @hy)))))
          refine ev_seq_k fun K124 hn124 hr124 he124 => ?_
          refine ev_ops_k fun K125 hk125 => ?_
          refine sh1 F9 ?_
          refine sd ?_
          refine hk125 _ ?_
          refine hn124 (some ([3, 4, 7, 24, 25, 26, 30, 31, 32, 33], none)) _ ?_
          refine ev_seq_k fun K126 hn126 hr126 he126 => ?_
          refine ev_cond_k rfl (fun hc3 => ?_) (fun hx => absurd hx (by simp at hx))
          clear hc3
          refine hn126 (some ([3, 4, 7, 24, 25, 26, 30, 31, 32], none)) _ ?_
          refine ev_seq_k fun K127 hn127 hr127 he127 => ?_
          refine ev_block_k fun K128 hn128 hx128 hr128 he128 => ?_
          refine ev_seq_k fun K129 hn129 hr129 he129 => ?_
          refine ev_ops_k fun K130 hk130 => ?_
          refine evL_take 2 fun K131 hk131 => ?_
          refine sh1 F9 ?_
          refine sd ?_
          refine hk131 _ ?_
          refine evL_take 1 fun K132 hk132 => ?_
          refine sh1 F9 ?_
          refine sd ?_
          refine hk132 _ ?_
          refine sh1 F9 ?_
          refine sd ?_
          refine hk130 _ ?_
          refine hn129 (some ([3, 4, 7, 8, 9, 24, 25, 26, 30, 31, 32], none)) _ ?_
          refine ev_seq_k fun K133 hn133 hr133 he133 => ?_
          refine ev_ops_k fun K134 hk134 => ?_
          refine evL_take 2 fun K135 hk135 => ?_
          refine sh1 F9 ?_
          refine sd ?_
          refine hk135 _ ?_
          refine evL_take 2 fun K136 hk136 => ?_
          refine sh1 F9 ?_
          refine sd ?_
          refine hk136 _ ?_
          refine evL_take 1 fun K137 hk137 => ?_
          refine sh1 F9 ?_
          refine sd ?_
          refine hk137 _ ?_
          refine evL_take 1 fun K138 hk138 => ?_
          refine sh1 F9 ?_
          refine Or.inl (Or.inl ⟨_, k3, ?_⟩)
          refine hk138 _ ?_
          refine evL_take 5 fun K139 hk139 => ?_
          refine sh1 F9 ?_
          refine sd ?_
          refine hk139 _ ?_
          refine sh1 F9 ?_
          refine hk134 _ ?_
          refine hn133 (some ([3, 4, 7, 9, 10, 11, 24, 25, 26, 30, 31, 32], none)) _ ?_
          refine ev_seq_k fun K140 hn140 hr140 he140 => ?_
          refine ev_seq_k fun K141 hn141 hr141 he141 => ?_
          refine ev_ops_k fun K142 hk142 => ?_
          refine sh1 F9 ?_
          refine hk142 _ ?_
          refine hn141 (some ([3, 4, 7, 9, 10, 24, 25, 26, 30, 31, 32, 47], none)) _ ?_
          refine ev_cond_k rfl (fun hx => absurd hx (by simp at hx)) (fun hc4 => ?_)
          clear hc4
          refine hn140 (some ([3, 4, 7, 9, 10, 24, 25, 26, 30, 31, 32], none)) _ ?_
          refine ev_seq_k fun K143 hn143 hr143 he143 => ?_
          refine ev_seq_k fun K144 hn144 hr144 he144 => ?_
          refine ev_ops_k fun K145 hk145 => ?_
          refine evL_take 2 fun K146 hk146 => ?_
          refine sh1 F9 ?_
          refine sd ?_
          refine hk146 _ ?_
          refine evL_take 2 fun K147 hk147 => ?_
          refine sh1 F9 ?_
          refine sd ?_
          refine hk147 _ ?_
          refine evL_take 1 fun K148 hk148 => ?_
          refine sh1 F9 ?_
          refine sd ?_
          refine hk148 _ ?_
          refine evL_take 3 fun K149 hk149 => ?_
          refine sh1 F9 ?_
          refine sd ?_
          refine hk149 _ ?_
          refine evL_take 1 fun K150 hk150 => ?_
          refine sh1 F9 ?_
          refine sd ?_
          refine hk150 _ ?_
          refine evL_take 3 fun K151 hk151 => ?_
          refine sh1 F9 ?_
          refine sd ?_
          refine hk151 _ ?_
          refine evL_take 1 fun K152 hk152 => ?_
          refine sh1 F9 ?_
          refine sd ?_
          refine hk152 _ ?_
          refine sh1 F9 ?_
          refine hk145 _ ?_
          refine hn144 (some ([3, 4, 7, 10, 24, 25, 26, 30, 31, 32, 62], none)) _ ?_
          refine ev_cond_k rfl (fun hx => absurd hx (by simp at hx)) (fun hc5 => ?_)
          clear hc5
          refine hn143 (some ([3, 4, 7, 10, 24, 25, 26, 30, 31, 32], none)) _ ?_
          refine ev_seq_k fun K153 hn153 hr153 he153 => ?_
          refine ev_ops_k fun K154 hk154 => ?_
          refine evL_take 2 fun K155 hk155 => ?_
          refine sh1 F9 ?_
          refine sd ?_
          refine hk155 _ ?_
          refine evL_take 1 fun K156 hk156 => ?_
          refine sh1 F9 ?_
          refine sd ?_
          refine hk156 _ ?_
          refine evL_take 4 fun K157 hk157 => ?_
          refine sh1 F9 ?_
          refine sd ?_
          refine hk157 _ ?_
          refine evL_take 3 fun K158 hk158 => ?_
          refine sh1 F9 ?_
          refine sd ?_
          refine hk158 _ ?_
          refine evL_take 1 fun K159 hk159 => ?_
          refine sh1 F9 ?_
          refine sd ?_
          refine hk159 _ ?_
          refine evL_take 4 fun K160 hk160 => ?_
          refine sh1 F9 ?_
          refine sd ?_
          refine hk160 _ ?_
          refine evL_take 3 fun K161 hk161 => ?_
          refine sh1 F9 ?_
          refine sd ?_
          refine hk161 _ ?_
          refine evL_take 1 fun K162 hk162 => ?_
          refine sh1 F9 ?_
          refine sd ?_
          refine hk162 _ ?_
          refine sh1 F9 ?_
          refine hk154 _ ?_
          refine hn153 (some ([3, 4, 7, 24, 25, 26, 30, 31, 32, 83], none)) _ ?_
          refine ev_cond_k rfl (fun hx => absurd hx (by simp at hx)) (fun hc6 => ?_)
          clear hc6
          refine hn128 _ ?_
          refine hn127 (some ([3, 4, 7, 24, 25, 26, 30, 31, 32], none)) _ ?_
          refine ev_ops_k fun K163 hk163 => ?_
          refine evL_take 1 fun K164 hk164 => ?_
          refine sh1 F9 ?_
          refine sd ?_
          refine hk164 _ ?_
          refine sh1 F9 ?_
          refine hk163 _ ?_
          refine hn40 (L.length - (j + 1)) (some ([3, 4, 7, 24, 25, 26, 30, 31, 32], some ([0, 1], 2))) _ ?_ ?_
          all_goals try refine lp0 ?_
          · omega
          · exact ⟨j + 1, by omega, by omega, rfl⟩
end Go.Proofs.Ytcbdgnjdpfgobaa

/-
  TaskGives, by shadows.
-/
import Derived.Test.YtcbdgnjdpfgobaaK8g
import Derived.Test.YtcbdgnjdpfgobaaScTaskGives
import Derived.Test.YtcbdgnjdpfgobaaMC
namespace Go.Proofs.Ytcbdgnjdpfgobaa
set_option linter.unusedSimpArgs false
set_option linter.unusedVariables false
open Go.RowKit Go.Maps

theorem eqsh_ft : EqSh 4 (sB false) (sB true) false := eqsh_bool false true
theorem eqsh_tf : EqSh 4 (sB true) (sB false) false := eqsh_bool true false
def tg (acts : List ActM) (given : List GotV) (i : Nat) : TaskM scr :=
  ⟨some (⟨2, acts, given.take (min i acts.length), true⟩ : ScrV), decide (i < acts.length), (actAt acts (min i acts.length)).1, given.take (min i acts.length)⟩
theorem said_tg (acts : List ActM) (l : List GotV) (t : TaskM scr) (h : t.gots = l) (hl : l.length ≤ acts.length) : saidM t (⟨2, acts, l, true⟩ : ScrV) (actAt acts l.length).1 (actAt acts l.length).2 = ⟨some (⟨2, acts, l, true⟩ : ScrV), decide (l.length < acts.length), (actAt acts l.length).1, l⟩ := by
  unfold saidM actAt
  by_cases h1 : l.length < acts.length
  · rw [List.getElem?_eq_getElem h1, decide_eq_true h1, h]
    rfl
  · rw [List.getElem?_eq_none (by omega), decide_eq_false h1, h]
    rfl
theorem tg_zero (acts : List ActM) (given : List GotV) : startM (C := scr) (⟨2, acts, [], false⟩ : ScrV) = tg acts given 0 := by
  have := said_tg acts [] (zTask scr) rfl (Nat.zero_le _)
  unfold tg
  rw [show min 0 acts.length = 0 by omega, List.take_zero]
  exact this
theorem tg_succ (acts : List ActM) (given : List GotV) {i : Nat} {g : GotV} (hi : given[i]? = some g) : giveM (tg acts given i) g = tg acts given (i + 1) := by
  have hlt := (List.getElem?_eq_some_iff.1 hi).1
  by_cases h : i < acts.length
  · have e1 : given.take i ++ [g] = given.take (i + 1) := by rw [List.take_add_one, hi]; rfl
    have e2 : (given.take (i + 1)).length = i + 1 := by simp; omega
    have := said_tg acts (given.take (i + 1)) ⟨some (⟨2, acts, given.take i, true⟩ : ScrV), true, (actAt acts i).1, given.take (i + 1)⟩ rfl (by rw [e2]; omega)
    rw [e2] at this
    unfold tg
    rw [show min i acts.length = i by omega, show min (i + 1) acts.length = i + 1 by omega, decide_eq_true h]
    unfold giveM
    rw [if_pos rfl]
    simp only
    rw [e1]
    refine Eq.trans ?_ this
    show saidM (C := scr) _ (⟨2, acts, if true = true then given.take i ++ [g] else given.take i, true⟩ : ScrV) (actAt acts (if true = true then given.take i ++ [g] else given.take i).length).1 (actAt acts (if true = true then given.take i ++ [g] else given.take i).length).2 = _
    rw [if_pos rfl, e1, e2]
  · unfold giveM tg
    rw [decide_eq_false h, decide_eq_false (show ¬ i + 1 < acts.length by omega), if_neg (by simp), show min i acts.length = acts.length by omega, show min (i + 1) acts.length = acts.length by omega]
theorem tg_ok (acts : List ActM) (given : List GotV) (i : Nat) (h : acts.length ≤ 60) : TaskOk (tg acts given i) 60 :=
  ⟨by simp [tg]; omega, fun _ => ⟨_, rfl⟩, fun s hs => by cases hs; show (given.take (min i acts.length)).length ≤ 60; simp; omega⟩
theorem tg_act (acts : List ActM) (given : List GotV) {i : Nat} {a : ActM} (h : acts[i]? = some a) : (tg acts given i).act = a ∧ (tg acts given i).live = true := by
  have hlt := (List.getElem?_eq_some_iff.1 h).1
  unfold tg actAt
  rw [show min i acts.length = i by omega, h]
  exact ⟨rfl, decide_eq_true hlt⟩
def TgInv (acts : List ActM) (given : List GotV) (k : Nat) (S : St) : Prop :=
  ∃ i : Nat, i ≤ given.length ∧ k = given.length - i ∧ S = ⟨[(0, .sl 8 2 (acts.map eAct4)), (1, .sl 4 2 (given.map eGot)), (5, .ptr 0 0 0), (6, sI i)], [(0, .box 60 (eTask (tg acts given i)))], 1⟩
set_option maxHeartbeats 4000000 in
theorem ok_TaskGives (acts : List ActM) (given : List GotV) : Ok 4 [.sl 8 2 (acts.map eAct4), .sl 4 2 (given.map eGot)] (sB true) := by
  refine ok_of_tr Try.func4 tr_TaskGives rfl ?_
  have ka := ok_l8awake
  by_cases h1 : (60 : Int) < (acts.length : Int)
  · skip
    unfold evFn sc_TaskGives rv_TaskGives
    have F1 := @h1
    refine ev_seq_k fun K1 hn1 hr1 he1 => ?_
    refine ev_ops_k fun K2 hk2 => ?_
    refine sh1 F1 ?_
    refine hk2 _ ?_
    refine hn1 (some ([0, 1], none)) _ ?_
    refine ev_seq_k fun K3 hn3 hr3 he3 => ?_
    refine ev_seq_k fun K4 hn4 hr4 he4 => ?_
    refine ev_ops_k fun K5 hk5 => ?_
    refine evL_take 3 fun K6 hk6 => ?_
    refine sh1 F1 ?_
    refine sd ?_
    refine hk6 _ ?_
    refine evL_take 4 fun K7 hk7 => ?_
    refine sh1 F1 ?_
    refine sd ?_
    refine hk7 _ ?_
    refine sh1 F1 ?_
    refine hk5 _ ?_
    refine hn4 (some ([0, 1, 20], none)) _ ?_
    refine ev_cond_k rfl (fun hc0 => ?_) (fun hx => absurd hx (by simp at hx))
    clear hc0
    refine ev_seq_k fun K8 hn8 hr8 he8 => ?_
    refine ev_ops_k fun K9 hk9 => ?_
    refine evL_take 1 fun K10 hk10 => ?_
    refine sh1 F1 ?_
    refine Or.inl (Or.inl ⟨_, ka, ?_⟩)
    refine hk10 _ ?_
    refine sh1 F1 ?_
    refine hk9 _ ?_
    refine hn8 (some ([4], none)) _ ?_
    refine hr3 _ ?_
    exact sf1 F1
  by_cases h2 : (80 : Int) < (given.length : Int)
  · skip
    unfold evFn sc_TaskGives rv_TaskGives
    have F1 := And.intro @h1 @h2
    refine ev_seq_k fun K1 hn1 hr1 he1 => ?_
    refine ev_ops_k fun K2 hk2 => ?_
    refine sh1 F1 ?_
    refine hk2 _ ?_
    refine hn1 (some ([0, 1], none)) _ ?_
    refine ev_seq_k fun K3 hn3 hr3 he3 => ?_
    refine ev_seq_k fun K4 hn4 hr4 he4 => ?_
    refine ev_ops_k fun K5 hk5 => ?_
    refine evL_take 3 fun K6 hk6 => ?_
    refine sh1 F1 ?_
    refine sd ?_
    refine hk6 _ ?_
    refine evL_take 4 fun K7 hk7 => ?_
    refine sh1 F1 ?_
    refine sd ?_
    refine hk7 _ ?_
    refine sh1 F1 ?_
    refine hk5 _ ?_
    refine hn4 (some ([0, 1, 20], none)) _ ?_
    refine ev_cond_k rfl (fun hc0 => ?_) (fun hx => absurd hx (by simp at hx))
    clear hc0
    refine ev_seq_k fun K8 hn8 hr8 he8 => ?_
    refine ev_ops_k fun K9 hk9 => ?_
    refine evL_take 1 fun K10 hk10 => ?_
    refine sh1 F1 ?_
    refine Or.inl (Or.inl ⟨_, ka, ?_⟩)
    refine hk10 _ ?_
    refine sh1 F1 ?_
    refine hk9 _ ?_
    refine hn8 (some ([4], none)) _ ?_
    refine hr3 _ ?_
    exact sf1 F1
  have hK := shK scr
  have ha60 : acts.length ≤ 60 := by omega
  have k1 := ok_kStart (C := scr) (⟨2, acts, [], false⟩ : ScrV) (n := 0) (Nat.le_refl _) (by decide)
  rw [tg_zero acts given] at k1
  change Ok _ [.ifc 44 (.agg [.sl 8 2 (acts.map eAct4), .sl 4 0 [], sB false])] _ at k1
  have k10 := ok_kDone (zTask scr)
  change Ok _ [.agg [.v .nilIface, .v .nilFunc, sI 0, sI 0, sI 0, sU 0, sU 0, sI 0, sU 0, sU 0, .sl 4 0 []]] (sB true) at k10
  have k11 := ok_kCode (zTask scr)
  change Ok _ [.agg [.v .nilIface, .v .nilFunc, sI 0, sI 0, sI 0, sU 0, sU 0, sI 0, sU 0, sU 0, .sl 4 0 []]] (.v .nilIface) at k11
  have k12 := ok_kStart_nil scr
  change Ok _ _ (.agg [.v .nilIface, .v .nilFunc, sI 0, sI 0, sI 0, sU 0, sU 0, sI 0, sU 0, sU 0, .sl 4 0 []]) at k12
  have hTl : (tg acts given given.length).gots = given.take (min given.length acts.length) := rfl
  have k6 := ok_l8gots (tg acts given given.length) ⟨_, rfl⟩
  change Ok _ _ (.tup [.sl 4 0 ((given.take (min given.length acts.length)).map eGot), sB true]) at k6
  have k8 := ok_kGots (tg acts given given.length) (by rw [hTl]; simp; omega)
  rw [hTl] at k8
  obtain ⟨N, hN⟩ : ∃ N, N = min given.length acts.length := ⟨_, rfl⟩
  have r1 : min (given.length : Int) (acts.length : Int) = (N : Int) := by omega
  have r2 : (N : Int) ≤ (given.length : Int) := by omega
  have r3 : (given.map eGot).take N = (given.take N).map eGot := by rw [List.map_take]
  rw [← hN] at k6 k8
  have k7 := ok_r8Same 0 2 (given.take N) (by simp; omega)
  clear hTl hN
  unfold evFn sc_TaskGives rv_TaskGives
  have F1 := And.intro @h1 (And.intro @h2 @hK)
  refine ev_seq_k fun K1 hn1 hr1 he1 => ?_
  refine ev_ops_k fun K2 hk2 => ?_
  refine sh1 F1 ?_
  refine hk2 _ ?_
  refine hn1 (some ([0, 1], none)) _ ?_
  refine ev_seq_k fun K3 hn3 hr3 he3 => ?_
  refine ev_seq_k fun K4 hn4 hr4 he4 => ?_
  refine ev_ops_k fun K5 hk5 => ?_
  refine evL_take 3 fun K6 hk6 => ?_
  refine sh1 F1 ?_
  refine sd ?_
  refine hk6 _ ?_
  refine evL_take 4 fun K7 hk7 => ?_
  refine sh1 F1 ?_
  refine sd ?_
  refine hk7 _ ?_
  refine sh1 F1 ?_
  refine hk5 _ ?_
  refine hn4 (some ([0, 1, 20], none)) _ ?_
  refine ev_cond_k rfl (fun hx => absurd hx (by simp at hx)) (fun hc0 => ?_)
  clear hc0
  refine hn3 (some ([0, 1], none)) _ ?_
  refine ev_seq_k fun K8 hn8 hr8 he8 => ?_
  refine ev_ops_k fun K9 hk9 => ?_
  refine evL_take 3 fun K10 hk10 => ?_
  refine sh1 F1 ?_
  refine hk10 _ ?_
  refine evL_take 1 fun K11 hk11 => ?_
  refine sh1 F1 ?_
  refine Or.inl (Or.inl ⟨_, k1, ?_⟩)
  refine hk11 _ ?_
  refine sh1 F1 ?_
  refine sd ?_
  refine hk9 _ ?_
  refine hn8 (some ([0, 1, 5], none)) _ ?_
  refine ev_seq_k fun K12 hn12 hr12 he12 => ?_
  refine ev_seq_k fun K13 hn13 hr13 he13 => ?_
  refine ev_ops_k fun K14 hk14 => ?_
  refine sh1 F1 ?_
  refine hk14 _ ?_
  refine hn13 (some ([0, 1, 5, 6], none)) _ ?_
  refine ev_block_k fun K15 hn15 hx15 hr15 he15 => ?_
  refine ev_loop_k (TgInv acts given) (given.length) (some ([0, 1, 5, 6], some ([0], 1))) ([]) ?_ ?_
  · try refine lp0 ?_
    rcases eFn_cases scr (tg acts given 0).code (tg acts given 0).live with e | ⟨f, l, e⟩
    all_goals exact ⟨0, by omega, by omega, by simp only [eTask, e]; rfl⟩
  · intro k S1 hI
    obtain ⟨i, hi, rfl, rfl⟩ := hI
    have hcase : i = given.length ∨ (i < given.length ∧ ∃ a, acts[i]? = some a) ∨ (i < given.length ∧ ¬ i < acts.length) := by
      rcases Nat.lt_or_ge i given.length with h | h
      · rcases Nat.lt_or_ge i acts.length with h' | h'
        · exact .inr (.inl ⟨h, _, List.getElem?_eq_getElem h'⟩)
        · exact .inr (.inr ⟨h, by omega⟩)
      · exact .inl (by omega)
    intro K16 hn16 hr16 he16
    rcases hcase with hcc | ⟨hcc, a, ha⟩ | ⟨hcc, ha⟩
    · skip
      have w2 : ¬ (i : Int) < (given.length : Int) := by omega
      subst hcc
      have F2 := And.intro F1 (And.intro @w2 (And.intro @r1 (And.intro @r2 @r3)))
      refine ev_seq_k fun K17 hn17 hr17 he17 => ?_
      refine ev_seq_k fun K18 hn18 hr18 he18 => ?_
      refine ev_ops_k fun K19 hk19 => ?_
      refine sh1 F2 ?_
      refine sd ?_
      refine hk19 _ ?_
      refine hn18 (some ([0, 1, 5, 6, 29], none)) _ ?_
      refine ev_cond_k rfl (fun hx => absurd hx (by simp at hx)) (fun hc1 => ?_)
      clear hc1
      refine he17 0 _ ?_
      refine he16 0 _ ?_
      refine hx15 _ ?_
      refine hn12 (some ([0, 1, 5], none)) _ ?_
      refine ev_seq_k fun K20 hn20 hr20 he20 => ?_
      refine ev_ops_k fun K21 hk21 => ?_
      refine evL_take 1 fun K22 hk22 => ?_
      refine sh1 F2 ?_
      refine sd ?_
      refine hk22 _ ?_
      refine evL_take 1 fun K23 hk23 => ?_
      refine sh1 F2 ?_
      refine Or.inl (Or.inl ⟨_, k6, ?_⟩)
      refine hk23 _ ?_
      refine sh1 F2 ?_
      refine hk21 _ ?_
      refine hn20 (some ([0, 1, 5, 9, 10], none)) _ ?_
      refine ev_seq_k fun K24 hn24 hr24 he24 => ?_
      refine ev_ops_k fun K25 hk25 => ?_
      refine sh1 F2 ?_
      refine hk25 _ ?_
      refine hn24 (some ([0, 1, 5, 9, 10, 11], none)) _ ?_
      refine ev_seq_k fun K26 hn26 hr26 he26 => ?_
      refine ev_ops_k fun K27 hk27 => ?_
      refine sh1 F2 ?_
      refine hk27 _ ?_
      refine hn26 (some ([1, 5, 9, 10, 11, 12], none)) _ ?_
      refine ev_seq_k fun K28 hn28 hr28 he28 => ?_
      refine ev_drw_k [] (n := 14) fun K29 hk29 => ?_
      refine sq0 ?_
      refine evF_take 6 fun K31 hk31 => ?_
      refine sh1 F2 ?_
      refine sd ?_
      refine hk31 _ _ _ ?_
      refine evF_take 1 fun K32 hk32 => ?_
      refine sh1 F2 ?_
      refine ⟨_, k7, ?_⟩
      refine hk32 _ _ _ ?_
      refine evF_take 3 fun K33 hk33 => ?_
      refine sh1 F2 ?_
      refine sd ?_
      refine hk33 _ _ _ ?_
      refine evF_take 1 fun K34 hk34 => ?_
      refine sh1 F2 ?_
      refine ⟨_, k8, ?_⟩
      refine hk34 _ _ _ ?_
      refine sh1 F2 ?_
      refine sd ?_
      refine hk29 _ ?_
      refine sr0 ?_
      refine evL_take 1 fun K35 hk35 => ?_
      refine sh1 F2 ?_
      refine Or.inl (Or.inl ⟨_, k7, ?_⟩)
      refine hk35 _ ?_
      refine evL_take 3 fun K36 hk36 => ?_
      refine sh1 F2 ?_
      refine sd ?_
      refine hk36 _ ?_
      refine evL_take 1 fun K37 hk37 => ?_
      refine sh1 F2 ?_
      refine Or.inl (Or.inl ⟨_, k10, ?_⟩)
      refine hk37 _ ?_
      refine evL_take 3 fun K38 hk38 => ?_
      refine sh1 F2 ?_
      refine sd ?_
      refine hk38 _ ?_
      refine evL_take 1 fun K39 hk39 => ?_
      refine sh1 F2 ?_
      refine Or.inl (Or.inl ⟨_, k11, ?_⟩)
      refine hk39 _ ?_
      refine evL_take 1 fun K40 hk40 => ?_
      refine sh1 F2 ?_
      refine ⟨_, gen_nil_eq codeIface, ?_⟩
      refine hk40 _ ?_
      refine evL_take 2 fun K41 hk41 => ?_
      refine sh1 F2 ?_
      refine hk41 _ ?_
      refine evL_take 1 fun K42 hk42 => ?_
      refine sh1 F2 ?_
      refine Or.inl (Or.inl ⟨_, k12, ?_⟩)
      refine hk42 _ ?_
      refine evL_take 1 fun K43 hk43 => ?_
      refine sh1 F2 ?_
      refine Or.inl (Or.inl ⟨_, k10, ?_⟩)
      refine hk43 _ ?_
      refine evL_take 2 fun K44 hk44 => ?_
      refine sh1 F2 ?_
      refine hk44 _ ?_
      refine evL_take 1 fun K45 hk45 => ?_
      refine sh1 F2 ?_
      refine Or.inl (Or.inl ⟨_, ka, ?_⟩)
      refine hk45 _ ?_
      refine sh1 F2 ?_
      refine hn28 (some ([4], none)) _ ?_
      exact sf1 F2
    · skip
      have w2 : (i : Int) < (given.length : Int) := by omega
      have w3 : IntKind.i64.wrap ((i : Int) + 1) = ((i + 1 : Nat) : Int) := by rw [IntKind.wrap_i64]; omega
      have hlt := (List.getElem?_eq_some_iff.1 ha).1
      have w4 : (i : Int) < (acts.length : Int) := by omega
      have k2 := ok_kAct (tg acts given i)
      have k3 := ok_kDone (tg acts given i)
      have k4 := ok_kSteps (tg acts given i)
      obtain ⟨g, hg⟩ : ∃ g, given[i]? = some g := ⟨_, List.getElem?_eq_getElem hcc⟩
      have k5 := ok_kGive (tg acts given i) g (tg_ok acts given i ha60) (by decide)
      rw [tg_succ acts given hg] at k5
      obtain ⟨t1, t2⟩ := tg_act acts given ha
      rw [t1, t2] at k2
      rw [t2] at k3
      have t3 : ((tg acts given i).gots.length : Int) = min (i : Int) (acts.length : Int) := by simp [tg]; omega
      rw [t3] at k4
      have F3 := And.intro F1 (And.intro @w2 (And.intro @w3 (And.intro @w4 (And.intro @ha @hg))))
      refine ev_seq_k fun K46 hn46 hr46 he46 => ?_
      refine ev_seq_k fun K47 hn47 hr47 he47 => ?_
      refine ev_ops_k fun K48 hk48 => ?_
      refine sh1 F3 ?_
      refine sd ?_
      refine hk48 _ ?_
      refine hn47 (some ([0, 1, 5, 6, 29], none)) _ ?_
      refine ev_cond_k rfl (fun hc1 => ?_) (fun hx => absurd hx (by simp at hx))
      clear hc1
      refine hn46 (some ([0, 1, 5, 6], none)) _ ?_
      refine ev_seq_k fun K49 hn49 hr49 he49 => ?_
      refine ev_block_k fun K50 hn50 hx50 hr50 he50 => ?_
      refine ev_seq_k fun K51 hn51 hr51 he51 => ?_
      refine ev_ops_k fun K52 hk52 => ?_
      refine evL_take 1 fun K53 hk53 => ?_
      refine sh1 F3 ?_
      refine sd ?_
      refine hk53 _ ?_
      refine evL_take 1 fun K54 hk54 => ?_
      refine sh1 F3 ?_
      refine Or.inl (Or.inl ⟨_, k2, ?_⟩)
      refine hk54 _ ?_
      refine evL_take 5 fun K55 hk55 => ?_
      refine sh1 F3 ?_
      refine sd ?_
      refine hk55 _ ?_
      refine sh1 F3 ?_
      refine hk52 _ ?_
      refine hn51 (some ([0, 1, 5, 6, 7, 8], none)) _ ?_
      refine ev_seq_k fun K56 hn56 hr56 he56 => ?_
      refine ev_seq_k fun K57 hn57 hr57 he57 => ?_
      refine ev_drw_k [] (n := 30) fun K58 hk58 => ?_
      refine sq0 ?_
      refine evF_take 5 fun K60 hk60 => ?_
      refine sh1 F3 ?_
      refine sd ?_
      refine hk60 _ _ _ ?_
      refine evF_take 1 fun K61 hk61 => ?_
      refine sh1 F3 ?_
      refine ⟨_, eqsh_bool_refl _, ?_⟩
      refine hk61 _ _ _ ?_
      refine evF_take 2 fun K62 hk62 => ?_
      refine sh1 F3 ?_
      refine sd ?_
      refine hk62 _ _ _ ?_
      refine evF_take 1 fun K63 hk63 => ?_
      refine sh1 F3 ?_
      refine ⟨_, k3, ?_⟩
      refine hk63 _ _ _ ?_
      refine evF_take 1 fun K64 hk64 => ?_
      refine sh1 F3 ?_
      refine hk64 _ _ _ ?_
      refine evF_take 1 fun K65 hk65 => ?_
      refine sh1 F3 ?_
      refine ⟨_, eqsh_ft, ?_⟩
      refine hk65 _ _ _ ?_
      refine evF_take 5 fun K66 hk66 => ?_
      refine sh1 F3 ?_
      refine sd ?_
      refine hk66 _ _ _ ?_
      refine evF_take 3 fun K67 hk67 => ?_
      refine sh1 F3 ?_
      refine sd ?_
      refine hk67 _ _ _ ?_
      refine evF_take 1 fun K68 hk68 => ?_
      refine sh1 F3 ?_
      refine sd ?_
      refine hk68 _ _ _ ?_
      refine evF_take 1 fun K69 hk69 => ?_
      refine sh1 F3 ?_
      refine ⟨_, eqsh_act_refl _ _ _ _, ?_⟩
      refine hk69 _ _ _ ?_
      refine evF_take 4 fun K70 hk70 => ?_
      refine sh1 F3 ?_
      refine sd ?_
      refine hk70 _ _ _ ?_
      refine evF_take 1 fun K71 hk71 => ?_
      refine sh1 F3 ?_
      refine ⟨_, k4, ?_⟩
      refine hk71 _ _ _ ?_
      refine sh1 F3 ?_
      refine hk58 _ ?_
      refine sr0 ?_
      refine evL_take 1 fun K72 hk72 => ?_
      refine sh1 F3 ?_
      refine sd ?_
      refine hk72 _ ?_
      refine sh1 F3 ?_
      refine hn57 (some ([0, 1, 5, 6, 68], none)) _ ?_
      refine ev_cond_k rfl (fun hx => absurd hx (by simp at hx)) (fun hc2 => ?_)
      clear hc2
      refine hn56 (some ([0, 1, 5, 6], none)) _ ?_
      refine ev_drw_k [] (n := 5) fun K73 hk73 => ?_
      refine sq0 ?_
      refine evF_take 1 fun K75 hk75 => ?_
      refine sh1 F3 ?_
      refine sd ?_
      refine hk75 _ _ _ ?_
      refine evF_take 3 fun K76 hk76 => ?_
      refine sh1 F3 ?_
      refine sd ?_
      refine hk76 _ _ _ ?_
      refine sh1 F3 ?_
      refine sd ?_
      refine hk73 _ ?_
      refine sr0 ?_
      refine evL_take 1 fun K77 hk77 => ?_
      refine sh1 F3 ?_
      refine Or.inl (Or.inl ⟨_, k5, ?_⟩)
      refine hk77 _ ?_
      refine sh1 F3 ?_
      refine sd ?_
      refine hn50 _ ?_
      refine hn49 (some ([0, 1, 5, 6], none)) _ ?_
      refine ev_ops_k fun K78 hk78 => ?_
      refine evL_take 2 fun K79 hk79 => ?_
      refine sh1 F3 ?_
      refine sd ?_
      refine hk79 _ ?_
      refine sh1 F3 ?_
      refine hk78 _ ?_
      refine hn16 (given.length - (i + 1)) (some ([0, 1, 5, 6], some ([0], 1))) _ ?_ ?_
      all_goals try refine lp0 ?_
      · omega
      · rcases eFn_cases scr (tg acts given (i + 1)).code (tg acts given (i + 1)).live with e | ⟨f, l, e⟩
        all_goals exact ⟨i + 1, by omega, by omega, by simp only [eTask, e]; rfl⟩
    · skip
      have w2 : (i : Int) < (given.length : Int) := by omega
      have w3 : IntKind.i64.wrap ((i : Int) + 1) = ((i + 1 : Nat) : Int) := by rw [IntKind.wrap_i64]; omega
      have w4 : ¬ (i : Int) < (acts.length : Int) := by omega
      have k2 := ok_kAct (tg acts given i)
      have k3 := ok_kDone (tg acts given i)
      have k4 := ok_kSteps (tg acts given i)
      obtain ⟨g, hg⟩ : ∃ g, given[i]? = some g := ⟨_, List.getElem?_eq_getElem hcc⟩
      have k5 := ok_kGive (tg acts given i) g (tg_ok acts given i ha60) (by decide)
      rw [tg_succ acts given hg] at k5
      have t2 : (tg acts given i).live = false := decide_eq_false ha
      rw [t2] at k2
      rw [t2] at k3
      have t3 : ((tg acts given i).gots.length : Int) = min (i : Int) (acts.length : Int) := by simp [tg]; omega
      rw [t3] at k4
      have F4 := And.intro F1 (And.intro @w2 (And.intro @w3 (And.intro @w4 @hg)))
      refine ev_seq_k fun K80 hn80 hr80 he80 => ?_
      refine ev_seq_k fun K81 hn81 hr81 he81 => ?_
      refine ev_ops_k fun K82 hk82 => ?_
      refine sh1 F4 ?_
      refine sd ?_
      refine hk82 _ ?_
      refine hn81 (some ([0, 1, 5, 6, 29], none)) _ ?_
      refine ev_cond_k rfl (fun hc1 => ?_) (fun hx => absurd hx (by simp at hx))
      clear hc1
      refine hn80 (some ([0, 1, 5, 6], none)) _ ?_
      refine ev_seq_k fun K83 hn83 hr83 he83 => ?_
      refine ev_block_k fun K84 hn84 hx84 hr84 he84 => ?_
      refine ev_seq_k fun K85 hn85 hr85 he85 => ?_
      refine ev_ops_k fun K86 hk86 => ?_
      refine evL_take 1 fun K87 hk87 => ?_
      refine sh1 F4 ?_
      refine sd ?_
      refine hk87 _ ?_
      refine evL_take 1 fun K88 hk88 => ?_
      refine sh1 F4 ?_
      refine Or.inl (Or.inl ⟨_, k2, ?_⟩)
      refine hk88 _ ?_
      refine evL_take 5 fun K89 hk89 => ?_
      refine sh1 F4 ?_
      refine sd ?_
      refine hk89 _ ?_
      refine sh1 F4 ?_
      refine hk86 _ ?_
      refine hn85 (some ([0, 1, 5, 6, 7, 8], none)) _ ?_
      refine ev_seq_k fun K90 hn90 hr90 he90 => ?_
      refine ev_seq_k fun K91 hn91 hr91 he91 => ?_
      refine ev_drw_k [] (n := 30) fun K92 hk92 => ?_
      refine sq0 ?_
      refine evF_take 5 fun K94 hk94 => ?_
      refine sh1 F4 ?_
      refine sd ?_
      refine hk94 _ _ _ ?_
      refine evF_take 1 fun K95 hk95 => ?_
      refine sh1 F4 ?_
      refine ⟨_, eqsh_bool_refl _, ?_⟩
      refine hk95 _ _ _ ?_
      refine evF_take 2 fun K96 hk96 => ?_
      refine sh1 F4 ?_
      refine sd ?_
      refine hk96 _ _ _ ?_
      refine evF_take 1 fun K97 hk97 => ?_
      refine sh1 F4 ?_
      refine ⟨_, k3, ?_⟩
      refine hk97 _ _ _ ?_
      refine evF_take 1 fun K98 hk98 => ?_
      refine sh1 F4 ?_
      refine hk98 _ _ _ ?_
      refine evF_take 1 fun K99 hk99 => ?_
      refine sh1 F4 ?_
      refine ⟨_, eqsh_tf, ?_⟩
      refine hk99 _ _ _ ?_
      refine evF_take 5 fun K100 hk100 => ?_
      refine sh1 F4 ?_
      refine sd ?_
      refine hk100 _ _ _ ?_
      refine evF_take 3 fun K101 hk101 => ?_
      refine sh1 F4 ?_
      refine sd ?_
      refine hk101 _ _ _ ?_
      refine evF_take 1 fun K102 hk102 => ?_
      refine sh1 F4 ?_
      refine sd ?_
      refine hk102 _ _ _ ?_
      refine evF_take 1 fun K103 hk103 => ?_
      refine sh1 F4 ?_
      skip
      refine hk103 _ _ _ ?_
      refine evF_take 4 fun K104 hk104 => ?_
      refine sh1 F4 ?_
      refine sd ?_
      refine hk104 _ _ _ ?_
      refine evF_take 1 fun K105 hk105 => ?_
      refine sh1 F4 ?_
      refine ⟨_, k4, ?_⟩
      refine hk105 _ _ _ ?_
      refine sh1 F4 ?_
      refine hk92 _ ?_
      refine sr0 ?_
      refine evL_take 1 fun K106 hk106 => ?_
      refine sh1 F4 ?_
      refine sd ?_
      refine hk106 _ ?_
      refine sh1 F4 ?_
      refine hn91 (some ([0, 1, 5, 6, 68], none)) _ ?_
      refine ev_cond_k rfl (fun hx => absurd hx (by simp at hx)) (fun hc2 => ?_)
      clear hc2
      refine hn90 (some ([0, 1, 5, 6], none)) _ ?_
      refine ev_drw_k [] (n := 5) fun K107 hk107 => ?_
      refine sq0 ?_
      refine evF_take 1 fun K109 hk109 => ?_
      refine sh1 F4 ?_
      refine sd ?_
      refine hk109 _ _ _ ?_
      refine evF_take 3 fun K110 hk110 => ?_
      refine sh1 F4 ?_
      refine sd ?_
      refine hk110 _ _ _ ?_
      refine sh1 F4 ?_
      refine sd ?_
      refine hk107 _ ?_
      refine sr0 ?_
      refine evL_take 1 fun K111 hk111 => ?_
      refine sh1 F4 ?_
      refine Or.inl (Or.inl ⟨_, k5, ?_⟩)
      refine hk111 _ ?_
      refine sh1 F4 ?_
      refine sd ?_
      refine hn84 _ ?_
      refine hn83 (some ([0, 1, 5, 6], none)) _ ?_
      refine ev_ops_k fun K112 hk112 => ?_
      refine evL_take 2 fun K113 hk113 => ?_
      refine sh1 F4 ?_
      refine sd ?_
      refine hk113 _ ?_
      refine sh1 F4 ?_
      refine hk112 _ ?_
      refine hn16 (given.length - (i + 1)) (some ([0, 1, 5, 6], some ([0], 1))) _ ?_ ?_
      all_goals try refine lp0 ?_
      · omega
      · rcases eFn_cases scr (tg acts given (i + 1)).code (tg acts given (i + 1)).live with e | ⟨f, l, e⟩
        all_goals exact ⟨i + 1, by omega, by omega, by simp only [eTask, e]; rfl⟩
end Go.Proofs.Ytcbdgnjdpfgobaa

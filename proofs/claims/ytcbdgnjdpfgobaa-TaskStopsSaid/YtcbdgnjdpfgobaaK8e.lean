/-
  Layer 8 by shadows: scripts, and the helpers of the laws.
-/
import Derived.Test.YtcbdgnjdpfgobaaK8d
import Derived.Test.YtcbdgnjdpfgobaaSc8l
import Derived.Test.YtcbdgnjdpfgobaaMC
namespace Go.Proofs.Ytcbdgnjdpfgobaa
set_option linter.unusedSimpArgs false
set_option linter.unusedVariables false
open Go.RowKit Go.Maps

/-! ### Scripts -/
structure ScrV where
  g : Nat
  acts : List ActM
  gots : List GotV
  begun : Bool
abbrev cScr (s : ScrV) : List Sh := [.sl 8 s.g (s.acts.map eAct4), .sl 4 0 (s.gots.map eGot), sB s.begun]
def actAt (l : List ActM) (i : Nat) : ActM × Bool := match l[i]? with | some a => (a, false) | none => (zAct, true)
def scNextM (s : ScrV) (g : GotV) : ScrV × ActM × Bool :=
  (⟨s.g, s.acts, if s.begun = true then s.gots ++ [g] else s.gots, true⟩, actAt s.acts (if s.begun = true then s.gots ++ [g] else s.gots).length)
set_option maxHeartbeats 4000000 in
theorem ok_scNext (s : ScrV) (g : GotV) {n : Nat} (hs : s.gots.length ≤ n) (hn : n ≤ 900) : Ok 134 [.agg (cScr s), .agg (eGot g)] (.tup [.ifc 44 (.agg (cScr (scNextM s g).1)), .agg (eAct4 (scNextM s g).2.1), sB (scNextM s g).2.2]) := by
  refine ok_of_tr Try.func134 tr_scNext rfl ?_
  obtain ⟨gc, acts, gots, begun⟩ := s
  simp only at hs
  unfold scNextM actAt
  cases begun
  · simp only [Bool.false_eq_true, if_false]
    by_cases h : gots.length < acts.length
    · have w1 : ¬ (acts.length : Int) ≤ (gots.length : Int) := by omega
      have w2 := List.getElem?_eq_getElem h
      generalize acts[gots.length] = a at w2
      rw [w2]
      have w3 : (gots.length : Int) < (acts.length : Int) := by omega
      unfold evFn sc_scNext rv_scNext
      have F1 := And.intro @w1 (And.intro @w2 @w3)
      refine ev_seq_k fun K1 hn1 hr1 he1 => ?_
      refine ev_ops_k fun K2 hk2 => ?_
      refine sh1 F1 ?_
      refine hk2 _ ?_
      refine hn1 (some ([2, 3, 5], none)) _ ?_
      refine ev_seq_k fun K3 hn3 hr3 he3 => ?_
      refine ev_ops_k fun K4 hk4 => ?_
      refine evL_take 1 fun K5 hk5 => ?_
      refine sh1 F1 ?_
      refine sd ?_
      refine hk5 _ ?_
      refine sh1 F1 ?_
      refine sd ?_
      refine hk4 _ ?_
      refine hn3 (some ([2, 3, 5, 7], none)) _ ?_
      refine ev_seq_k fun K6 hn6 hr6 he6 => ?_
      refine ev_ops_k fun K7 hk7 => ?_
      refine sh1 F1 ?_
      refine sd ?_
      refine hk7 _ ?_
      refine hn6 (some ([2, 3, 5, 7], none)) _ ?_
      refine ev_seq_k fun K8 hn8 hr8 he8 => ?_
      refine ev_seq_k fun K9 hn9 hr9 he9 => ?_
      refine ev_ops_k fun K10 hk10 => ?_
      refine sh1 F1 ?_
      refine sd ?_
      refine hk10 _ ?_
      refine hn9 (some ([2, 3, 5, 7, 11], none)) _ ?_
      refine ev_cond_k rfl (fun hx => absurd hx (by simp at hx)) (fun hc0 => ?_)
      clear hc0
      refine hn8 (some ([2, 5, 7], none)) _ ?_
      refine ev_seq_k fun K11 hn11 hr11 he11 => ?_
      refine ev_seq_k fun K12 hn12 hr12 he12 => ?_
      refine ev_ops_k fun K13 hk13 => ?_
      refine evL_take 2 fun K14 hk14 => ?_
      refine sh1 F1 ?_
      refine sd ?_
      refine hk14 _ ?_
      refine evL_take 3 fun K15 hk15 => ?_
      refine sh1 F1 ?_
      refine sd ?_
      refine hk15 _ ?_
      refine sh1 F1 ?_
      refine sd ?_
      refine hk13 _ ?_
      refine hn12 (some ([2, 5, 7, 26], none)) _ ?_
      refine ev_cond_k rfl (fun hx => absurd hx (by simp at hx)) (fun hc1 => ?_)
      clear hc1
      refine hn11 (some ([2, 5, 7], none)) _ ?_
      refine ev_seq_k fun K16 hn16 hr16 he16 => ?_
      refine ev_drw_k [] (n := 10) fun K17 hk17 => ?_
      refine sq0 ?_
      refine evF_take 1 fun K19 hk19 => ?_
      refine sh1 F1 ?_
      refine sd ?_
      refine hk19 _ _ _ ?_
      refine evF_take 3 fun K20 hk20 => ?_
      refine sh1 F1 ?_
      refine sd ?_
      refine hk20 _ _ _ ?_
      refine evF_take 2 fun K21 hk21 => ?_
      refine sh1 F1 ?_
      refine sd ?_
      refine hk21 _ _ _ ?_
      refine evF_take 2 fun K22 hk22 => ?_
      refine sh1 F1 ?_
      refine sd ?_
      refine hk22 _ _ _ ?_
      refine evF_take 1 fun K23 hk23 => ?_
      refine sh1 F1 ?_
      refine sd ?_
      refine hk23 _ _ _ ?_
      refine sh1 F1 ?_
      refine hk17 _ ?_
      refine sr0 ?_
      refine evL_take 1 fun K24 hk24 => ?_
      refine sh1 F1 ?_
      refine sd ?_
      refine hk24 _ ?_
      refine sh1 F1 ?_
      refine hn16 (some ([4, 5, 6], none)) _ ?_
      exact sf1 F1
    · have w1 : (acts.length : Int) ≤ (gots.length : Int) := by omega
      rw [List.getElem?_eq_none (by omega)]
      unfold evFn sc_scNext rv_scNext
      have F1 := @w1
      refine ev_seq_k fun K1 hn1 hr1 he1 => ?_
      refine ev_ops_k fun K2 hk2 => ?_
      refine sh1 F1 ?_
      refine hk2 _ ?_
      refine hn1 (some ([2, 3, 5], none)) _ ?_
      refine ev_seq_k fun K3 hn3 hr3 he3 => ?_
      refine ev_ops_k fun K4 hk4 => ?_
      refine evL_take 1 fun K5 hk5 => ?_
      refine sh1 F1 ?_
      refine sd ?_
      refine hk5 _ ?_
      refine sh1 F1 ?_
      refine sd ?_
      refine hk4 _ ?_
      refine hn3 (some ([2, 3, 5, 7], none)) _ ?_
      refine ev_seq_k fun K6 hn6 hr6 he6 => ?_
      refine ev_ops_k fun K7 hk7 => ?_
      refine sh1 F1 ?_
      refine sd ?_
      refine hk7 _ ?_
      refine hn6 (some ([2, 3, 5, 7], none)) _ ?_
      refine ev_seq_k fun K8 hn8 hr8 he8 => ?_
      refine ev_seq_k fun K9 hn9 hr9 he9 => ?_
      refine ev_ops_k fun K10 hk10 => ?_
      refine sh1 F1 ?_
      refine sd ?_
      refine hk10 _ ?_
      refine hn9 (some ([2, 3, 5, 7, 11], none)) _ ?_
      refine ev_cond_k rfl (fun hx => absurd hx (by simp at hx)) (fun hc0 => ?_)
      clear hc0
      refine hn8 (some ([2, 5, 7], none)) _ ?_
      refine ev_seq_k fun K11 hn11 hr11 he11 => ?_
      refine ev_seq_k fun K12 hn12 hr12 he12 => ?_
      refine ev_ops_k fun K13 hk13 => ?_
      refine evL_take 2 fun K14 hk14 => ?_
      refine sh1 F1 ?_
      refine sd ?_
      refine hk14 _ ?_
      refine evL_take 3 fun K15 hk15 => ?_
      refine sh1 F1 ?_
      refine sd ?_
      refine hk15 _ ?_
      refine sh1 F1 ?_
      refine sd ?_
      refine hk13 _ ?_
      refine hn12 (some ([2, 5, 7, 26], none)) _ ?_
      refine ev_cond_k rfl (fun hc1 => ?_) (fun hx => absurd hx (by simp at hx))
      clear hc1
      refine ev_seq_k fun K16 hn16 hr16 he16 => ?_
      refine ev_ops_k fun K17 hk17 => ?_
      refine evL_take 1 fun K18 hk18 => ?_
      refine sh1 F1 ?_
      refine sd ?_
      refine hk18 _ ?_
      refine evL_take 4 fun K19 hk19 => ?_
      refine sh1 F1 ?_
      refine sd ?_
      refine hk19 _ ?_
      refine sh1 F1 ?_
      refine hk17 _ ?_
      refine hn16 (some ([4, 5, 6], none)) _ ?_
      refine hr11 _ ?_
      refine sg1 F1 ?_
      rfl
  · simp only [if_true]
    have q1 : gots.length ≤ 1000000 := by omega
    have q2 : gots.length * 24 ≤ 140737488355328 := by omega
    have q3 : (gots.length + 1) * 24 ≤ 140737488355328 := by omega
    have q4 : (gots ++ [g]).length = gots.length + 1 := by simp
    have e : gots.map eGot ++ [eGot g] = (gots ++ [g]).map eGot := by simp
    rw [q4]
    by_cases h : gots.length + 1 < acts.length
    · have w1 : ¬ (acts.length : Int) ≤ ((gots.length + 1 : Nat) : Int) := by omega
      have w2 := List.getElem?_eq_getElem h
      generalize acts[gots.length + 1] = a at w2
      rw [w2]
      have w3 : ((gots.length + 1 : Nat) : Int) < (acts.length : Int) := by omega
      unfold evFn sc_scNext rv_scNext
      have F1 := And.intro @w1 (And.intro @w2 (And.intro @w3 (And.intro @q1 (And.intro @q2 (And.intro @q3 (And.intro @e @q4))))))
      refine ev_seq_k fun K1 hn1 hr1 he1 => ?_
      refine ev_ops_k fun K2 hk2 => ?_
      refine sh1 F1 ?_
      refine hk2 _ ?_
      refine hn1 (some ([2, 3, 5], none)) _ ?_
      refine ev_seq_k fun K3 hn3 hr3 he3 => ?_
      refine ev_ops_k fun K4 hk4 => ?_
      refine evL_take 1 fun K5 hk5 => ?_
      refine sh1 F1 ?_
      refine sd ?_
      refine hk5 _ ?_
      refine sh1 F1 ?_
      refine sd ?_
      refine hk4 _ ?_
      refine hn3 (some ([2, 3, 5, 7], none)) _ ?_
      refine ev_seq_k fun K6 hn6 hr6 he6 => ?_
      refine ev_ops_k fun K7 hk7 => ?_
      refine sh1 F1 ?_
      refine sd ?_
      refine hk7 _ ?_
      refine hn6 (some ([2, 3, 5, 7], none)) _ ?_
      refine ev_seq_k fun K8 hn8 hr8 he8 => ?_
      refine ev_seq_k fun K9 hn9 hr9 he9 => ?_
      refine ev_ops_k fun K10 hk10 => ?_
      refine sh1 F1 ?_
      refine sd ?_
      refine hk10 _ ?_
      refine hn9 (some ([2, 3, 5, 7, 11], none)) _ ?_
      refine ev_cond_k rfl (fun hc0 => ?_) (fun hx => absurd hx (by simp at hx))
      clear hc0
      refine ev_drw_k [] (n := 6) fun K11 hk11 => ?_
      refine sq0 ?_
      refine evF_take 1 fun K13 hk13 => ?_
      refine sh1 F1 ?_
      refine sd ?_
      refine hk13 _ _ _ ?_
      refine evF_take 2 fun K14 hk14 => ?_
      refine sh1 F1 ?_
      refine sd ?_
      refine hk14 _ _ _ ?_
      refine evF_take 1 fun K15 hk15 => ?_
      refine sh1 F1 ?_
      refine Or.inr ?_
      refine sd ?_
      refine hk15 _ _ _ ?_
      refine evF_take 1 fun K16 hk16 => ?_
      refine sh1 F1 ?_
      refine sd ?_
      refine hk16 _ _ _ ?_
      refine sh1 F1 ?_
      refine sd ?_
      refine hk11 _ ?_
      refine sr0 ?_
      refine evL_take 1 fun K17 hk17 => ?_
      refine sh1 F1 ?_
      refine sd ?_
      refine hk17 _ ?_
      refine sh1 F1 ?_
      refine sd ?_
      refine hn8 (some ([2, 5, 7], none)) _ ?_
      refine ev_seq_k fun K18 hn18 hr18 he18 => ?_
      refine ev_seq_k fun K19 hn19 hr19 he19 => ?_
      refine ev_ops_k fun K20 hk20 => ?_
      refine evL_take 2 fun K21 hk21 => ?_
      refine sh1 F1 ?_
      refine sd ?_
      refine hk21 _ ?_
      refine evL_take 3 fun K22 hk22 => ?_
      refine sh1 F1 ?_
      refine sd ?_
      refine hk22 _ ?_
      refine sh1 F1 ?_
      refine sd ?_
      refine hk20 _ ?_
      refine hn19 (some ([2, 5, 7, 26], none)) _ ?_
      refine ev_cond_k rfl (fun hx => absurd hx (by simp at hx)) (fun hc1 => ?_)
      clear hc1
      refine hn18 (some ([2, 5, 7], none)) _ ?_
      refine ev_seq_k fun K23 hn23 hr23 he23 => ?_
      refine ev_drw_k [.own 5] (n := 10) fun K24 hk24 => ?_
      refine sq0 ?_
      refine evF_take 1 fun K26 hk26 => ?_
      refine sh1 F1 ?_
      refine sd ?_
      refine hk26 _ _ _ ?_
      refine evF_take 3 fun K27 hk27 => ?_
      refine sh1 F1 ?_
      refine sd ?_
      refine hk27 _ _ _ ?_
      refine evF_take 2 fun K28 hk28 => ?_
      refine sh1 F1 ?_
      refine sd ?_
      refine hk28 _ _ _ ?_
      refine evF_take 2 fun K29 hk29 => ?_
      refine sh1 F1 ?_
      refine sd ?_
      refine hk29 _ _ _ ?_
      refine evF_take 1 fun K30 hk30 => ?_
      refine sh1 F1 ?_
      refine sd ?_
      refine hk30 _ _ _ ?_
      refine sh1 F1 ?_
      refine hk24 _ ?_
      refine sr0 ?_
      refine evL_take 1 fun K31 hk31 => ?_
      refine sh1 F1 ?_
      refine sd ?_
      refine hk31 _ ?_
      refine sh1 F1 ?_
      refine hn23 (some ([4, 5, 6], none)) _ ?_
      exact sf1 F1
    · have w1 : (acts.length : Int) ≤ ((gots.length + 1 : Nat) : Int) := by omega
      rw [List.getElem?_eq_none (by omega)]
      unfold evFn sc_scNext rv_scNext
      have F1 := And.intro @w1 (And.intro @q1 (And.intro @q2 (And.intro @q3 (And.intro @e @q4))))
      refine ev_seq_k fun K1 hn1 hr1 he1 => ?_
      refine ev_ops_k fun K2 hk2 => ?_
      refine sh1 F1 ?_
      refine hk2 _ ?_
      refine hn1 (some ([2, 3, 5], none)) _ ?_
      refine ev_seq_k fun K3 hn3 hr3 he3 => ?_
      refine ev_ops_k fun K4 hk4 => ?_
      refine evL_take 1 fun K5 hk5 => ?_
      refine sh1 F1 ?_
      refine sd ?_
      refine hk5 _ ?_
      refine sh1 F1 ?_
      refine sd ?_
      refine hk4 _ ?_
      refine hn3 (some ([2, 3, 5, 7], none)) _ ?_
      refine ev_seq_k fun K6 hn6 hr6 he6 => ?_
      refine ev_ops_k fun K7 hk7 => ?_
      refine sh1 F1 ?_
      refine sd ?_
      refine hk7 _ ?_
      refine hn6 (some ([2, 3, 5, 7], none)) _ ?_
      refine ev_seq_k fun K8 hn8 hr8 he8 => ?_
      refine ev_seq_k fun K9 hn9 hr9 he9 => ?_
      refine ev_ops_k fun K10 hk10 => ?_
      refine sh1 F1 ?_
      refine sd ?_
      refine hk10 _ ?_
      refine hn9 (some ([2, 3, 5, 7, 11], none)) _ ?_
      refine ev_cond_k rfl (fun hc0 => ?_) (fun hx => absurd hx (by simp at hx))
      clear hc0
      refine ev_drw_k [] (n := 6) fun K11 hk11 => ?_
      refine sq0 ?_
      refine evF_take 1 fun K13 hk13 => ?_
      refine sh1 F1 ?_
      refine sd ?_
      refine hk13 _ _ _ ?_
      refine evF_take 2 fun K14 hk14 => ?_
      refine sh1 F1 ?_
      refine sd ?_
      refine hk14 _ _ _ ?_
      refine evF_take 1 fun K15 hk15 => ?_
      refine sh1 F1 ?_
      refine Or.inr ?_
      refine sd ?_
      refine hk15 _ _ _ ?_
      refine evF_take 1 fun K16 hk16 => ?_
      refine sh1 F1 ?_
      refine sd ?_
      refine hk16 _ _ _ ?_
      refine sh1 F1 ?_
      refine sd ?_
      refine hk11 _ ?_
      refine sr0 ?_
      refine evL_take 1 fun K17 hk17 => ?_
      refine sh1 F1 ?_
      refine sd ?_
      refine hk17 _ ?_
      refine sh1 F1 ?_
      refine sd ?_
      refine hn8 (some ([2, 5, 7], none)) _ ?_
      refine ev_seq_k fun K18 hn18 hr18 he18 => ?_
      refine ev_seq_k fun K19 hn19 hr19 he19 => ?_
      refine ev_ops_k fun K20 hk20 => ?_
      refine evL_take 2 fun K21 hk21 => ?_
      refine sh1 F1 ?_
      refine sd ?_
      refine hk21 _ ?_
      refine evL_take 3 fun K22 hk22 => ?_
      refine sh1 F1 ?_
      refine sd ?_
      refine hk22 _ ?_
      refine sh1 F1 ?_
      refine sd ?_
      refine hk20 _ ?_
      refine hn19 (some ([2, 5, 7, 26], none)) _ ?_
      refine ev_cond_k rfl (fun hc1 => ?_) (fun hx => absurd hx (by simp at hx))
      clear hc1
      refine ev_seq_k fun K23 hn23 hr23 he23 => ?_
      refine ev_ops_k fun K24 hk24 => ?_
      refine evL_take 1 fun K25 hk25 => ?_
      refine sh1 F1 ?_
      refine sd ?_
      refine hk25 _ ?_
      refine evL_take 4 fun K26 hk26 => ?_
      refine sh1 F1 ?_
      refine sd ?_
      refine hk26 _ ?_
      refine sh1 F1 ?_
      refine hk24 _ ?_
      refine hn23 (some ([4, 5, 6], none)) _ ?_
      refine hr18 _ ?_
      refine sg1 F1 ?_
      rfl
theorem next_scr : MethodIs 44 "Next" 134 := by intro v w; kernel_rfl
theorem enters_scr : Enters 134 := callFunc_enter Try.func134 rfl rfl
abbrev scr : Coder where
  St := ScrV
  enc s := .ifc 44 (.agg (cScr s))
  next := scNextM
  good n s := s.gots.length ≤ n
  up h h' := Nat.le_trans h h'
  keeps g h := by
    show (if _ = true then _ else _ : List GotV).length ≤ _
    split
    · simp; exact h
    · exact Nat.le_trans h (Nat.le_succ _)
  shape s := ⟨_, _, rfl⟩
  ok g h hn := ⟨_, _, _, rfl, next_scr, enters_scr, ok_scNext _ g h hn⟩

/-! ### Every task has its code -/
def Coded {C : Coder} (t : TaskM C) : Prop := ∃ s, t.code = some s
theorem coded_said {C : Coder} (t : TaskM C) (s : C.St) (a : ActM) (b : Bool) : Coded (saidM t s a b) := by
  unfold saidM; split <;> exact ⟨s, rfl⟩
theorem coded_give {C : Coder} {t : TaskM C} (h : Coded t) (g : GotV) : Coded (giveM t g) := by
  unfold giveM
  split
  · obtain ⟨s, hs⟩ := h
    rw [hs]; exact coded_said _ _ _ _
  · exact h
def CodedW {C : Coder} (w : WorldM C) : Prop := ∀ t ∈ w.tasks, Coded t
theorem codedW_step {C : Coder} {w : WorldM C} (h : CodedW w) (p : PickV) : CodedW (stepM w p).1 := by
  unfold stepM
  split
  · exact h
  · split
    · intro t ht; cases ht
    · split
      · exact h
      · split
        · unfold goM
          split
          · rename_i y hy
            intro t ht
            rcases List.mem_or_eq_of_mem_set ht with ht | rfl
            · exact h t ht
            · exact coded_give (h y (List.mem_of_getElem? hy)) _
          · exact h
        · split
          · exact h
          · exact h
theorem codedW_run {C : Coder} : ∀ (l : List PickV) {w : WorldM C}, CodedW w → CodedW (runW w l)
  | [], _, h => h
  | p :: l, w, h => codedW_run l (codedW_step h p)
theorem codedW_goes {C : Coder} (t : Int) : ∀ (k : Nat) {w : WorldM C}, CodedW w → CodedW (goesM w t k)
  | 0, _, h => h
  | k + 1, w, h => by
    unfold goesM
    split
    · exact codedW_goes t k (codedW_step h _)
    · exact h
theorem codedW_make {C : Coder} (m : MachM) (cs : List C.St) : CodedW (makeM m cs).1 := by
  unfold makeM
  split
  · intro t ht; cases ht
  · intro t ht
    obtain ⟨s, _, rfl⟩ := List.mem_map.1 ht
    exact coded_said _ _ _ _

/-! ### The helpers of the laws -/
def gotsOf (t : TaskM scr) : List GotV := match t.code with | some s => ScrV.gots s | none => []
theorem ok_l8gots (t : TaskM scr) (h : Coded t) : Ok 24 [.agg (eTask t)] (.tup [.sl 4 0 ((gotsOf t).map eGot), sB true]) := by
  refine ok_of_tr Try.func24 tr_l8gots rfl ?_
  have hK := shK scr
  have k0 := ok_kCode t
  unfold gotsOf
  obtain ⟨s, hs⟩ := h
  rw [hs] at k0 ⊢
  have e : eCode scr (some s) = .ifc 44 (.agg (cScr s)) := rfl
  simp only [e] at k0
  unfold evFn sc_l8gots rv_l8gots
  have F1 := @hK
  refine ev_seq_k fun K1 hn1 hr1 he1 => ?_
  refine ev_ops_k fun K2 hk2 => ?_
  refine sh1 F1 ?_
  refine hk2 _ ?_
  refine hn1 (some ([1], none)) _ ?_
  refine ev_seq_k fun K3 hn3 hr3 he3 => ?_
  refine ev_ops_k fun K4 hk4 => ?_
  refine evL_take 1 fun K5 hk5 => ?_
  refine sh1 F1 ?_
  refine sd ?_
  refine hk5 _ ?_
  refine evL_take 1 fun K6 hk6 => ?_
  refine sh1 F1 ?_
  refine Or.inl (Or.inl ⟨_, k0, ?_⟩)
  refine hk6 _ ?_
  refine evL_take 1 fun K7 hk7 => ?_
  refine sh1 F1 ?_
  refine ⟨_, gen_asr_yes Try.underlying44 rfl, ?_⟩
  refine hk7 _ ?_
  refine evL_take 5 fun K8 hk8 => ?_
  refine sh1 F1 ?_
  refine sd ?_
  refine hk8 _ ?_
  refine sh1 F1 ?_
  refine hk4 _ ?_
  refine hn3 (some ([4, 5], none)) _ ?_
  refine ev_seq_k fun K9 hn9 hr9 he9 => ?_
  refine ev_ops_k fun K10 hk10 => ?_
  refine evL_take 2 fun K11 hk11 => ?_
  refine sh1 F1 ?_
  refine sd ?_
  refine hk11 _ ?_
  refine sh1 F1 ?_
  refine hk10 _ ?_
  refine hn9 (some ([2, 3], none)) _ ?_
  exact sf1 F1
def R8Inv (g g2 : Nat) (a : List GotV) (m : Nat) (S : St) : Prop :=
  ∃ i : Nat, i ≤ a.length ∧ m = a.length - i ∧ S = ⟨[(0, .sl 4 g (a.map eGot)), (1, .sl 4 g2 (a.map eGot)), (5, sI i)], [], 0⟩
theorem ok_r8Same (g g2 : Nat) (a : List GotV) (ha : a.length ≤ 9223372036854775807) : Ok 25 [.sl 4 g (a.map eGot), .sl 4 g2 (a.map eGot)] (sB true) := by
  refine ok_of_tr Try.func25 tr_r8Same rfl ?_
  unfold evFn sc_r8Same rv_r8Same
  refine ev_seq_k fun K1 hn1 hr1 he1 => ?_
  refine ev_ops_k fun K2 hk2 => ?_
  refine sh0 ?_
  refine hk2 _ ?_
  refine hn1 (some ([0, 1], none)) _ ?_
  refine ev_seq_k fun K3 hn3 hr3 he3 => ?_
  refine ev_seq_k fun K4 hn4 hr4 he4 => ?_
  refine ev_ops_k fun K5 hk5 => ?_
  refine sh0 ?_
  refine sd ?_
  refine hk5 _ ?_
  refine hn4 (some ([0, 1, 10], none)) _ ?_
  refine ev_cond_k rfl (fun hx => absurd hx (by simp at hx)) (fun hc0 => ?_)
  clear hc0
  refine hn3 (some ([0, 1], none)) _ ?_
  refine ev_seq_k fun K6 hn6 hr6 he6 => ?_
  refine ev_seq_k fun K7 hn7 hr7 he7 => ?_
  refine ev_ops_k fun K8 hk8 => ?_
  refine sh0 ?_
  refine hk8 _ ?_
  refine hn7 (some ([0, 1, 5], none)) _ ?_
  refine ev_block_k fun K9 hn9 hx9 hr9 he9 => ?_
  refine ev_loop_k (R8Inv g g2 a) (a.length) (some ([0, 1, 5], some ([], 0))) ([]) ?_ ?_
  · try refine lp0 ?_
    exact ⟨0, by omega, by omega, rfl⟩
  · intro k S1 hI
    obtain ⟨i, hi, rfl, rfl⟩ := hI
    have hcase : i = a.length ∨ i < a.length := by omega
    intro K10 hn10 hr10 he10
    rcases hcase with hcc | hcc
    · skip
      have w2 : ¬ (i : Int) < (a.length : Int) := by omega
      have F1 := @w2
      refine ev_seq_k fun K11 hn11 hr11 he11 => ?_
      refine ev_seq_k fun K12 hn12 hr12 he12 => ?_
      refine ev_ops_k fun K13 hk13 => ?_
      refine sh1 F1 ?_
      refine sd ?_
      refine hk13 _ ?_
      refine hn12 (some ([0, 1, 5, 14], none)) _ ?_
      refine ev_cond_k rfl (fun hx => absurd hx (by simp at hx)) (fun hc1 => ?_)
      clear hc1
      refine he11 0 _ ?_
      refine he10 0 _ ?_
      refine hx9 _ ?_
      refine hn6 (some ([], none)) _ ?_
      refine ev_seq_k fun K14 hn14 hr14 he14 => ?_
      refine ev_ops_k fun K15 hk15 => ?_
      refine sh1 F1 ?_
      refine hk15 _ ?_
      refine hn14 (some ([4], none)) _ ?_
      exact sf1 F1
    · skip
      skip
      have w2 : (i : Int) < (a.length : Int) := by omega
      have w3 : IntKind.i64.wrap ((i : Int) + 1) = ((i + 1 : Nat) : Int) := by rw [IntKind.wrap_i64]; omega
      have w4 := List.getElem?_eq_getElem hcc
      generalize a[i] = x at w4
      have F2 := And.intro @w2 (And.intro @w3 @w4)
      refine ev_seq_k fun K16 hn16 hr16 he16 => ?_
      refine ev_seq_k fun K17 hn17 hr17 he17 => ?_
      refine ev_ops_k fun K18 hk18 => ?_
      refine sh1 F2 ?_
      refine sd ?_
      refine hk18 _ ?_
      refine hn17 (some ([0, 1, 5, 14], none)) _ ?_
      refine ev_cond_k rfl (fun hc1 => ?_) (fun hx => absurd hx (by simp at hx))
      clear hc1
      refine hn16 (some ([0, 1, 5], none)) _ ?_
      refine ev_seq_k fun K19 hn19 hr19 he19 => ?_
      refine ev_block_k fun K20 hn20 hx20 hr20 he20 => ?_
      refine ev_seq_k fun K21 hn21 hr21 he21 => ?_
      refine ev_drw_k [] (n := 8) fun K22 hk22 => ?_
      refine sq0 ?_
      refine evF_take 3 fun K24 hk24 => ?_
      refine sh1 F2 ?_
      refine sd ?_
      refine hk24 _ _ _ ?_
      refine evF_take 1 fun K25 hk25 => ?_
      refine sh1 F2 ?_
      refine sd ?_
      refine hk25 _ _ _ ?_
      refine evF_take 3 fun K26 hk26 => ?_
      refine sh1 F2 ?_
      refine sd ?_
      refine hk26 _ _ _ ?_
      refine sh1 F2 ?_
      refine sd ?_
      refine hk22 _ ?_
      refine sr0 ?_
      refine sh1 F2 ?_
      refine Or.inl ⟨_, eqsh_got_refl _ _, ?_⟩
      refine hn21 (some ([0, 1, 5, 25], none)) _ ?_
      refine ev_cond_k rfl (fun hx => absurd hx (by simp at hx)) (fun hc2 => ?_)
      clear hc2
      refine hn20 _ ?_
      refine hn19 (some ([0, 1, 5], none)) _ ?_
      refine ev_ops_k fun K27 hk27 => ?_
      refine evL_take 2 fun K28 hk28 => ?_
      refine sh1 F2 ?_
      refine sd ?_
      refine hk28 _ ?_
      refine sh1 F2 ?_
      refine hk27 _ ?_
      refine hn10 (a.length - (i + 1)) (some ([0, 1, 5], some ([], 0))) _ ?_ ?_
      all_goals try refine lp0 ?_
      · omega
      · exact ⟨i + 1, by omega, by omega, rfl⟩
def W8Inv (a : List WordV) (m : Nat) (S : St) : Prop :=
  ∃ i : Nat, i ≤ a.length ∧ m = a.length - i ∧ S = ⟨[(5, .sl 3 0 (a.map eWord)), (6, .sl 3 0 (a.map eWord)), (7, sI i)], [], 0⟩
theorem ok_l8words (M M' : MachM) {n : Nat} (hM : MemOk M.mem n) (hM' : MemOk M'.mem n) (hn : n ≤ 100000) (h : wordsM M' = wordsM M) : Ok 34 [eMach M, eMach M'] (sB true) := by
  refine ok_of_tr Try.func34 tr_l8words rfl ?_
  have k0 := ok_cWords M hM hn
  have k1 := ok_cWords M' hM' hn
  have hl := words_len M
  have hp := hM.pl
  rw [h] at k1
  generalize wordsM M = a at k0 k1 hl
  have ha : a.length ≤ 1000000 := by omega
  unfold evFn sc_l8words rv_l8words
  refine ev_seq_k fun K1 hn1 hr1 he1 => ?_
  refine ev_ops_k fun K2 hk2 => ?_
  refine sh0 ?_
  refine hk2 _ ?_
  refine hn1 (some ([2, 3], none)) _ ?_
  refine ev_seq_k fun K3 hn3 hr3 he3 => ?_
  refine ev_drw_k [] (n := 3) fun K4 hk4 => ?_
  refine sq0 ?_
  refine evF_take 1 fun K6 hk6 => ?_
  refine sh0 ?_
  refine sd ?_
  refine hk6 _ _ _ ?_
  refine evF_take 1 fun K7 hk7 => ?_
  refine sh0 ?_
  refine ⟨_, k0, ?_⟩
  refine hk7 _ _ _ ?_
  refine sh0 ?_
  refine sd ?_
  refine hk4 _ ?_
  refine sr0 ?_
  refine evL_take 1 fun K8 hk8 => ?_
  refine sh0 ?_
  refine Or.inl (Or.inl ⟨_, k1, ?_⟩)
  refine hk8 _ ?_
  refine sh0 ?_
  refine hn3 (some ([5, 6], none)) _ ?_
  refine ev_seq_k fun K9 hn9 hr9 he9 => ?_
  refine ev_seq_k fun K10 hn10 hr10 he10 => ?_
  refine ev_ops_k fun K11 hk11 => ?_
  refine sh0 ?_
  refine sd ?_
  refine hk11 _ ?_
  refine hn10 (some ([5, 6, 16], none)) _ ?_
  refine ev_cond_k rfl (fun hx => absurd hx (by simp at hx)) (fun hc0 => ?_)
  clear hc0
  refine hn9 (some ([5, 6], none)) _ ?_
  refine ev_seq_k fun K12 hn12 hr12 he12 => ?_
  refine ev_seq_k fun K13 hn13 hr13 he13 => ?_
  refine ev_ops_k fun K14 hk14 => ?_
  refine sh0 ?_
  refine hk14 _ ?_
  refine hn13 (some ([5, 6, 7], none)) _ ?_
  refine ev_block_k fun K15 hn15 hx15 hr15 he15 => ?_
  refine ev_loop_k (W8Inv a) (a.length) (some ([5, 6, 7], some ([], 0))) ([]) ?_ ?_
  · try refine lp0 ?_
    exact ⟨0, by omega, by omega, rfl⟩
  · intro k S1 hI
    obtain ⟨i, hi, rfl, rfl⟩ := hI
    have hcase : i = a.length ∨ i < a.length := by omega
    intro K16 hn16 hr16 he16
    rcases hcase with hcc | hcc
    · skip
      have w2 : ¬ (i : Int) < (a.length : Int) := by omega
      have F1 := @w2
      refine ev_seq_k fun K17 hn17 hr17 he17 => ?_
      refine ev_seq_k fun K18 hn18 hr18 he18 => ?_
      refine ev_ops_k fun K19 hk19 => ?_
      refine sh1 F1 ?_
      refine sd ?_
      refine hk19 _ ?_
      refine hn18 (some ([5, 6, 7, 20], none)) _ ?_
      refine ev_cond_k rfl (fun hx => absurd hx (by simp at hx)) (fun hc1 => ?_)
      clear hc1
      refine he17 0 _ ?_
      refine he16 0 _ ?_
      refine hx15 _ ?_
      refine hn12 (some ([], none)) _ ?_
      refine ev_seq_k fun K20 hn20 hr20 he20 => ?_
      refine ev_ops_k fun K21 hk21 => ?_
      refine sh1 F1 ?_
      refine hk21 _ ?_
      refine hn20 (some ([4], none)) _ ?_
      exact sf1 F1
    · skip
      skip
      have w2 : (i : Int) < (a.length : Int) := by omega
      have w3 : IntKind.i64.wrap ((i : Int) + 1) = ((i + 1 : Nat) : Int) := by rw [IntKind.wrap_i64]; omega
      have w4 := List.getElem?_eq_getElem hcc
      generalize a[i] = x at w4
      have F2 := And.intro @w2 (And.intro @w3 @w4)
      refine ev_seq_k fun K22 hn22 hr22 he22 => ?_
      refine ev_seq_k fun K23 hn23 hr23 he23 => ?_
      refine ev_ops_k fun K24 hk24 => ?_
      refine sh1 F2 ?_
      refine sd ?_
      refine hk24 _ ?_
      refine hn23 (some ([5, 6, 7, 20], none)) _ ?_
      refine ev_cond_k rfl (fun hc1 => ?_) (fun hx => absurd hx (by simp at hx))
      clear hc1
      refine hn22 (some ([5, 6, 7], none)) _ ?_
      refine ev_seq_k fun K25 hn25 hr25 he25 => ?_
      refine ev_block_k fun K26 hn26 hx26 hr26 he26 => ?_
      refine ev_seq_k fun K27 hn27 hr27 he27 => ?_
      refine ev_drw_k [] (n := 8) fun K28 hk28 => ?_
      refine sq0 ?_
      refine evF_take 3 fun K30 hk30 => ?_
      refine sh1 F2 ?_
      refine sd ?_
      refine hk30 _ _ _ ?_
      refine evF_take 1 fun K31 hk31 => ?_
      refine sh1 F2 ?_
      refine sd ?_
      refine hk31 _ _ _ ?_
      refine evF_take 3 fun K32 hk32 => ?_
      refine sh1 F2 ?_
      refine sd ?_
      refine hk32 _ _ _ ?_
      refine sh1 F2 ?_
      refine sd ?_
      refine hk28 _ ?_
      refine sr0 ?_
      refine sh1 F2 ?_
      refine Or.inl ⟨_, eqsh_word_refl _, ?_⟩
      refine hn27 (some ([5, 6, 7, 31], none)) _ ?_
      refine ev_cond_k rfl (fun hx => absurd hx (by simp at hx)) (fun hc2 => ?_)
      clear hc2
      refine hn26 _ ?_
      refine hn25 (some ([5, 6, 7], none)) _ ?_
      refine ev_ops_k fun K33 hk33 => ?_
      refine evL_take 2 fun K34 hk34 => ?_
      refine sh1 F2 ?_
      refine sd ?_
      refine hk34 _ ?_
      refine sh1 F2 ?_
      refine hk33 _ ?_
      refine hn16 (a.length - (i + 1)) (some ([5, 6, 7], some ([], 0))) _ ?_ ?_
      all_goals try refine lp0 ?_
      · omega
      · exact ⟨i + 1, by omega, by omega, rfl⟩
end Go.Proofs.Ytcbdgnjdpfgobaa

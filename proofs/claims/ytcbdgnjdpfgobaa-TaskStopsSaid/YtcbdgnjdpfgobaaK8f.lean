/-
  Layer 8 by shadows: worlds that are alike, sizes, the world of the laws.
-/
import Derived.Test.YtcbdgnjdpfgobaaK8e
import Derived.Test.YtcbdgnjdpfgobaaMC
namespace Go.Proofs.Ytcbdgnjdpfgobaa
set_option linter.unusedSimpArgs false
set_option linter.unusedVariables false
open Go.RowKit Go.Maps

theorem eqsh_bool_refl (a : Bool) : EqSh 4 (sB a) (sB a) true := by simpa using eqsh_bool a a
theorem int_bne (a : Int) : (a != a) = false := by simp
def AkInv (w : WorldM scr) (k : Nat) (S : St) : Prop :=
  ∃ i : Nat, i ≤ w.tasks.length ∧ k = w.tasks.length - i ∧ S = ⟨[(2, .ptr 0 0 0), (3, .ptr 1 0 0), (5, sI i)], [(0, boxW w), (1, boxW w)], 2⟩
set_option maxHeartbeats 4000000 in
theorem ok_l8alike (w : WorldM scr) {n : Nat} (h : WorldOk w n) (hc : CodedW w) (hn : n ≤ 900) : Ok 32 [eWorld w, eWorld w] (sB true) := by
  refine ok_of_tr Try.func32 tr_l8alike rfl ?_
  have hK := shK scr
  have h8 := worldOk_eight h
  have hst := h.stops
  have k0 := ok_l8words w.m w.m h.mach.mem h.mach.mem (by omega) rfl
  have k1 := ok_kWDone w h8
  have k3 := ok_cCrashes w.m
  generalize doneW w = b at k1
  have ht := h.mach.threads
  have hvl := h.mach.mem.vl
  have hsl : w.m.steps.length ≤ 1000 := by omega
  unfold evFn sc_l8alike rv_l8alike
  have F1 := And.intro @hK @int_bne
  refine ev_seq_k fun K1 hn1 hr1 he1 => ?_
  refine ev_ops_k fun K2 hk2 => ?_
  refine sh1 F1 ?_
  refine hk2 _ ?_
  refine hn1 (some ([2, 3], none)) _ ?_
  refine ev_seq_k fun K3 hn3 hr3 he3 => ?_
  refine ev_seq_k fun K4 hn4 hr4 he4 => ?_
  refine ev_drw_k [] (n := 28) fun K5 hk5 => ?_
  refine sq0 ?_
  refine evF_take 2 fun K7 hk7 => ?_
  refine sh1 F1 ?_
  refine sd ?_
  refine hk7 _ _ _ ?_
  refine evF_take 3 fun K8 hk8 => ?_
  refine sh1 F1 ?_
  refine sd ?_
  refine hk8 _ _ _ ?_
  refine evF_take 2 fun K9 hk9 => ?_
  refine sh1 F1 ?_
  refine sd ?_
  refine hk9 _ _ _ ?_
  refine evF_take 3 fun K10 hk10 => ?_
  refine sh1 F1 ?_
  refine sd ?_
  refine hk10 _ _ _ ?_
  refine evF_take 2 fun K11 hk11 => ?_
  refine sh1 F1 ?_
  refine sd ?_
  refine hk11 _ _ _ ?_
  refine evF_take 1 fun K12 hk12 => ?_
  refine sh1 F1 ?_
  refine ⟨_, k0, ?_⟩
  refine hk12 _ _ _ ?_
  refine evF_take 4 fun K13 hk13 => ?_
  refine sh1 F1 ?_
  refine sd ?_
  refine hk13 _ _ _ ?_
  refine evF_take 1 fun K14 hk14 => ?_
  refine sh1 F1 ?_
  refine ⟨_, k1, ?_⟩
  refine hk14 _ _ _ ?_
  refine evF_take 1 fun K15 hk15 => ?_
  refine sh1 F1 ?_
  refine sd ?_
  refine hk15 _ _ _ ?_
  refine evF_take 1 fun K16 hk16 => ?_
  refine sh1 F1 ?_
  refine ⟨_, k1, ?_⟩
  refine hk16 _ _ _ ?_
  refine evF_take 1 fun K17 hk17 => ?_
  refine sh1 F1 ?_
  refine ⟨_, eqsh_bool_refl _, ?_⟩
  refine hk17 _ _ _ ?_
  refine evF_take 4 fun K18 hk18 => ?_
  refine sh1 F1 ?_
  refine sd ?_
  refine hk18 _ _ _ ?_
  refine evF_take 1 fun K19 hk19 => ?_
  refine sh1 F1 ?_
  refine ⟨_, k3, ?_⟩
  refine hk19 _ _ _ ?_
  refine sh1 F1 ?_
  refine sd ?_
  refine hk5 _ ?_
  refine sr0 ?_
  refine evL_take 1 fun K20 hk20 => ?_
  refine sh1 F1 ?_
  refine Or.inl (Or.inl ⟨_, k3, ?_⟩)
  refine hk20 _ ?_
  refine evL_take 1 fun K21 hk21 => ?_
  refine sh1 F1 ?_
  refine sd ?_
  refine hk21 _ ?_
  refine sh1 F1 ?_
  refine hn4 (some ([2, 3, 40], none)) _ ?_
  refine ev_cond_k rfl (fun hx => absurd hx (by simp at hx)) (fun hc0 => ?_)
  clear hc0
  refine hn3 (some ([2, 3], none)) _ ?_
  refine ev_seq_k fun K22 hn22 hr22 he22 => ?_
  refine ev_seq_k fun K23 hn23 hr23 he23 => ?_
  refine ev_ops_k fun K24 hk24 => ?_
  refine sh1 F1 ?_
  refine hk24 _ ?_
  refine hn23 (some ([2, 3, 5], none)) _ ?_
  refine ev_block_k fun K25 hn25 hx25 hr25 he25 => ?_
  refine ev_loop_k (AkInv w) (w.tasks.length) (some ([2, 3, 5], some ([0, 1], 2))) ([]) ?_ ?_
  · try refine lp0 ?_
    exact ⟨0, by omega, by omega, rfl⟩
  · intro k S1 hI
    obtain ⟨i, hi, rfl, rfl⟩ := hI
    have hcase : i = w.tasks.length ∨ i < w.tasks.length := by omega
    intro K26 hn26 hr26 he26
    rcases hcase with hcc | hcc
    · skip
      have w2 : ¬ (i : Int) < (w.tasks.length : Int) := by omega
      have F2 := And.intro F1 @w2
      refine ev_seq_k fun K27 hn27 hr27 he27 => ?_
      refine ev_seq_k fun K28 hn28 hr28 he28 => ?_
      refine ev_ops_k fun K29 hk29 => ?_
      refine evL_take 3 fun K30 hk30 => ?_
      refine sh1 F2 ?_
      refine sd ?_
      refine hk30 _ ?_
      refine sh1 F2 ?_
      refine sd ?_
      refine hk29 _ ?_
      refine hn28 (some ([2, 3, 5, 45], none)) _ ?_
      refine ev_cond_k rfl (fun hx => absurd hx (by simp at hx)) (fun hc1 => ?_)
      clear hc1
      refine he27 0 _ ?_
      refine he26 0 _ ?_
      refine hx25 _ ?_
      refine hn22 (some ([], none)) _ ?_
      refine ev_seq_k fun K31 hn31 hr31 he31 => ?_
      refine ev_ops_k fun K32 hk32 => ?_
      refine sh1 F2 ?_
      refine hk32 _ ?_
      refine hn31 (some ([4], none)) _ ?_
      exact sf1 F2
    · skip
      skip
      have w2 : (i : Int) < (w.tasks.length : Int) := by omega
      have w3 : IntKind.i64.wrap ((i : Int) + 1) = ((i + 1 : Nat) : Int) := by rw [IntKind.wrap_i64]; omega
      have w4 := List.getElem?_eq_getElem hcc
      generalize w.tasks[i] = y at w4
      have k5 := ok_l8gots y (hc y (List.mem_of_getElem? w4))
      have hgl := (h.task y (List.mem_of_getElem? w4)).good
      obtain ⟨s, hs⟩ := hc y (List.mem_of_getElem? w4)
      have hgl : s.gots.length ≤ n := hgl s hs
      have hgo : gotsOf y = s.gots := by unfold gotsOf; rw [hs]
      rw [hgo] at k5
      have k7 := ok_r8Same 0 0 s.gots (by omega)
      have w5 : i < w.stopped.length := by omega
      have w6 := List.getElem?_eq_getElem w5
      have w7 : (i : Int) < (w.stopped.length : Int) := by omega
      generalize w.stopped[i] = z at w6
      have k8 := ok_cSteps w.m ((i + 1 : Nat) : Int) hsl
      have F3 := And.intro F1 (And.intro @w2 (And.intro @w3 (And.intro @w4 (And.intro @w5 (And.intro @w6 @w7)))))
      refine ev_seq_k fun K33 hn33 hr33 he33 => ?_
      refine ev_seq_k fun K34 hn34 hr34 he34 => ?_
      refine ev_ops_k fun K35 hk35 => ?_
      refine evL_take 3 fun K36 hk36 => ?_
      refine sh1 F3 ?_
      refine sd ?_
      refine hk36 _ ?_
      refine sh1 F3 ?_
      refine sd ?_
      refine hk35 _ ?_
      refine hn34 (some ([2, 3, 5, 45], none)) _ ?_
      refine ev_cond_k rfl (fun hc1 => ?_) (fun hx => absurd hx (by simp at hx))
      clear hc1
      refine hn33 (some ([2, 3, 5], none)) _ ?_
      refine ev_seq_k fun K37 hn37 hr37 he37 => ?_
      refine ev_block_k fun K38 hn38 hx38 hr38 he38 => ?_
      refine ev_seq_k fun K39 hn39 hr39 he39 => ?_
      refine ev_ops_k fun K40 hk40 => ?_
      refine evL_take 2 fun K41 hk41 => ?_
      refine sh1 F3 ?_
      refine sd ?_
      refine hk41 _ ?_
      refine evL_take 2 fun K42 hk42 => ?_
      refine sh1 F3 ?_
      refine sd ?_
      refine hk42 _ ?_
      refine evL_take 1 fun K43 hk43 => ?_
      refine sh1 F3 ?_
      refine sd ?_
      refine hk43 _ ?_
      refine evL_take 1 fun K44 hk44 => ?_
      refine sh1 F3 ?_
      refine Or.inl (Or.inl ⟨_, k5, ?_⟩)
      refine hk44 _ ?_
      refine sh1 F3 ?_
      refine hk40 _ ?_
      refine hn39 (some ([2, 3, 5, 6, 7], none)) _ ?_
      refine ev_seq_k fun K45 hn45 hr45 he45 => ?_
      refine ev_ops_k fun K46 hk46 => ?_
      refine evL_take 2 fun K47 hk47 => ?_
      refine sh1 F3 ?_
      refine sd ?_
      refine hk47 _ ?_
      refine evL_take 2 fun K48 hk48 => ?_
      refine sh1 F3 ?_
      refine sd ?_
      refine hk48 _ ?_
      refine evL_take 1 fun K49 hk49 => ?_
      refine sh1 F3 ?_
      refine sd ?_
      refine hk49 _ ?_
      refine evL_take 1 fun K50 hk50 => ?_
      refine sh1 F3 ?_
      refine Or.inl (Or.inl ⟨_, k5, ?_⟩)
      refine hk50 _ ?_
      refine sh1 F3 ?_
      refine hk46 _ ?_
      refine hn45 (some ([2, 3, 5, 6, 7, 8, 9], none)) _ ?_
      refine ev_seq_k fun K51 hn51 hr51 he51 => ?_
      refine ev_drw_k [] (n := 32) fun K52 hk52 => ?_
      refine sq0 ?_
      refine evF_take 2 fun K54 hk54 => ?_
      refine sh1 F3 ?_
      refine hk54 _ _ _ ?_
      refine evF_take 1 fun K55 hk55 => ?_
      refine sh1 F3 ?_
      refine ⟨_, eqsh_bool_refl _, ?_⟩
      refine hk55 _ _ _ ?_
      refine evF_take 3 fun K56 hk56 => ?_
      refine sh1 F3 ?_
      refine hk56 _ _ _ ?_
      refine evF_take 1 fun K57 hk57 => ?_
      refine sh1 F3 ?_
      refine ⟨_, k7, ?_⟩
      refine hk57 _ _ _ ?_
      refine evF_take 5 fun K58 hk58 => ?_
      refine sh1 F3 ?_
      refine sd ?_
      refine hk58 _ _ _ ?_
      refine evF_take 2 fun K59 hk59 => ?_
      refine sh1 F3 ?_
      refine sd ?_
      refine hk59 _ _ _ ?_
      refine evF_take 1 fun K60 hk60 => ?_
      refine sh1 F3 ?_
      refine sd ?_
      refine hk60 _ _ _ ?_
      refine evF_take 2 fun K61 hk61 => ?_
      refine sh1 F3 ?_
      refine sd ?_
      refine hk61 _ _ _ ?_
      refine evF_take 2 fun K62 hk62 => ?_
      refine sh1 F3 ?_
      refine sd ?_
      refine hk62 _ _ _ ?_
      refine evF_take 1 fun K63 hk63 => ?_
      refine sh1 F3 ?_
      refine sd ?_
      refine hk63 _ _ _ ?_
      refine evF_take 1 fun K64 hk64 => ?_
      refine sh1 F3 ?_
      refine ⟨_, eqsh_bool_refl _, ?_⟩
      refine hk64 _ _ _ ?_
      refine evF_take 4 fun K65 hk65 => ?_
      refine sh1 F3 ?_
      refine sd ?_
      refine hk65 _ _ _ ?_
      refine evF_take 2 fun K66 hk66 => ?_
      refine sh1 F3 ?_
      refine sd ?_
      refine hk66 _ _ _ ?_
      refine evF_take 1 fun K67 hk67 => ?_
      refine sh1 F3 ?_
      refine ⟨_, k8, ?_⟩
      refine hk67 _ _ _ ?_
      refine evF_take 2 fun K68 hk68 => ?_
      refine sh1 F3 ?_
      refine sd ?_
      refine hk68 _ _ _ ?_
      refine sh1 F3 ?_
      refine sd ?_
      refine hk52 _ ?_
      refine sr0 ?_
      refine evL_take 1 fun K69 hk69 => ?_
      refine sh1 F3 ?_
      refine Or.inl (Or.inl ⟨_, k8, ?_⟩)
      refine hk69 _ ?_
      refine evL_take 1 fun K70 hk70 => ?_
      refine sh1 F3 ?_
      refine sd ?_
      refine hk70 _ ?_
      refine sh1 F3 ?_
      refine hn51 (some ([2, 3, 5, 100], none)) _ ?_
      refine ev_cond_k rfl (fun hx => absurd hx (by simp at hx)) (fun hc2 => ?_)
      clear hc2
      refine hn38 _ ?_
      refine hn37 (some ([2, 3, 5], none)) _ ?_
      refine ev_ops_k fun K71 hk71 => ?_
      refine evL_take 2 fun K72 hk72 => ?_
      refine sh1 F3 ?_
      refine sd ?_
      refine hk72 _ ?_
      refine sh1 F3 ?_
      refine hk71 _ ?_
      refine hn26 (w.tasks.length - (i + 1)) (some ([2, 3, 5], some ([0, 1], 2))) _ ?_ ?_
      all_goals try refine lp0 ?_
      · omega
      · exact ⟨i + 1, by omega, by omega, rfl⟩

/-! ### Sizes -/
abbrev eA1 (a : List ActM) : List Sh := [.sl 8 2 (a.map eAct4)]
def Small (l : List (List ActM)) (ps : List PickV) : Prop := (∀ a ∈ l, a.length ≤ 30) ∧ l.length ≤ 4 ∧ ps.length ≤ 120
def GtInv (g : Nat) (l : List (List ActM)) (g2 : Nat) (ps : List PickV) (m : Nat) (S : St) : Prop :=
  ∃ i : Nat, i ≤ l.length ∧ i ≤ 9 ∧ m = l.length - i ∧ (∀ a ∈ l.take i, a.length ≤ 30) ∧ S = ⟨[(0, .sl 1 g (l.map eA1)), (1, .sl 3 g2 (ps.map ePick)), (5, sI i)], [], 0⟩
theorem ok_great_no (g : Nat) (l : List (List ActM)) (g2 : Nat) (ps : List PickV) (h : Small l ps) : Ok 28 [.sl 1 g (l.map eA1), .sl 3 g2 (ps.map ePick)] (sB false) := by
  refine ok_of_tr Try.func28 tr_l8great rfl ?_
  obtain ⟨h1, h2, h3⟩ := h
  unfold evFn sc_l8great rv_l8great
  refine ev_seq_k fun K1 hn1 hr1 he1 => ?_
  refine ev_ops_k fun K2 hk2 => ?_
  refine sh0 ?_
  refine hk2 _ ?_
  refine hn1 (some ([0, 1], none)) _ ?_
  refine ev_seq_k fun K3 hn3 hr3 he3 => ?_
  refine ev_seq_k fun K4 hn4 hr4 he4 => ?_
  refine ev_ops_k fun K5 hk5 => ?_
  refine sh0 ?_
  refine hk5 _ ?_
  refine hn4 (some ([0, 1, 5], none)) _ ?_
  refine ev_block_k fun K6 hn6 hx6 hr6 he6 => ?_
  refine ev_loop_k (GtInv g l g2 ps) (l.length) (some ([0, 1, 5], some ([], 0))) ([]) ?_ ?_
  · try refine lp0 ?_
    exact ⟨0, by omega, by omega, by omega, by simp, rfl⟩
  · intro k S1 hI
    obtain ⟨i, hi, hi9, rfl, hall, rfl⟩ := hI
    have hcase : i = l.length ∨ i < l.length := by omega
    intro K7 hn7 hr7 he7
    rcases hcase with hcc | hcc
    · skip
      have w2 : ¬ (i : Int) < (l.length : Int) := by omega
      have w3 : ¬ (4 : Int) < (l.length : Int) := by omega
      have w4 : ¬ (120 : Int) < (ps.length : Int) := by omega
      have F1 := And.intro @w2 (And.intro @w3 @w4)
      refine ev_seq_k fun K8 hn8 hr8 he8 => ?_
      refine ev_seq_k fun K9 hn9 hr9 he9 => ?_
      refine ev_ops_k fun K10 hk10 => ?_
      refine evL_take 4 fun K11 hk11 => ?_
      refine sh1 F1 ?_
      refine sd ?_
      refine hk11 _ ?_
      refine evL_take 3 fun K12 hk12 => ?_
      refine sh1 F1 ?_
      refine sd ?_
      refine hk12 _ ?_
      refine sh1 F1 ?_
      refine hk10 _ ?_
      refine hn9 (some ([0, 1, 5, 13], none)) _ ?_
      refine ev_cond_k rfl (fun hx => absurd hx (by simp at hx)) (fun hc0 => ?_)
      clear hc0
      refine he8 0 _ ?_
      refine he7 0 _ ?_
      refine hx6 _ ?_
      refine hn3 (some ([0, 1], none)) _ ?_
      refine ev_seq_k fun K13 hn13 hr13 he13 => ?_
      refine ev_ops_k fun K14 hk14 => ?_
      refine evL_take 3 fun K15 hk15 => ?_
      refine sh1 F1 ?_
      refine sd ?_
      refine hk15 _ ?_
      refine evL_take 4 fun K16 hk16 => ?_
      refine sh1 F1 ?_
      refine sd ?_
      refine hk16 _ ?_
      refine sh1 F1 ?_
      refine hk14 _ ?_
      refine hn13 (some ([4], none)) _ ?_
      exact sf1 F1
    · skip
      skip
      have w2 : (i : Int) < (l.length : Int) := by omega
      have w3 : IntKind.i64.wrap ((i : Int) + 1) = ((i + 1 : Nat) : Int) := by rw [IntKind.wrap_i64]; omega
      have w4 := List.getElem?_eq_getElem hcc
      have w5 : ¬ (30 : Int) < ((l[i]).length : Int) := by have := h1 _ (List.mem_of_getElem? w4); omega
      have w6 : (i : Int) < 9 := by omega
      generalize l[i] = a at w4 w5
      have F2 := And.intro @w2 (And.intro @w3 (And.intro @w4 (And.intro @w5 @w6)))
      refine ev_seq_k fun K17 hn17 hr17 he17 => ?_
      refine ev_seq_k fun K18 hn18 hr18 he18 => ?_
      refine ev_ops_k fun K19 hk19 => ?_
      refine evL_take 4 fun K20 hk20 => ?_
      refine sh1 F2 ?_
      refine sd ?_
      refine hk20 _ ?_
      refine evL_take 3 fun K21 hk21 => ?_
      refine sh1 F2 ?_
      refine sd ?_
      refine hk21 _ ?_
      refine sh1 F2 ?_
      refine hk19 _ ?_
      refine hn18 (some ([0, 1, 5, 13], none)) _ ?_
      refine ev_cond_k rfl (fun hc0 => ?_) (fun hx => absurd hx (by simp at hx))
      clear hc0
      refine hn17 (some ([0, 1, 5], none)) _ ?_
      refine ev_seq_k fun K22 hn22 hr22 he22 => ?_
      refine ev_block_k fun K23 hn23 hx23 hr23 he23 => ?_
      refine ev_seq_k fun K24 hn24 hr24 he24 => ?_
      refine ev_ops_k fun K25 hk25 => ?_
      refine evL_take 3 fun K26 hk26 => ?_
      refine sh1 F2 ?_
      refine sd ?_
      refine hk26 _ ?_
      refine evL_take 1 fun K27 hk27 => ?_
      refine sh1 F2 ?_
      refine sd ?_
      refine hk27 _ ?_
      refine sh1 F2 ?_
      refine sd ?_
      refine hk25 _ ?_
      refine hn24 (some ([0, 1, 5, 21], none)) _ ?_
      refine ev_cond_k rfl (fun hx => absurd hx (by simp at hx)) (fun hc1 => ?_)
      clear hc1
      refine hn23 _ ?_
      refine hn22 (some ([0, 1, 5], none)) _ ?_
      refine ev_ops_k fun K28 hk28 => ?_
      refine evL_take 2 fun K29 hk29 => ?_
      refine sh1 F2 ?_
      refine sd ?_
      refine hk29 _ ?_
      refine sh1 F2 ?_
      refine hk28 _ ?_
      refine hn7 (l.length - (i + 1)) (some ([0, 1, 5], some ([], 0))) _ ?_ ?_
      all_goals try refine lp0 ?_
      · omega
      · exact ⟨i + 1, by omega, by omega, by omega, fun a ha => h1 a (List.mem_of_mem_take ha), rfl⟩
theorem ok_great_yes (g : Nat) (l : List (List ActM)) (g2 : Nat) (ps : List PickV) (h : ¬ Small l ps) (hl : l.length ≤ 9223372036854775807) : Ok 28 [.sl 1 g (l.map eA1), .sl 3 g2 (ps.map ePick)] (sB true) := by
  refine ok_of_tr Try.func28 tr_l8great rfl ?_
  unfold evFn sc_l8great rv_l8great
  refine ev_seq_k fun K1 hn1 hr1 he1 => ?_
  refine ev_ops_k fun K2 hk2 => ?_
  refine sh0 ?_
  refine hk2 _ ?_
  refine hn1 (some ([0, 1], none)) _ ?_
  refine ev_seq_k fun K3 hn3 hr3 he3 => ?_
  refine ev_seq_k fun K4 hn4 hr4 he4 => ?_
  refine ev_ops_k fun K5 hk5 => ?_
  refine sh0 ?_
  refine hk5 _ ?_
  refine hn4 (some ([0, 1, 5], none)) _ ?_
  refine ev_block_k fun K6 hn6 hx6 hr6 he6 => ?_
  refine ev_loop_k (GtInv g l g2 ps) (l.length) (some ([0, 1, 5], some ([], 0))) ([]) ?_ ?_
  · try refine lp0 ?_
    exact ⟨0, by omega, by omega, by omega, by simp, rfl⟩
  · intro k S1 hI
    obtain ⟨i, hi, hi9, rfl, hall, rfl⟩ := hI
    have hcase : (i = l.length ∧ (4 : Int) < (l.length : Int)) ∨ (i = l.length ∧ ¬ (4 : Int) < (l.length : Int) ∧ (120 : Int) < (ps.length : Int)) ∨ (i = 9 ∧ i < l.length) ∨ (i < 9 ∧ ∃ a, l[i]? = some a ∧ (30 : Int) < (a.length : Int)) ∨ (i < 9 ∧ ∃ a, l[i]? = some a ∧ ¬ (30 : Int) < (a.length : Int)) := by
      rcases Nat.lt_or_ge i l.length with h' | h'
      · by_cases h9 : i = 9
        · exact .inr (.inr (.inl ⟨h9, h'⟩))
        · by_cases h30 : (30 : Int) < ((l[i]).length : Int)
          · exact .inr (.inr (.inr (.inl ⟨by omega, _, List.getElem?_eq_getElem h', h30⟩)))
          · exact .inr (.inr (.inr (.inr ⟨by omega, _, List.getElem?_eq_getElem h', h30⟩)))
      · have e : i = l.length := by omega
        by_cases h4 : (4 : Int) < (l.length : Int)
        · exact .inl ⟨e, h4⟩
        · refine .inr (.inl ⟨e, h4, ?_⟩)
          refine Int.not_le.1 fun h5 => h ⟨fun a ha => ?_, by omega, by omega⟩
          rw [e, List.take_length] at hall
          exact hall a ha
    intro K7 hn7 hr7 he7
    rcases hcase with ⟨hcc, hb⟩ | ⟨hcc, hb, hb2⟩ | ⟨hcc, hb⟩ | ⟨h9, x, hx0, hb⟩ | ⟨h9, x, hx0, hb⟩
    · skip
      have w2 : ¬ (i : Int) < (l.length : Int) := by omega
      have F1 := And.intro @w2 @hb
      refine ev_seq_k fun K8 hn8 hr8 he8 => ?_
      refine ev_seq_k fun K9 hn9 hr9 he9 => ?_
      refine ev_ops_k fun K10 hk10 => ?_
      refine evL_take 4 fun K11 hk11 => ?_
      refine sh1 F1 ?_
      refine sd ?_
      refine hk11 _ ?_
      refine evL_take 3 fun K12 hk12 => ?_
      refine sh1 F1 ?_
      refine sd ?_
      refine hk12 _ ?_
      refine sh1 F1 ?_
      refine hk10 _ ?_
      refine hn9 (some ([0, 1, 5, 13], none)) _ ?_
      refine ev_cond_k rfl (fun hx => absurd hx (by simp at hx)) (fun hc0 => ?_)
      clear hc0
      refine he8 0 _ ?_
      refine he7 0 _ ?_
      refine hx6 _ ?_
      refine hn3 (some ([0, 1], none)) _ ?_
      refine ev_seq_k fun K13 hn13 hr13 he13 => ?_
      refine ev_ops_k fun K14 hk14 => ?_
      refine evL_take 3 fun K15 hk15 => ?_
      refine sh1 F1 ?_
      refine sd ?_
      refine hk15 _ ?_
      refine evL_take 4 fun K16 hk16 => ?_
      refine sh1 F1 ?_
      refine sd ?_
      refine hk16 _ ?_
      refine sh1 F1 ?_
      refine hk14 _ ?_
      refine hn13 (some ([4], none)) _ ?_
      exact sf1 F1
    · skip
      have w2 : ¬ (i : Int) < (l.length : Int) := by omega
      have F2 := And.intro @w2 (And.intro @hb @hb2)
      refine ev_seq_k fun K17 hn17 hr17 he17 => ?_
      refine ev_seq_k fun K18 hn18 hr18 he18 => ?_
      refine ev_ops_k fun K19 hk19 => ?_
      refine evL_take 4 fun K20 hk20 => ?_
      refine sh1 F2 ?_
      refine sd ?_
      refine hk20 _ ?_
      refine evL_take 3 fun K21 hk21 => ?_
      refine sh1 F2 ?_
      refine sd ?_
      refine hk21 _ ?_
      refine sh1 F2 ?_
      refine hk19 _ ?_
      refine hn18 (some ([0, 1, 5, 13], none)) _ ?_
      refine ev_cond_k rfl (fun hx => absurd hx (by simp at hx)) (fun hc0 => ?_)
      clear hc0
      refine he17 0 _ ?_
      refine he7 0 _ ?_
      refine hx6 _ ?_
      refine hn3 (some ([0, 1], none)) _ ?_
      refine ev_seq_k fun K22 hn22 hr22 he22 => ?_
      refine ev_ops_k fun K23 hk23 => ?_
      refine evL_take 3 fun K24 hk24 => ?_
      refine sh1 F2 ?_
      refine sd ?_
      refine hk24 _ ?_
      refine evL_take 4 fun K25 hk25 => ?_
      refine sh1 F2 ?_
      refine sd ?_
      refine hk25 _ ?_
      refine sh1 F2 ?_
      refine hk23 _ ?_
      refine hn22 (some ([4], none)) _ ?_
      exact sf1 F2
    · skip
      have w2 : (i : Int) < (l.length : Int) := by omega
      have w3 : ¬ (i : Int) < 9 := by omega
      have w4 : (4 : Int) < (l.length : Int) := by omega
      have F3 := And.intro @w2 (And.intro @w3 @w4)
      refine ev_seq_k fun K26 hn26 hr26 he26 => ?_
      refine ev_seq_k fun K27 hn27 hr27 he27 => ?_
      refine ev_ops_k fun K28 hk28 => ?_
      refine evL_take 4 fun K29 hk29 => ?_
      refine sh1 F3 ?_
      refine sd ?_
      refine hk29 _ ?_
      refine evL_take 3 fun K30 hk30 => ?_
      refine sh1 F3 ?_
      refine sd ?_
      refine hk30 _ ?_
      refine sh1 F3 ?_
      refine hk28 _ ?_
      refine hn27 (some ([0, 1, 5, 13], none)) _ ?_
      refine ev_cond_k rfl (fun hx => absurd hx (by simp at hx)) (fun hc0 => ?_)
      clear hc0
      refine he26 0 _ ?_
      refine he7 0 _ ?_
      refine hx6 _ ?_
      refine hn3 (some ([0, 1], none)) _ ?_
      refine ev_seq_k fun K31 hn31 hr31 he31 => ?_
      refine ev_ops_k fun K32 hk32 => ?_
      refine evL_take 3 fun K33 hk33 => ?_
      refine sh1 F3 ?_
      refine sd ?_
      refine hk33 _ ?_
      refine evL_take 4 fun K34 hk34 => ?_
      refine sh1 F3 ?_
      refine sd ?_
      refine hk34 _ ?_
      refine sh1 F3 ?_
      refine hk32 _ ?_
      refine hn31 (some ([4], none)) _ ?_
      exact sf1 F3
    · skip
      have hlt := (List.getElem?_eq_some_iff.1 hx0).1
      have w2 : (i : Int) < (l.length : Int) := by omega
      have w3 : (i : Int) < 9 := by omega
      have F4 := And.intro @w2 (And.intro @w3 (And.intro @hx0 @hb))
      refine ev_seq_k fun K35 hn35 hr35 he35 => ?_
      refine ev_seq_k fun K36 hn36 hr36 he36 => ?_
      refine ev_ops_k fun K37 hk37 => ?_
      refine evL_take 4 fun K38 hk38 => ?_
      refine sh1 F4 ?_
      refine sd ?_
      refine hk38 _ ?_
      refine evL_take 3 fun K39 hk39 => ?_
      refine sh1 F4 ?_
      refine sd ?_
      refine hk39 _ ?_
      refine sh1 F4 ?_
      refine hk37 _ ?_
      refine hn36 (some ([0, 1, 5, 13], none)) _ ?_
      refine ev_cond_k rfl (fun hc0 => ?_) (fun hx => absurd hx (by simp at hx))
      clear hc0
      refine hn35 (some ([0, 1, 5], none)) _ ?_
      refine ev_seq_k fun K40 hn40 hr40 he40 => ?_
      refine ev_block_k fun K41 hn41 hx41 hr41 he41 => ?_
      refine ev_seq_k fun K42 hn42 hr42 he42 => ?_
      refine ev_ops_k fun K43 hk43 => ?_
      refine evL_take 3 fun K44 hk44 => ?_
      refine sh1 F4 ?_
      refine sd ?_
      refine hk44 _ ?_
      refine evL_take 1 fun K45 hk45 => ?_
      refine sh1 F4 ?_
      refine sd ?_
      refine hk45 _ ?_
      refine sh1 F4 ?_
      refine sd ?_
      refine hk43 _ ?_
      refine hn42 (some ([0, 1, 5, 21], none)) _ ?_
      refine ev_cond_k rfl (fun hc1 => ?_) (fun hx => absurd hx (by simp at hx))
      clear hc1
      refine ev_seq_k fun K46 hn46 hr46 he46 => ?_
      refine ev_ops_k fun K47 hk47 => ?_
      refine sh1 F4 ?_
      refine hk47 _ ?_
      refine hn46 (some ([4], none)) _ ?_
      refine hr41 _ ?_
      refine hr40 _ ?_
      refine hr7 _ ?_
      refine hr6 _ ?_
      refine hr3 _ ?_
      exact sf1 F4
    · skip
      have hlt := (List.getElem?_eq_some_iff.1 hx0).1
      have w2 : (i : Int) < (l.length : Int) := by omega
      have w3 : (i : Int) < 9 := by omega
      have w4 : IntKind.i64.wrap ((i : Int) + 1) = ((i + 1 : Nat) : Int) := by rw [IntKind.wrap_i64]; omega
      have F5 := And.intro @w2 (And.intro @w3 (And.intro @w4 (And.intro @hx0 @hb)))
      refine ev_seq_k fun K48 hn48 hr48 he48 => ?_
      refine ev_seq_k fun K49 hn49 hr49 he49 => ?_
      refine ev_ops_k fun K50 hk50 => ?_
      refine evL_take 4 fun K51 hk51 => ?_
      refine sh1 F5 ?_
      refine sd ?_
      refine hk51 _ ?_
      refine evL_take 3 fun K52 hk52 => ?_
      refine sh1 F5 ?_
      refine sd ?_
      refine hk52 _ ?_
      refine sh1 F5 ?_
      refine hk50 _ ?_
      refine hn49 (some ([0, 1, 5, 13], none)) _ ?_
      refine ev_cond_k rfl (fun hc0 => ?_) (fun hx => absurd hx (by simp at hx))
      clear hc0
      refine hn48 (some ([0, 1, 5], none)) _ ?_
      refine ev_seq_k fun K53 hn53 hr53 he53 => ?_
      refine ev_block_k fun K54 hn54 hx54 hr54 he54 => ?_
      refine ev_seq_k fun K55 hn55 hr55 he55 => ?_
      refine ev_ops_k fun K56 hk56 => ?_
      refine evL_take 3 fun K57 hk57 => ?_
      refine sh1 F5 ?_
      refine sd ?_
      refine hk57 _ ?_
      refine evL_take 1 fun K58 hk58 => ?_
      refine sh1 F5 ?_
      refine sd ?_
      refine hk58 _ ?_
      refine sh1 F5 ?_
      refine sd ?_
      refine hk56 _ ?_
      refine hn55 (some ([0, 1, 5, 21], none)) _ ?_
      refine ev_cond_k rfl (fun hx => absurd hx (by simp at hx)) (fun hc1 => ?_)
      clear hc1
      refine hn54 _ ?_
      refine hn53 (some ([0, 1, 5], none)) _ ?_
      refine ev_ops_k fun K59 hk59 => ?_
      refine evL_take 2 fun K60 hk60 => ?_
      refine sh1 F5 ?_
      refine sd ?_
      refine hk60 _ ?_
      refine sh1 F5 ?_
      refine hk59 _ ?_
      refine hn7 (l.length - (i + 1)) (some ([0, 1, 5], some ([], 0))) _ ?_ ?_
      all_goals try refine lp0 ?_
      · omega
      · refine ⟨i + 1, by omega, by omega, by omega, fun a ha => ?_, rfl⟩
        rw [List.take_add_one, hx0] at ha
        rcases List.mem_append.1 ha with ha | ha
        · exact hall a ha
        · simp only [Option.toList_some, List.mem_singleton] at ha; subst ha; omega

/-! ### The world of the laws -/
abbrev eS1 (s : ScrV) : List Sh := [.ifc 44 (.agg (cScr s))]
theorem eC1_scr : eC1 scr = eS1 := rfl
def words0 : List WordV := (List.range 16).map fun (i : Nat) => ⟨(i : Int), 0, 0⟩
def mach0 : MachM := (cnewM 4 words0).1
def scrs (l : List (List ActM)) : List ScrV := l.map fun a => ⟨2, a, [], false⟩
def madeW (l : List (List ActM)) : WorldM scr := (makeM (C := scr) mach0 (scrs l)).1
abbrev eTh0 (a : List ActM) : List Sh := [.sl 8 2 (a.map eAct4), .sl 4 0 [], sB false]
def M8a (g : Nat) (l : List (List ActM)) (m : Nat) (S : St) : Prop :=
  ∃ i : Nat, i ≤ 16 ∧ m = 16 - i ∧ S = ⟨[(0, .sl 1 g (l.map eA1)), (2, .ptr 0 0 0), (5, .own 1), (6, sI i)], [(0, .box 48 zCells), (1, .row 39 3 ((words0.take i).map eWord))], 2⟩
def M8b (g : Nat) (l : List (List ActM)) (m : Nat) (S : St) : Prop :=
  ∃ i : Nat, i ≤ l.length ∧ m = l.length - i ∧ S = ⟨[(0, .sl 1 g (l.map eA1)), (2, .ptr 0 0 0), (7, .ptr 1 0 0), (8, sI 0), (9, .own 2), (10, .own 3), (11, sI i)], [(0, .box 48 zCells), (1, .box 33 (cMach mach0)), (2, .row 54 1 (((scrs l).take i).map eS1)), (3, .row 133 3 ((l.take i).map eTh0))], 4⟩
theorem made_ok (l : List (List ActM)) (h : l.length ≤ 4) : (makeM (C := scr) mach0 (scrs l)).2 = 0 ∧ madeW l = ⟨mach0, (scrs l).map (startM (C := scr)), List.replicate l.length false⟩ := by
  have hv : mach0.mem.views.length = 4 := by rfl
  have hl : (scrs l).length = l.length := by simp [scrs]
  unfold madeW makeM
  rw [if_neg (by rw [hv, hl]; omega), hl]
  exact ⟨rfl, rfl⟩
set_option maxHeartbeats 4000000 in
theorem ok_l8made (g : Nat) (l : List (List ActM)) (h : l.length ≤ 4) : Ok 29 [.sl 1 g (l.map eA1)] (.tup [eWorld (madeW l), .sl 3 0 (l.map eTh0), sB true]) := by
  refine ok_of_tr Try.func29 tr_l8made rfl ?_
  have k0 := ok_cNew 4 0 words0
  have e0 : (cnewM 4 words0).2 = 0 := by rfl
  have e1 : (cnewM 4 words0).1 = mach0 := rfl
  rw [e0, e1] at k0
  have k1 := ok_kMake (C := scr) mach0 0 (scrs l) (by decide) (n := 0) (fun s hs => by
    obtain ⟨a, _, rfl⟩ := List.mem_map.1 hs
    exact Nat.le_refl _) (by decide)
  rw [eC1_scr, (made_ok l h).1] at k1
  change Ok _ _ (.tup [eWorld (madeW l), sI 0]) at k1
  have hcl : (scrs l).length = l.length := by simp [scrs]
  have hwl : words0.length = 16 := rfl
  have hwi : ∀ i : Nat, i < 16 → (words0.take (i + 1)).map eWord = (words0.take i).map eWord ++ [eWord ⟨(i : Int), 0, 0⟩] := fun i hi => by
    rw [show words0.take (i + 1) = words0.take i ++ [⟨(i : Int), 0, 0⟩] from ?_, List.map_append]
    · rfl
    · rw [List.take_add_one]
      congr 1
      unfold words0
      rw [List.getElem?_map, List.getElem?_range hi]; rfl
  generalize madeW l = W at k1 ⊢
  unfold evFn sc_l8made rv_l8made
  refine ev_seq_k fun K1 hn1 hr1 he1 => ?_
  refine ev_ops_k fun K2 hk2 => ?_
  refine sh0 ?_
  refine hk2 _ ?_
  refine hn1 (some ([0, 2], none)) _ ?_
  refine ev_seq_k fun K3 hn3 hr3 he3 => ?_
  refine ev_ops_k fun K4 hk4 => ?_
  refine sh0 ?_
  refine hk4 _ ?_
  refine hn3 (some ([0, 2, 5], none)) _ ?_
  refine ev_seq_k fun K5 hn5 hr5 he5 => ?_
  refine ev_seq_k fun K6 hn6 hr6 he6 => ?_
  refine ev_ops_k fun K7 hk7 => ?_
  refine sh0 ?_
  refine hk7 _ ?_
  refine hn6 (some ([0, 2, 5, 6], none)) _ ?_
  refine ev_block_k fun K8 hn8 hx8 hr8 he8 => ?_
  refine ev_loop_k (M8a g l) (16) (some ([0, 2, 5, 6], some ([0, 1], 2))) ([.slot 5 (some 39) 3]) ?_ ?_
  · try refine lp0 ?_
    exact ⟨0, by omega, by omega, by rfl⟩
  · intro k S1 hI
    obtain ⟨i, hi, rfl, rfl⟩ := hI
    have hcase : i = 16 ∨ i < 16 := by omega
    intro K9 hn9 hr9 he9
    rcases hcase with hcc | hcc
    · skip
      have w2 : ¬ (i : Int) < 16 := by omega
      have w3 : words0.take i = words0 := by rw [List.take_of_length_le (by omega)]
      have F1 := And.intro @w2 @w3
      refine ev_seq_k fun K10 hn10 hr10 he10 => ?_
      refine ev_seq_k fun K11 hn11 hr11 he11 => ?_
      refine ev_ops_k fun K12 hk12 => ?_
      refine sh1 F1 ?_
      refine sd ?_
      refine hk12 _ ?_
      refine hn11 (some ([0, 2, 5, 6, 15], none)) _ ?_
      refine ev_cond_k rfl (fun hx => absurd hx (by simp at hx)) (fun hc0 => ?_)
      clear hc0
      refine he10 0 _ ?_
      refine he9 0 _ ?_
      refine hx8 _ ?_
      refine hn5 (some ([0, 2, 5], none)) _ ?_
      refine ev_seq_k fun K13 hn13 hr13 he13 => ?_
      refine ev_ops_k fun K14 hk14 => ?_
      refine evL_take 1 fun K15 hk15 => ?_
      refine sh1 F1 ?_
      refine hk15 _ ?_
      refine evL_take 1 fun K16 hk16 => ?_
      refine sh1 F1 ?_
      refine Or.inl (Or.inl ⟨_, k0, ?_⟩)
      refine hk16 _ ?_
      refine evL_take 5 fun K17 hk17 => ?_
      refine sh1 F1 ?_
      refine sd ?_
      refine hk17 _ ?_
      refine sh1 F1 ?_
      refine hk14 _ ?_
      refine hn13 (some ([0, 2, 7, 8], none)) _ ?_
      refine ev_seq_k fun K18 hn18 hr18 he18 => ?_
      refine ev_ops_k fun K19 hk19 => ?_
      refine sh1 F1 ?_
      refine hk19 _ ?_
      refine hn18 (some ([0, 2, 7, 8, 9], none)) _ ?_
      refine ev_seq_k fun K20 hn20 hr20 he20 => ?_
      refine ev_ops_k fun K21 hk21 => ?_
      refine sh1 F1 ?_
      refine hk21 _ ?_
      refine hn20 (some ([0, 2, 7, 8, 9, 10], none)) _ ?_
      refine ev_seq_k fun K22 hn22 hr22 he22 => ?_
      refine ev_seq_k fun K23 hn23 hr23 he23 => ?_
      refine ev_ops_k fun K24 hk24 => ?_
      refine sh1 F1 ?_
      refine hk24 _ ?_
      refine hn23 (some ([0, 2, 7, 8, 9, 10, 11], none)) _ ?_
      refine ev_block_k fun K25 hn25 hx25 hr25 he25 => ?_
      refine ev_loop_k (M8b g l) (l.length) (some ([0, 2, 7, 8, 9, 10, 11], some ([0, 2, 3, 4], 4))) ([.slot 9 (some 54) 1, .slot 10 (some 133) 3]) ?_ ?_
      · try refine lp0 ?_
        exact ⟨0, by omega, by omega, by rfl⟩
      · intro k S1 hI
        obtain ⟨j, hj, rfl, rfl⟩ := hI
        have hcase : j = l.length ∨ j < l.length := by omega
        intro K26 hn26 hr26 he26
        rcases hcase with hcd | hcd
        · skip
          have w2 : ¬ (j : Int) < (l.length : Int) := by omega
          have w3 : (scrs l).take j = scrs l := by rw [List.take_of_length_le (by omega)]
          have w4 : l.take j = l := by rw [List.take_of_length_le (by omega)]
          have F2 := And.intro F1 (And.intro @w2 (And.intro @w3 @w4))
          refine ev_seq_k fun K27 hn27 hr27 he27 => ?_
          refine ev_seq_k fun K28 hn28 hr28 he28 => ?_
          refine ev_ops_k fun K29 hk29 => ?_
          refine sh1 F2 ?_
          refine sd ?_
          refine hk29 _ ?_
          refine hn28 (some ([0, 2, 7, 8, 9, 10, 11, 31], none)) _ ?_
          refine ev_cond_k rfl (fun hx => absurd hx (by simp at hx)) (fun hc1 => ?_)
          clear hc1
          refine he27 2 _ ?_
          refine he26 2 _ ?_
          refine hx25 _ ?_
          refine hn22 (some ([2, 7, 8, 9, 10], none)) _ ?_
          refine ev_seq_k fun K30 hn30 hr30 he30 => ?_
          refine ev_ops_k fun K31 hk31 => ?_
          refine evL_take 1 fun K32 hk32 => ?_
          refine sh1 F2 ?_
          refine sd ?_
          refine hk32 _ ?_
          refine evL_take 1 fun K33 hk33 => ?_
          refine sh1 F2 ?_
          refine hk33 _ ?_
          refine evL_take 1 fun K34 hk34 => ?_
          refine sh1 F2 ?_
          refine Or.inl (Or.inl ⟨_, k1, ?_⟩)
          refine hk34 _ ?_
          refine evL_take 5 fun K35 hk35 => ?_
          refine sh1 F2 ?_
          refine sd ?_
          refine hk35 _ ?_
          refine sh1 F2 ?_
          refine hk31 _ ?_
          refine hn30 (some ([2, 8, 10, 12, 13], none)) _ ?_
          refine ev_seq_k fun K36 hn36 hr36 he36 => ?_
          refine ev_ops_k fun K37 hk37 => ?_
          refine evL_take 1 fun K38 hk38 => ?_
          refine sh1 F2 ?_
          refine sd ?_
          refine hk38 _ ?_
          refine evL_take 3 fun K39 hk39 => ?_
          refine sh1 F2 ?_
          refine sd ?_
          refine hk39 _ ?_
          refine evL_take 3 fun K40 hk40 => ?_
          refine sh1 F2 ?_
          refine sd ?_
          refine hk40 _ ?_
          refine evL_take 2 fun K41 hk41 => ?_
          refine sh1 F2 ?_
          refine sd ?_
          refine hk41 _ ?_
          refine sh1 F2 ?_
          refine hk37 _ ?_
          refine hn36 (some ([2, 3, 4], none)) _ ?_
          exact sf1 F2
        · skip
          have w2 : (j : Int) < (l.length : Int) := by omega
          have w3 : IntKind.i64.wrap ((j : Int) + 1) = ((j + 1 : Nat) : Int) := by rw [IntKind.wrap_i64]; omega
          obtain ⟨a, ha⟩ : ∃ a, l[j]? = some a := ⟨_, List.getElem?_eq_getElem hcd⟩
          have e2 : ((scrs l).take (j + 1)).map eS1 = ((scrs l).take j).map eS1 ++ [eS1 ⟨2, a, [], false⟩] := by
            rw [show (scrs l).take (j + 1) = (scrs l).take j ++ [⟨2, a, [], false⟩] from by rw [List.take_add_one]; unfold scrs; rw [List.getElem?_map, ha]; rfl, List.map_append]; rfl
          have e3 : (l.take (j + 1)).map eTh0 = (l.take j).map eTh0 ++ [eTh0 a] := by
            rw [show l.take (j + 1) = l.take j ++ [a] from by rw [List.take_add_one, ha]; rfl, List.map_append]; rfl
          have w4 : ((scrs l).take j).length = j := by simp; omega
          have w5 : (l.take j).length = j := by simp; omega
          have w6 : (j + 1) * 16 ≤ 140737488355328 := by omega
          have w7 : (j + 1) * 56 ≤ 140737488355328 := by omega
          have F3 := And.intro F1 (And.intro @w2 (And.intro @w3 (And.intro @w4 (And.intro @w5 (And.intro @w6 (And.intro @w7 @ha))))))
          refine ev_seq_k fun K42 hn42 hr42 he42 => ?_
          refine ev_seq_k fun K43 hn43 hr43 he43 => ?_
          refine ev_ops_k fun K44 hk44 => ?_
          refine sh1 F3 ?_
          refine sd ?_
          refine hk44 _ ?_
          refine hn43 (some ([0, 2, 7, 8, 9, 10, 11, 31], none)) _ ?_
          refine ev_cond_k rfl (fun hc1 => ?_) (fun hx => absurd hx (by simp at hx))
          clear hc1
          refine hn42 (some ([0, 2, 7, 8, 9, 10, 11], none)) _ ?_
          refine ev_seq_k fun K45 hn45 hr45 he45 => ?_
          refine ev_block_k fun K46 hn46 hx46 hr46 he46 => ?_
          refine ev_seq_k fun K47 hn47 hr47 he47 => ?_
          refine ev_ops_k fun K48 hk48 => ?_
          refine evL_take 4 fun K49 hk49 => ?_
          refine sh1 F3 ?_
          refine sd ?_
          refine hk49 _ ?_
          refine evL_take 1 fun K50 hk50 => ?_
          refine sh1 F3 ?_
          refine sd ?_
          refine hk50 _ ?_
          refine evL_take 3 fun K51 hk51 => ?_
          refine sh1 F3 ?_
          refine sd ?_
          refine hk51 _ ?_
          refine evL_take 1 fun K52 hk52 => ?_
          refine sh1 F3 ?_
          refine sd ?_
          refine hk52 _ ?_
          refine sh1 F3 ?_
          refine hk48 _ ?_
          refine hn47 (some ([0, 2, 7, 8, 9, 10, 11], none)) _ ?_
          refine ev_ops_k fun K53 hk53 => ?_
          refine evL_take 4 fun K54 hk54 => ?_
          refine sh1 F3 ?_
          refine sd ?_
          refine hk54 _ ?_
          refine evL_take 1 fun K55 hk55 => ?_
          refine sh1 F3 ?_
          refine sd ?_
          refine hk55 _ ?_
          refine evL_take 2 fun K56 hk56 => ?_
          refine sh1 F3 ?_
          refine sd ?_
          refine hk56 _ ?_
          refine evL_take 1 fun K57 hk57 => ?_
          refine sh1 F3 ?_
          refine sd ?_
          refine hk57 _ ?_
          refine sh1 F3 ?_
          refine hk53 _ ?_
          refine hn46 _ ?_
          refine hn45 (some ([0, 2, 7, 8, 9, 10, 11], none)) _ ?_
          refine ev_ops_k fun K58 hk58 => ?_
          refine evL_take 2 fun K59 hk59 => ?_
          refine sh1 F3 ?_
          refine sd ?_
          refine hk59 _ ?_
          refine sh1 F3 ?_
          refine hk58 _ ?_
          refine hn26 (l.length - (j + 1)) (some ([0, 2, 7, 8, 9, 10, 11], some ([0, 1, 4, 5], 4))) _ ?_ ?_
          all_goals try refine lp0 ?_
          · omega
          · exact ⟨j + 1, by omega, by omega, by rw [e2, e3]; rfl⟩
    · skip
      have w2 : (i : Int) < 16 := by omega
      have w3 : IntKind.i64.wrap ((i : Int) + 1) = ((i + 1 : Nat) : Int) := by rw [IntKind.wrap_i64]; omega
      have w4 : IntKind.i64.wrap (i : Int) = (i : Int) := by rw [IntKind.wrap_i64]; omega
      have w5 : (words0.take i).length = i := by simp; omega
      have w6 : (i + 1) * 16 ≤ 140737488355328 := by omega
      have F4 := And.intro @w2 (And.intro @w3 (And.intro @w4 (And.intro @w5 @w6)))
      refine ev_seq_k fun K60 hn60 hr60 he60 => ?_
      refine ev_seq_k fun K61 hn61 hr61 he61 => ?_
      refine ev_ops_k fun K62 hk62 => ?_
      refine sh1 F4 ?_
      refine sd ?_
      refine hk62 _ ?_
      refine hn61 (some ([0, 2, 5, 6, 15], none)) _ ?_
      refine ev_cond_k rfl (fun hc0 => ?_) (fun hx => absurd hx (by simp at hx))
      clear hc0
      refine hn60 (some ([0, 2, 5, 6], none)) _ ?_
      refine ev_seq_k fun K63 hn63 hr63 he63 => ?_
      refine ev_block_k fun K64 hn64 hx64 hr64 he64 => ?_
      refine ev_ops_k fun K65 hk65 => ?_
      refine evL_take 4 fun K66 hk66 => ?_
      refine sh1 F4 ?_
      refine sd ?_
      refine hk66 _ ?_
      refine evL_take 1 fun K67 hk67 => ?_
      refine sh1 F4 ?_
      refine sd ?_
      refine hk67 _ ?_
      refine sh1 F4 ?_
      refine hk65 _ ?_
      refine hn64 _ ?_
      refine hn63 (some ([0, 2, 5, 6], none)) _ ?_
      refine ev_ops_k fun K68 hk68 => ?_
      refine evL_take 2 fun K69 hk69 => ?_
      refine sh1 F4 ?_
      refine sd ?_
      refine hk69 _ ?_
      refine sh1 F4 ?_
      refine hk68 _ ?_
      refine hn9 (16 - (i + 1)) (some ([0, 2, 5, 6], some ([0, 2], 2))) _ ?_ ?_
      all_goals try refine lp0 ?_
      · omega
      · exact ⟨i + 1, by omega, by omega, by rw [hwi i hcc]⟩
end Go.Proofs.Ytcbdgnjdpfgobaa

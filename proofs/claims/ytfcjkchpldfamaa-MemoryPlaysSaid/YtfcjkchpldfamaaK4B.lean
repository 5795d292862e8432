/-
  Layer 4 by shadows: a memory agrees with its reference.
-/
import Derived.Test.YtfcjkchpldfamaaK4y
import Derived.Test.YtfcjkchpldfamaaMC
namespace Go.Proofs.Ytfcjkchpldfamaa
set_option linter.unusedSimpArgs false
set_option linter.unusedVariables false
open Go.RowKit Go.Maps

abbrev boxR (R : RefM4) : Ob := .box 68 [.sl 1 0 (R.views.map eRV), .sl 1 0 (R.msgs.map eRP)]
def SmL0 (M : MemM) (R : RefM4) (m : Nat) (S : St) : Prop := ∃ i : Nat, i ≤ M.views.length ∧ m = M.views.length - i ∧ S = ⟨[(2, .ptr 0 0 0), (3, .ptr 1 0 0), (5, sI M.views.length), (6, sI M.places.length), (7, sI i)], [(0, boxM M), (1, boxR R)], 2⟩
def SmL1 (M : MemM) (R : RefM4) (i : Nat) (m : Nat) (S : St) : Prop := ∃ p : Nat, p ≤ M.places.length ∧ m = M.places.length - p ∧ S = ⟨[(2, .ptr 0 0 0), (3, .ptr 1 0 0), (5, sI M.views.length), (6, sI M.places.length), (7, sI i), (8, sI p)], [(0, boxM M), (1, boxR R)], 2⟩
def SmL2 (M : MemM) (R : RefM4) (m : Nat) (S : St) : Prop := ∃ p : Nat, p ≤ M.places.length ∧ m = M.places.length - p ∧ S = ⟨[(2, .ptr 0 0 0), (3, .ptr 1 0 0), (5, sI M.views.length), (6, sI M.places.length), (9, sI p)], [(0, boxM M), (1, boxR R)], 2⟩
def SmL3 (M : MemM) (R : RefM4) (p : Nat) (h : List MsgV) (m : Nat) (S : St) : Prop := ∃ i : Nat, i ≤ h.length ∧ m = h.length - i ∧ S = ⟨[(2, .ptr 0 0 0), (3, .ptr 1 0 0), (5, sI M.views.length), (6, sI M.places.length), (9, sI p), (10, .ptr 2 0 0), (14, sI h.length), (15, sI i)], [(0, boxM M), (1, boxR R), (2, .box 53 [.sl 5 0 (h.map eMsg)])], 3⟩
def SmL4 (M : MemM) (R : RefM4) (p : Nat) (h : List MsgV) (i : Nat) (x : MsgV) (m : Nat) (S : St) : Prop := ∃ q : Nat, q ≤ M.places.length ∧ m = M.places.length - q ∧ S = ⟨[(2, .ptr 0 0 0), (3, .ptr 1 0 0), (5, sI M.views.length), (6, sI M.places.length), (9, sI p), (10, .ptr 2 0 0), (14, sI h.length), (15, sI i), (16, .ptr 3 0 0), (18, sI q)], [(0, boxM M), (1, boxR R), (2, .box 53 [.sl 5 0 (h.map eMsg)]), (3, .box 58 (eMsg x))], 4⟩
theorem in_loc (p : Nat) (h : p ≤ 1000000) : InLoc (p : Int) := ⟨by omega, by omega⟩
set_option maxHeartbeats 8000000 in
theorem ok_l4same (M : MemM) {n : Nat} (hM : MemOk M n) (hn : n ≤ 10000) : Ok 27 [eMem M, eRef4 (refOf M)] (sB true) := by
  refine ok_of_tr Try.func27 tr_l4same rfl ?_
  have hpl := hM.pl
  have hvl := hM.vl
  obtain ⟨el1, el2⟩ := ref_len M
  have hV : ∀ i : Nat, i < M.views.length → (refOf M).views[i]? = some (toL M.places.length (seenM M ((i + 1 : Nat) : Int))) := fun i hi => by
    obtain ⟨m, e, _, h⟩ := ref_views (M := M) (t := ((i + 1 : Nat) : Int)) ⟨by omega, by omega⟩
    obtain rfl : m = i := by omega
    exact h
  have hP : ∀ p : Nat, p < M.places.length → (refOf M).msgs[p]? = some ((histM M (p : Int)).map (refMsg M.places.length)) ∧ 0 < (histM M (p : Int)).length ∧ decide (PlcB M (p : Int)) = true := fun p hp => by
    have hb : PlcB M (p : Int) := ⟨by omega, by omega⟩
    obtain ⟨m, e, _, h⟩ := ref_msgs hb
    obtain rfl : m = p := by omega
    exact ⟨h, hist_pos hM hb, decide_eq_true hb⟩
  have k8 := ok_mLast M (-1) hM (by omega)
  have k9 := ok_mHistory M (M.places.length : Int)
  have k10 := ok_mSeen M 0 hvl
  have k12 := ok_mSeen M ((M.views.length + 1 : Nat) : Int) hvl
  rw [show decide (PlcB M (-1)) = false from decide_eq_false (by unfold PlcB; omega)] at k8
  rw [show decide (PlcB M (M.places.length : Int)) = false from decide_eq_false (by unfold PlcB; omega)] at k9
  rw [show seenM M 0 = fun _ => none from rfl] at k10
  rw [show seenM M ((M.views.length + 1 : Nat) : Int) = fun _ => none from by
    unfold seenM
    rw [if_pos (by omega), show (((M.views.length + 1 : Nat) : Int) - 1).toNat = M.views.length by omega, List.getElem?_eq_none (by omega)]; rfl] at k12
  have k11 : Ok 20 [eView fun _ => none, sI 0] (sI 0) := ok_vAt (fun _ => none) 0 (in_loc 0 (by omega))
  generalize lastWM M (-1) = lw at k8
  generalize hist0 : histM M (M.places.length : Int) = hw at k9
  clear hist0
  have qv : IntKind.i64.wrap ((M.views.length : Int) + 1) = ((M.views.length + 1 : Nat) : Int) := by rw [IntKind.wrap_i64]; omega
  generalize refOf M = R at el1 el2 hV hP ⊢
  unfold evFn sc_l4same rv_l4same
  have F1 := And.intro @el1 @el2
  refine ev_seq_k fun K1 hn1 hr1 he1 => ?_
  refine ev_ops_k fun K2 hk2 => ?_
  refine sh1 F1 ?_
  refine hk2 _ ?_
  refine hn1 (some ([2, 3], none)) _ ?_
  refine ev_seq_k fun K3 hn3 hr3 he3 => ?_
  refine ev_ops_k fun K4 hk4 => ?_
  refine evL_take 1 fun K5 hk5 => ?_
  refine sh1 F1 ?_
  refine sd ?_
  refine hk5 _ ?_
  refine evL_take 1 fun K6 hk6 => ?_
  refine sh1 F1 ?_
  refine Or.inl (Or.inl ⟨_, ok_mSize M, ?_⟩)
  refine hk6 _ ?_
  refine sh1 F1 ?_
  refine hk4 _ ?_
  refine hn3 (some ([2, 3, 5, 6], none)) _ ?_
  refine ev_seq_k fun K7 hn7 hr7 he7 => ?_
  refine ev_seq_k fun K8 hn8 hr8 he8 => ?_
  refine ev_ops_k fun K9 hk9 => ?_
  refine evL_take 3 fun K10 hk10 => ?_
  refine sh1 F1 ?_
  refine sd ?_
  refine hk10 _ ?_
  refine evL_take 2 fun K11 hk11 => ?_
  refine sh1 F1 ?_
  refine sd ?_
  refine hk11 _ ?_
  refine evL_take 4 fun K12 hk12 => ?_
  refine sh1 F1 ?_
  refine sd ?_
  refine hk12 _ ?_
  refine evL_take 2 fun K13 hk13 => ?_
  refine sh1 F1 ?_
  refine sd ?_
  refine hk13 _ ?_
  refine sh1 F1 ?_
  refine hk9 _ ?_
  refine hn8 (some ([2, 3, 5, 6, 39], none)) _ ?_
  refine ev_cond_k rfl (fun hx => absurd hx (by simp at hx)) (fun hc0 => ?_)
  clear hc0
  refine hn7 (some ([2, 3, 5, 6], none)) _ ?_
  refine ev_seq_k fun K14 hn14 hr14 he14 => ?_
  refine ev_seq_k fun K15 hn15 hr15 he15 => ?_
  refine ev_ops_k fun K16 hk16 => ?_
  refine sh1 F1 ?_
  refine hk16 _ ?_
  refine hn15 (some ([2, 3, 5, 6, 7], none)) _ ?_
  refine ev_block_k fun K17 hn17 hx17 hr17 he17 => ?_
  refine ev_loop_k (SmL0 M R) (M.views.length) (some ([2, 3, 5, 6, 7], some ([0, 1], 2))) ([]) ?_ ?_
  · try refine lp0 ?_
    exact ⟨0, by omega, by omega, by rfl⟩
  · intro k S1 hI
    obtain ⟨i, hi, rfl, rfl⟩ := hI
    have hcase : i = M.views.length ∨ i < M.views.length := by omega
    intro K18 hn18 hr18 he18
    rcases hcase with hcc | hcc
    · skip
      have w2 : ¬ (i : Int) < (M.views.length : Int) := by omega
      have F2 := And.intro F1 @w2
      refine ev_seq_k fun K19 hn19 hr19 he19 => ?_
      refine ev_seq_k fun K20 hn20 hr20 he20 => ?_
      refine ev_ops_k fun K21 hk21 => ?_
      refine sh1 F2 ?_
      refine sd ?_
      refine hk21 _ ?_
      refine hn20 (some ([2, 3, 5, 6, 7, 42], none)) _ ?_
      refine ev_cond_k rfl (fun hx => absurd hx (by simp at hx)) (fun hc1 => ?_)
      clear hc1
      refine he19 0 _ ?_
      refine he18 0 _ ?_
      refine hx17 _ ?_
      refine hn14 (some ([2, 3, 5, 6], none)) _ ?_
      refine ev_seq_k fun K22 hn22 hr22 he22 => ?_
      refine ev_seq_k fun K23 hn23 hr23 he23 => ?_
      refine ev_ops_k fun K24 hk24 => ?_
      refine sh1 F2 ?_
      refine hk24 _ ?_
      refine hn23 (some ([2, 3, 5, 6, 9], none)) _ ?_
      refine ev_block_k fun K25 hn25 hx25 hr25 he25 => ?_
      refine ev_loop_k (SmL2 M R) (M.places.length) (some ([2, 3, 5, 6, 9], some ([0, 1], 2))) ([]) ?_ ?_
      · try refine lp0 ?_
        exact ⟨0, by omega, by omega, by rfl⟩
      · intro k S1 hI
        obtain ⟨p, hp, rfl, rfl⟩ := hI
        have hcase : p = M.places.length ∨ p < M.places.length := by omega
        intro K26 hn26 hr26 he26
        rcases hcase with hcd | hcd
        · skip
          have w4 : ¬ (p : Int) < (M.places.length : Int) := by omega
          have F3 := And.intro F2 @w4
          refine ev_seq_k fun K27 hn27 hr27 he27 => ?_
          refine ev_seq_k fun K28 hn28 hr28 he28 => ?_
          refine ev_ops_k fun K29 hk29 => ?_
          refine sh1 F3 ?_
          refine sd ?_
          refine hk29 _ ?_
          refine hn28 (some ([2, 3, 5, 6, 9, 67], none)) _ ?_
          refine ev_cond_k rfl (fun hx => absurd hx (by simp at hx)) (fun hc4 => ?_)
          clear hc4
          have F4 := And.intro F3 @qv
          refine he27 4 _ ?_
          refine he26 4 _ ?_
          refine hx25 _ ?_
          refine hn22 (some ([2, 5, 6], none)) _ ?_
          refine ev_seq_k fun K30 hn30 hr30 he30 => ?_
          refine ev_ops_k fun K31 hk31 => ?_
          refine evL_take 1 fun K32 hk32 => ?_
          refine sh1 F4 ?_
          refine sd ?_
          refine hk32 _ ?_
          refine evL_take 1 fun K33 hk33 => ?_
          refine sh1 F4 ?_
          refine Or.inl (Or.inl ⟨_, k8, ?_⟩)
          refine hk33 _ ?_
          refine evL_take 5 fun K34 hk34 => ?_
          refine sh1 F4 ?_
          refine sd ?_
          refine hk34 _ ?_
          refine sh1 F4 ?_
          refine hk31 _ ?_
          refine hn30 (some ([2, 5, 6, 20], none)) _ ?_
          refine ev_seq_k fun K35 hn35 hr35 he35 => ?_
          refine ev_ops_k fun K36 hk36 => ?_
          refine evL_take 1 fun K37 hk37 => ?_
          refine sh1 F4 ?_
          refine sd ?_
          refine hk37 _ ?_
          refine evL_take 1 fun K38 hk38 => ?_
          refine sh1 F4 ?_
          refine hk38 _ ?_
          refine evL_take 1 fun K39 hk39 => ?_
          refine sh1 F4 ?_
          refine Or.inl (Or.inl ⟨_, k9, ?_⟩)
          refine hk39 _ ?_
          refine evL_take 5 fun K40 hk40 => ?_
          refine sh1 F4 ?_
          refine sd ?_
          refine hk40 _ ?_
          refine sh1 F4 ?_
          refine hk36 _ ?_
          refine hn35 (some ([2, 5, 20, 22], none)) _ ?_
          refine ev_seq_k fun K41 hn41 hr41 he41 => ?_
          refine ev_ops_k fun K42 hk42 => ?_
          refine evL_take 8 fun K43 hk43 => ?_
          refine sh1 F4 ?_
          refine sd ?_
          refine hk43 _ ?_
          refine evL_take 1 fun K44 hk44 => ?_
          refine sh1 F4 ?_
          refine Or.inl (Or.inl ⟨_, k10, ?_⟩)
          refine hk44 _ ?_
          refine evL_take 1 fun K45 hk45 => ?_
          refine sh1 F4 ?_
          refine Or.inl (Or.inl ⟨_, k11, ?_⟩)
          refine hk45 _ ?_
          refine evL_take 1 fun K46 hk46 => ?_
          refine sh1 F4 ?_
          refine sd ?_
          refine hk46 _ ?_
          refine evL_take 3 fun K47 hk47 => ?_
          refine sh1 F4 ?_
          refine sd ?_
          refine hk47 _ ?_
          refine evL_take 2 fun K48 hk48 => ?_
          refine sh1 F4 ?_
          refine sd ?_
          refine hk48 _ ?_
          refine evL_take 1 fun K49 hk49 => ?_
          refine sh1 F4 ?_
          refine Or.inl (Or.inl ⟨_, k12, ?_⟩)
          refine hk49 _ ?_
          refine evL_take 1 fun K50 hk50 => ?_
          refine sh1 F4 ?_
          refine Or.inl (Or.inl ⟨_, k11, ?_⟩)
          refine hk50 _ ?_
          refine evL_take 1 fun K51 hk51 => ?_
          refine sh1 F4 ?_
          refine sd ?_
          refine hk51 _ ?_
          refine sh1 F4 ?_
          refine hk42 _ ?_
          refine hn41 (some ([4], none)) _ ?_
          exact sf1 F4
        · skip
          skip
          have w4 : (p : Int) < (M.places.length : Int) := by omega
          have w5 : IntKind.i64.wrap ((p : Int) + 1) = ((p + 1 : Nat) : Int) := by rw [IntKind.wrap_i64]; omega
          obtain ⟨e1, e2, e3⟩ := hP p hcd
          have hhl := hist_len hM (p : Int)
          have k3 := ok_mHistory M (p : Int)
          have k4 := ok_mLast M (p : Int) hM (by omega)
          have k5 := ok_hLen (histM M (p : Int))
          unfold lastWM lastM at k4
          rw [e3] at k3 k4
          have e6 : ∀ i : Nat, i < (histM M (p : Int)).length → ((histM M (p : Int)).map (refMsg M.places.length))[i]? = some (refMsg M.places.length (atM (histM M (p : Int)) i)) := fun i hi => hist_at hM hi
          obtain ⟨z, hz⟩ := Int.eq_ofNat_of_zero_le (show 0 ≤ ((histM M (p : Int)).length : Int) - 1 by omega)
          have e7 : IntKind.i64.wrap (((histM M (p : Int)).length : Int) - 1) = (z : Int) := by rw [IntKind.wrap_i64]; omega
          rw [hz] at k4
          have e8 := e6 z (by omega)
          have e9 : (refMsg M.places.length (atM (histM M (p : Int)) z)).word = (atM (histM M (p : Int)) z).word := rfl
          have e10 : ((histM M (p : Int)).map (refMsg M.places.length)).length = (histM M (p : Int)).length := by simp
          generalize (histM M (p : Int)).map (refMsg M.places.length) = hr at e1 e6 e8 e10
          generalize histM M (p : Int) = hh at e1 e2 e6 e7 e8 e9 e10 k3 k4 k5 hhl hz
          have e11 : (z : Int) < (hh.length : Int) := by omega
          generalize refMsg M.places.length (atM hh z) = rz at e8 e9
          generalize atM hh z = az at k4 e9
          have F5 := And.intro F2 (And.intro @w4 (And.intro @w5 (And.intro @e1 (And.intro @e7 (And.intro @e8 (And.intro @e9 (And.intro @e10 @e11)))))))
          refine ev_seq_k fun K52 hn52 hr52 he52 => ?_
          refine ev_seq_k fun K53 hn53 hr53 he53 => ?_
          refine ev_ops_k fun K54 hk54 => ?_
          refine sh1 F5 ?_
          refine sd ?_
          refine hk54 _ ?_
          refine hn53 (some ([2, 3, 5, 6, 9, 67], none)) _ ?_
          refine ev_cond_k rfl (fun hc4 => ?_) (fun hx => absurd hx (by simp at hx))
          clear hc4
          refine hn52 (some ([2, 3, 5, 6, 9], none)) _ ?_
          refine ev_seq_k fun K55 hn55 hr55 he55 => ?_
          refine ev_block_k fun K56 hn56 hx56 hr56 he56 => ?_
          refine ev_seq_k fun K57 hn57 hr57 he57 => ?_
          refine ev_ops_k fun K58 hk58 => ?_
          refine evL_take 1 fun K59 hk59 => ?_
          refine sh1 F5 ?_
          refine sd ?_
          refine hk59 _ ?_
          refine evL_take 1 fun K60 hk60 => ?_
          refine sh1 F5 ?_
          refine hk60 _ ?_
          refine evL_take 1 fun K61 hk61 => ?_
          refine sh1 F5 ?_
          refine Or.inl (Or.inl ⟨_, k3, ?_⟩)
          refine hk61 _ ?_
          refine evL_take 5 fun K62 hk62 => ?_
          refine sh1 F5 ?_
          refine sd ?_
          refine hk62 _ ?_
          refine sh1 F5 ?_
          refine hk58 _ ?_
          refine hn57 (some ([2, 3, 5, 6, 9, 10, 11], none)) _ ?_
          refine ev_seq_k fun K63 hn63 hr63 he63 => ?_
          refine ev_ops_k fun K64 hk64 => ?_
          refine evL_take 1 fun K65 hk65 => ?_
          refine sh1 F5 ?_
          refine sd ?_
          refine hk65 _ ?_
          refine evL_take 1 fun K66 hk66 => ?_
          refine sh1 F5 ?_
          refine hk66 _ ?_
          refine evL_take 1 fun K67 hk67 => ?_
          refine sh1 F5 ?_
          refine Or.inl (Or.inl ⟨_, k4, ?_⟩)
          refine hk67 _ ?_
          refine evL_take 5 fun K68 hk68 => ?_
          refine sh1 F5 ?_
          refine sd ?_
          refine hk68 _ ?_
          refine sh1 F5 ?_
          refine hk64 _ ?_
          refine hn63 (some ([2, 3, 5, 6, 9, 10, 11, 12, 13], none)) _ ?_
          refine ev_seq_k fun K69 hn69 hr69 he69 => ?_
          refine ev_ops_k fun K70 hk70 => ?_
          refine evL_take 2 fun K71 hk71 => ?_
          refine sh1 F5 ?_
          refine sd ?_
          refine hk71 _ ?_
          refine evL_take 2 fun K72 hk72 => ?_
          refine sh1 F5 ?_
          refine sd ?_
          refine hk72 _ ?_
          refine evL_take 1 fun K73 hk73 => ?_
          refine sh1 F5 ?_
          refine sd ?_
          refine hk73 _ ?_
          refine sh1 F5 ?_
          refine hk70 _ ?_
          refine hn69 (some ([2, 3, 5, 6, 9, 10, 11, 12, 13, 14], none)) _ ?_
          refine ev_seq_k fun K74 hn74 hr74 he74 => ?_
          refine ev_seq_k fun K75 hn75 hr75 he75 => ?_
          refine ev_drw_k [] (n := 24) fun K76 hk76 => ?_
          refine sq0 ?_
          refine evF_take 8 fun K78 hk78 => ?_
          refine sh1 F5 ?_
          refine sd ?_
          refine hk78 _ _ _ ?_
          refine evF_take 1 fun K79 hk79 => ?_
          refine sh1 F5 ?_
          refine ⟨_, k5, ?_⟩
          refine hk79 _ _ _ ?_
          refine evF_take 2 fun K80 hk80 => ?_
          refine sh1 F5 ?_
          refine sd ?_
          refine hk80 _ _ _ ?_
          refine evF_take 3 fun K81 hk81 => ?_
          refine sh1 F5 ?_
          refine sd ?_
          refine hk81 _ _ _ ?_
          refine evF_take 2 fun K82 hk82 => ?_
          refine sh1 F5 ?_
          refine sd ?_
          refine hk82 _ _ _ ?_
          refine evF_take 2 fun K83 hk83 => ?_
          refine sh1 F5 ?_
          refine sd ?_
          refine hk83 _ _ _ ?_
          refine evF_take 1 fun K84 hk84 => ?_
          refine sh1 F5 ?_
          refine sd ?_
          refine hk84 _ _ _ ?_
          refine evF_take 2 fun K85 hk85 => ?_
          refine sh1 F5 ?_
          refine sd ?_
          refine hk85 _ _ _ ?_
          refine evF_take 1 fun K86 hk86 => ?_
          refine sh1 F5 ?_
          refine sd ?_
          refine hk86 _ _ _ ?_
          refine sh1 F5 ?_
          refine sd ?_
          refine hk76 _ ?_
          refine sr0 ?_
          refine evL_take 1 fun K87 hk87 => ?_
          refine sh1 F5 ?_
          refine Or.inl ⟨_, eqsh_word_refl _, ?_⟩
          refine hk87 _ ?_
          refine sh1 F5 ?_
          refine hn75 (some ([2, 3, 5, 6, 9, 10, 14, 113], none)) _ ?_
          refine ev_cond_k rfl (fun hx => absurd hx (by simp at hx)) (fun hc5 => ?_)
          clear hc5
          refine hn74 (some ([2, 3, 5, 6, 9, 10, 14], none)) _ ?_
          refine ev_seq_k fun K88 hn88 hr88 he88 => ?_
          refine ev_ops_k fun K89 hk89 => ?_
          refine sh1 F5 ?_
          refine hk89 _ ?_
          refine hn88 (some ([2, 3, 5, 6, 9, 10, 14, 15], none)) _ ?_
          refine ev_block_k fun K90 hn90 hx90 hr90 he90 => ?_
          refine ev_loop_k (SmL3 M R p hh) (hh.length) (some ([2, 3, 5, 6, 9, 10, 14, 15], some ([0, 1, 2], 3))) ([]) ?_ ?_
          · try refine lp0 ?_
            exact ⟨0, by omega, by omega, by rfl⟩
          · intro k S1 hI
            obtain ⟨i, hi, rfl, rfl⟩ := hI
            have hcase : i = hh.length ∨ i < hh.length := by omega
            intro K91 hn91 hr91 he91
            rcases hcase with hcc | hcc
            · skip
              have w2 : ¬ (i : Int) < (hh.length : Int) := by omega
              have F6 := And.intro F5 @w2
              refine ev_seq_k fun K92 hn92 hr92 he92 => ?_
              refine ev_seq_k fun K93 hn93 hr93 he93 => ?_
              refine ev_ops_k fun K94 hk94 => ?_
              refine sh1 F6 ?_
              refine sd ?_
              refine hk94 _ ?_
              refine hn93 (some ([2, 3, 5, 6, 9, 10, 14, 15, 116], none)) _ ?_
              refine ev_cond_k rfl (fun hx => absurd hx (by simp at hx)) (fun hc6 => ?_)
              clear hc6
              refine he92 6 _ ?_
              refine he91 6 _ ?_
              refine hx90 _ ?_
              refine hn56 _ ?_
              refine hn55 (some ([2, 3, 5, 6, 9], none)) _ ?_
              refine ev_ops_k fun K95 hk95 => ?_
              refine evL_take 2 fun K96 hk96 => ?_
              refine sh1 F6 ?_
              refine sd ?_
              refine hk96 _ ?_
              refine sh1 F6 ?_
              refine hk95 _ ?_
              refine hn26 (M.places.length - (p + 1)) (some ([2, 3, 5, 6, 9], some ([0, 1], 2))) _ ?_ ?_
              all_goals try refine lp0 ?_
              · omega
              · exact ⟨p + 1, by omega, by omega, rfl⟩
            · skip
              skip
              have w2 : (i : Int) < (hh.length : Int) := by omega
              have w3 : IntKind.i64.wrap ((i : Int) + 1) = ((i + 1 : Nat) : Int) := by rw [IntKind.wrap_i64]; omega
              have f1 := e6 i hcc
              have k6 := ok_hAt hh (i : Int)
              rw [show decide (0 ≤ (i : Int) ∧ (i : Int) < (hh.length : Int)) = true from decide_eq_true ⟨by omega, by omega⟩] at k6
              generalize atM hh (i : Int) = ax at f1 k6
              have f2 : (refMsg M.places.length ax).word = ax.word := rfl
              have f3 : (refMsg M.places.length ax).view = toL M.places.length ax.view := rfl
              generalize refMsg M.places.length ax = rx at f1 f2 f3
              have F7 := And.intro F5 (And.intro @w2 (And.intro @w3 (And.intro @f1 (And.intro @f2 @f3))))
              refine ev_seq_k fun K97 hn97 hr97 he97 => ?_
              refine ev_seq_k fun K98 hn98 hr98 he98 => ?_
              refine ev_ops_k fun K99 hk99 => ?_
              refine sh1 F7 ?_
              refine sd ?_
              refine hk99 _ ?_
              refine hn98 (some ([2, 3, 5, 6, 9, 10, 14, 15, 116], none)) _ ?_
              refine ev_cond_k rfl (fun hc6 => ?_) (fun hx => absurd hx (by simp at hx))
              clear hc6
              refine hn97 (some ([2, 3, 5, 6, 9, 10, 14, 15], none)) _ ?_
              refine ev_seq_k fun K100 hn100 hr100 he100 => ?_
              refine ev_block_k fun K101 hn101 hx101 hr101 he101 => ?_
              refine ev_seq_k fun K102 hn102 hr102 he102 => ?_
              refine ev_ops_k fun K103 hk103 => ?_
              refine evL_take 1 fun K104 hk104 => ?_
              refine sh1 F7 ?_
              refine sd ?_
              refine hk104 _ ?_
              refine evL_take 1 fun K105 hk105 => ?_
              refine sh1 F7 ?_
              refine hk105 _ ?_
              refine evL_take 1 fun K106 hk106 => ?_
              refine sh1 F7 ?_
              refine Or.inl (Or.inl ⟨_, k6, ?_⟩)
              refine hk106 _ ?_
              refine evL_take 5 fun K107 hk107 => ?_
              refine sh1 F7 ?_
              refine sd ?_
              refine hk107 _ ?_
              refine sh1 F7 ?_
              refine hk103 _ ?_
              refine hn102 (some ([2, 3, 5, 6, 9, 10, 14, 15, 16, 17], none)) _ ?_
              refine ev_seq_k fun K108 hn108 hr108 he108 => ?_
              refine ev_seq_k fun K109 hn109 hr109 he109 => ?_
              refine ev_drw_k [] (n := 14) fun K110 hk110 => ?_
              refine sq0 ?_
              refine evF_take 5 fun K112 hk112 => ?_
              refine sh1 F7 ?_
              refine sd ?_
              refine hk112 _ _ _ ?_
              refine evF_take 2 fun K113 hk113 => ?_
              refine sh1 F7 ?_
              refine sd ?_
              refine hk113 _ _ _ ?_
              refine evF_take 2 fun K114 hk114 => ?_
              refine sh1 F7 ?_
              refine sd ?_
              refine hk114 _ _ _ ?_
              refine evF_take 1 fun K115 hk115 => ?_
              refine sh1 F7 ?_
              refine sd ?_
              refine hk115 _ _ _ ?_
              refine evF_take 2 fun K116 hk116 => ?_
              refine sh1 F7 ?_
              refine sd ?_
              refine hk116 _ _ _ ?_
              refine sh1 F7 ?_
              refine sd ?_
              refine hk110 _ ?_
              refine sr0 ?_
              refine evL_take 1 fun K117 hk117 => ?_
              refine sh1 F7 ?_
              refine Or.inl ⟨_, eqsh_word_refl _, ?_⟩
              refine hk117 _ ?_
              refine sh1 F7 ?_
              refine hn109 (some ([2, 3, 5, 6, 9, 10, 14, 15, 16, 140], none)) _ ?_
              refine ev_cond_k rfl (fun hx => absurd hx (by simp at hx)) (fun hc7 => ?_)
              clear hc7
              refine hn108 (some ([2, 3, 5, 6, 9, 10, 14, 15, 16], none)) _ ?_
              refine ev_seq_k fun K118 hn118 hr118 he118 => ?_
              refine ev_ops_k fun K119 hk119 => ?_
              refine sh1 F7 ?_
              refine hk119 _ ?_
              refine hn118 (some ([2, 3, 5, 6, 9, 10, 14, 15, 16, 18], none)) _ ?_
              refine ev_block_k fun K120 hn120 hx120 hr120 he120 => ?_
              refine ev_loop_k (SmL4 M R p hh i ax) (M.places.length) (some ([2, 3, 5, 6, 9, 10, 14, 15, 16, 18], some ([0, 1, 2, 3], 4))) ([]) ?_ ?_
              · try refine lp0 ?_
                exact ⟨0, by omega, by omega, by rfl⟩
              · intro k S1 hI
                obtain ⟨q, hq, rfl, rfl⟩ := hI
                have hcase : q = M.places.length ∨ q < M.places.length := by omega
                intro K121 hn121 hr121 he121
                rcases hcase with hce | hce
                · skip
                  have v4 : ¬ (q : Int) < (M.places.length : Int) := by omega
                  have F8 := And.intro F7 @v4
                  refine ev_seq_k fun K122 hn122 hr122 he122 => ?_
                  refine ev_seq_k fun K123 hn123 hr123 he123 => ?_
                  refine ev_ops_k fun K124 hk124 => ?_
                  refine sh1 F8 ?_
                  refine sd ?_
                  refine hk124 _ ?_
                  refine hn123 (some ([2, 3, 5, 6, 9, 10, 14, 15, 16, 18, 143], none)) _ ?_
                  refine ev_cond_k rfl (fun hx => absurd hx (by simp at hx)) (fun hc8 => ?_)
                  clear hc8
                  refine he122 8 _ ?_
                  refine he121 8 _ ?_
                  refine hx120 _ ?_
                  refine hn101 _ ?_
                  refine hn100 (some ([2, 3, 5, 6, 9, 10, 14, 15], none)) _ ?_
                  refine ev_ops_k fun K125 hk125 => ?_
                  refine evL_take 2 fun K126 hk126 => ?_
                  refine sh1 F8 ?_
                  refine sd ?_
                  refine hk126 _ ?_
                  refine sh1 F8 ?_
                  refine hk125 _ ?_
                  refine hn91 (hh.length - (i + 1)) (some ([2, 3, 5, 6, 9, 10, 14, 15], some ([0, 1, 2], 3))) _ ?_ ?_
                  all_goals try refine lp0 ?_
                  · omega
                  · exact ⟨i + 1, by omega, by omega, rfl⟩
                · skip
                  skip
                  have v4 : (q : Int) < (M.places.length : Int) := by omega
                  have v5 : IntKind.i64.wrap ((q : Int) + 1) = ((q + 1 : Nat) : Int) := by rw [IntKind.wrap_i64]; omega
                  have v6 := toL_get M.places.length ax.view hce
                  have v7 := toL_len M.places.length ax.view
                  have F9 := And.intro F7 (And.intro @v4 (And.intro @v5 (And.intro @v6 @v7)))
                  refine ev_seq_k fun K127 hn127 hr127 he127 => ?_
                  refine ev_seq_k fun K128 hn128 hr128 he128 => ?_
                  refine ev_ops_k fun K129 hk129 => ?_
                  refine sh1 F9 ?_
                  refine sd ?_
                  refine hk129 _ ?_
                  refine hn128 (some ([2, 3, 5, 6, 9, 10, 14, 15, 16, 18, 143], none)) _ ?_
                  refine ev_cond_k rfl (fun hc8 => ?_) (fun hx => absurd hx (by simp at hx))
                  clear hc8
                  refine hn127 (some ([2, 3, 5, 6, 9, 10, 14, 15, 16, 18], none)) _ ?_
                  refine ev_seq_k fun K130 hn130 hr130 he130 => ?_
                  refine ev_block_k fun K131 hn131 hx131 hr131 he131 => ?_
                  refine ev_seq_k fun K132 hn132 hr132 he132 => ?_
                  refine ev_drw_k [] (n := 16) fun K133 hk133 => ?_
                  refine sq0 ?_
                  refine evF_take 2 fun K135 hk135 => ?_
                  refine sh1 F9 ?_
                  refine sd ?_
                  refine hk135 _ _ _ ?_
                  refine evF_take 1 fun K136 hk136 => ?_
                  refine sh1 F9 ?_
                  refine hk136 _ _ _ ?_
                  refine evF_take 1 fun K137 hk137 => ?_
                  refine sh1 F9 ?_
                  refine ⟨_, ok_vAt ax.view q (in_loc q (by omega)), ?_⟩
                  refine hk137 _ _ _ ?_
                  refine evF_take 2 fun K138 hk138 => ?_
                  refine sh1 F9 ?_
                  refine sd ?_
                  refine hk138 _ _ _ ?_
                  refine evF_take 2 fun K139 hk139 => ?_
                  refine sh1 F9 ?_
                  refine sd ?_
                  refine hk139 _ _ _ ?_
                  refine evF_take 1 fun K140 hk140 => ?_
                  refine sh1 F9 ?_
                  refine sd ?_
                  refine hk140 _ _ _ ?_
                  refine evF_take 2 fun K141 hk141 => ?_
                  refine sh1 F9 ?_
                  refine sd ?_
                  refine hk141 _ _ _ ?_
                  refine evF_take 2 fun K142 hk142 => ?_
                  refine sh1 F9 ?_
                  refine sd ?_
                  refine hk142 _ _ _ ?_
                  refine evF_take 2 fun K143 hk143 => ?_
                  refine sh1 F9 ?_
                  refine sd ?_
                  refine hk143 _ _ _ ?_
                  refine sh1 F9 ?_
                  refine sd ?_
                  refine hk133 _ ?_
                  refine sr0 ?_
                  refine sh1 F9 ?_
                  refine sd ?_
                  refine hn132 (some ([2, 3, 5, 6, 9, 10, 14, 15, 16, 18, 162], none)) _ ?_
                  refine ev_cond_k rfl (fun hx => absurd hx (by simp at hx)) (fun hc9 => ?_)
                  clear hc9
                  refine hn131 _ ?_
                  refine hn130 (some ([2, 3, 5, 6, 9, 10, 14, 15, 16, 18], none)) _ ?_
                  refine ev_ops_k fun K144 hk144 => ?_
                  refine evL_take 2 fun K145 hk145 => ?_
                  refine sh1 F9 ?_
                  refine sd ?_
                  refine hk145 _ ?_
                  refine sh1 F9 ?_
                  refine hk144 _ ?_
                  refine hn121 (M.places.length - (q + 1)) (some ([2, 3, 5, 6, 9, 10, 14, 15, 16, 18], some ([0, 1, 2, 3], 4))) _ ?_ ?_
                  all_goals try refine lp0 ?_
                  · omega
                  · exact ⟨q + 1, by omega, by omega, rfl⟩
    · skip
      skip
      have w2 : (i : Int) < (M.views.length : Int) := by omega
      have w3 : IntKind.i64.wrap ((i : Int) + 1) = ((i + 1 : Nat) : Int) := by rw [IntKind.wrap_i64]; omega
      have e1 := hV i hcc
      have k1 := ok_mSeen M ((i + 1 : Nat) : Int) hvl
      generalize seenM M ((i + 1 : Nat) : Int) = sv at e1 k1
      have F10 := And.intro F1 (And.intro @w2 (And.intro @w3 @e1))
      refine ev_seq_k fun K146 hn146 hr146 he146 => ?_
      refine ev_seq_k fun K147 hn147 hr147 he147 => ?_
      refine ev_ops_k fun K148 hk148 => ?_
      refine sh1 F10 ?_
      refine sd ?_
      refine hk148 _ ?_
      refine hn147 (some ([2, 3, 5, 6, 7, 42], none)) _ ?_
      refine ev_cond_k rfl (fun hc1 => ?_) (fun hx => absurd hx (by simp at hx))
      clear hc1
      refine hn146 (some ([2, 3, 5, 6, 7], none)) _ ?_
      refine ev_seq_k fun K149 hn149 hr149 he149 => ?_
      refine ev_block_k fun K150 hn150 hx150 hr150 he150 => ?_
      refine ev_seq_k fun K151 hn151 hr151 he151 => ?_
      refine ev_ops_k fun K152 hk152 => ?_
      refine sh1 F10 ?_
      refine hk152 _ ?_
      refine hn151 (some ([2, 3, 5, 6, 7, 8], none)) _ ?_
      refine ev_block_k fun K153 hn153 hx153 hr153 he153 => ?_
      refine ev_loop_k (SmL1 M R i) (M.places.length) (some ([2, 3, 5, 6, 7, 8], some ([0, 1], 2))) ([]) ?_ ?_
      · try refine lp0 ?_
        exact ⟨0, by omega, by omega, by rfl⟩
      · intro k S1 hI
        obtain ⟨p, hp, rfl, rfl⟩ := hI
        have hcase : p = M.places.length ∨ p < M.places.length := by omega
        intro K154 hn154 hr154 he154
        rcases hcase with hcd | hcd
        · skip
          have w4 : ¬ (p : Int) < (M.places.length : Int) := by omega
          have F11 := And.intro F10 @w4
          refine ev_seq_k fun K155 hn155 hr155 he155 => ?_
          refine ev_seq_k fun K156 hn156 hr156 he156 => ?_
          refine ev_ops_k fun K157 hk157 => ?_
          refine sh1 F11 ?_
          refine sd ?_
          refine hk157 _ ?_
          refine hn156 (some ([2, 3, 5, 6, 7, 8, 47], none)) _ ?_
          refine ev_cond_k rfl (fun hx => absurd hx (by simp at hx)) (fun hc2 => ?_)
          clear hc2
          refine he155 2 _ ?_
          refine he154 2 _ ?_
          refine hx153 _ ?_
          refine hn150 _ ?_
          refine hn149 (some ([2, 3, 5, 6, 7], none)) _ ?_
          refine ev_ops_k fun K158 hk158 => ?_
          refine evL_take 2 fun K159 hk159 => ?_
          refine sh1 F11 ?_
          refine sd ?_
          refine hk159 _ ?_
          refine sh1 F11 ?_
          refine hk158 _ ?_
          refine hn18 (M.views.length - (i + 1)) (some ([2, 3, 5, 6, 7], some ([0, 1], 2))) _ ?_ ?_
          all_goals try refine lp0 ?_
          · omega
          · exact ⟨i + 1, by omega, by omega, rfl⟩
        · skip
          skip
          have w4 : (p : Int) < (M.places.length : Int) := by omega
          have w5 : IntKind.i64.wrap ((p : Int) + 1) = ((p + 1 : Nat) : Int) := by rw [IntKind.wrap_i64]; omega
          have e2 := toL_get M.places.length sv hcd
          have e3 := toL_len M.places.length sv
          have F12 := And.intro F10 (And.intro @w4 (And.intro @w5 (And.intro @e2 @e3)))
          refine ev_seq_k fun K160 hn160 hr160 he160 => ?_
          refine ev_seq_k fun K161 hn161 hr161 he161 => ?_
          refine ev_ops_k fun K162 hk162 => ?_
          refine sh1 F12 ?_
          refine sd ?_
          refine hk162 _ ?_
          refine hn161 (some ([2, 3, 5, 6, 7, 8, 47], none)) _ ?_
          refine ev_cond_k rfl (fun hc2 => ?_) (fun hx => absurd hx (by simp at hx))
          clear hc2
          refine hn160 (some ([2, 3, 5, 6, 7, 8], none)) _ ?_
          refine ev_seq_k fun K163 hn163 hr163 he163 => ?_
          refine ev_block_k fun K164 hn164 hx164 hr164 he164 => ?_
          refine ev_seq_k fun K165 hn165 hr165 he165 => ?_
          refine ev_drw_k [] (n := 14) fun K166 hk166 => ?_
          refine sq0 ?_
          refine evF_take 1 fun K168 hk168 => ?_
          refine sh1 F12 ?_
          refine sd ?_
          refine hk168 _ _ _ ?_
          refine evF_take 2 fun K169 hk169 => ?_
          refine sh1 F12 ?_
          refine sd ?_
          refine hk169 _ _ _ ?_
          refine evF_take 1 fun K170 hk170 => ?_
          refine sh1 F12 ?_
          refine ⟨_, k1, ?_⟩
          refine hk170 _ _ _ ?_
          refine evF_take 1 fun K171 hk171 => ?_
          refine sh1 F12 ?_
          refine hk171 _ _ _ ?_
          refine evF_take 1 fun K172 hk172 => ?_
          refine sh1 F12 ?_
          refine ⟨_, ok_vAt sv p (in_loc p (by omega)), ?_⟩
          refine hk172 _ _ _ ?_
          refine evF_take 2 fun K173 hk173 => ?_
          refine sh1 F12 ?_
          refine sd ?_
          refine hk173 _ _ _ ?_
          refine evF_take 2 fun K174 hk174 => ?_
          refine sh1 F12 ?_
          refine sd ?_
          refine hk174 _ _ _ ?_
          refine evF_take 1 fun K175 hk175 => ?_
          refine sh1 F12 ?_
          refine sd ?_
          refine hk175 _ _ _ ?_
          refine evF_take 2 fun K176 hk176 => ?_
          refine sh1 F12 ?_
          refine sd ?_
          refine hk176 _ _ _ ?_
          refine sh1 F12 ?_
          refine sd ?_
          refine hk166 _ ?_
          refine sr0 ?_
          refine sh1 F12 ?_
          refine sd ?_
          refine hn165 (some ([2, 3, 5, 6, 7, 8, 64], none)) _ ?_
          refine ev_cond_k rfl (fun hx => absurd hx (by simp at hx)) (fun hc3 => ?_)
          clear hc3
          refine hn164 _ ?_
          refine hn163 (some ([2, 3, 5, 6, 7, 8], none)) _ ?_
          refine ev_ops_k fun K177 hk177 => ?_
          refine evL_take 2 fun K178 hk178 => ?_
          refine sh1 F12 ?_
          refine sd ?_
          refine hk178 _ ?_
          refine sh1 F12 ?_
          refine hk177 _ ?_
          refine hn154 (M.places.length - (p + 1)) (some ([2, 3, 5, 6, 7, 8], some ([0, 1], 2))) _ ?_ ?_
          all_goals try refine lp0 ?_
          · omega
          · exact ⟨p + 1, by omega, by omega, rfl⟩
end Go.Proofs.Ytfcjkchpldfamaa

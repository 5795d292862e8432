/-
  AtomSums, by shadows.
-/
import Derived.Test.YtcbdgnjdpfgobaaK10c
import Derived.Test.YtcbdgnjdpfgobaaK10g
import Derived.Test.YtcbdgnjdpfgobaaScAtomSums
import Derived.Test.YtcbdgnjdpfgobaaMC
namespace Go.Proofs.Ytcbdgnjdpfgobaa
set_option linter.unusedSimpArgs false
set_option linter.unusedVariables false
open Go.RowKit Go.Maps

theorem infoI64 : (Try.prog.info? 2).map (fun i => (i.zero, i.size, i.bytes)) = some (some (.int .i64 0), 1, 8) := by kernel_rfl
abbrev opsS (a b c : Int) : List (List Sh) := [[sI 0, sI 0, sI a], [sI 0, sI 0, sI b], [sI 0, sI 0, sI c]]
abbrev sumL (a b c : Int) : List OpV := [⟨0, 0, a⟩, ⟨0, 0, b⟩, ⟨0, 0, c⟩]
theorem sumL_ops (a b c : Int) : opsM (sumL a b c) = sumL a b c := rfl
noncomputable abbrev sumW (f a b c : Int) : WorldM atm := begunW (sumL a b c) ⟨f, 3, 0⟩ ⟨9, 0, 0⟩
def AsInv (f a b c : Int) (ps : List PickV) (k : Nat) (S : St) : Prop :=
  ∃ i : Nat, i ≤ 3 ∧ k = 3 - i ∧ S = ⟨[(0, sI f), (2, .sl 3 2 (ps.map ePick)), (4, .ptr 0 0 0), (7, .ptr 1 0 0), (22, .agg [sI a, sI b, sI c]), (23, sI i)], [(0, .box 119 [sI a, sI b, sI c]), (1, .box 94 [sI f, sU 3, sU 0, sI 9, sU 0, sU 0, .own 2, .sl 3 2 (ps.map ePick)]), (2, .row 99 3 ((opsS a b c).take i))], 3⟩
def AsInv1 (f a b c : Int) (ps : List PickV) (k : Nat) (S : St) : Prop :=
  ∃ i : Nat, i ≤ ps.length ∧ k = ps.length - i ∧ S = ⟨[(0, sI f), (4, .ptr 0 0 0), (10, .ptr 1 0 0), (50, .sl 3 2 (ps.map ePick)), (51, sI ps.length), (52, sI i)], [(0, .box 119 [sI a, sI b, sI c]), (1, boxW (runI (sumW f a b c) isStep ps i))], 2⟩
def AsInv2 (f a b c : Int) (W : WorldM atm) (k : Nat) (S : St) : Prop :=
  ∃ i : Nat, i ≤ 3 ∧ k = 3 - i ∧ S = ⟨[(0, sI f), (4, .ptr 0 0 0), (10, .ptr 1 0 0), (15, sI ((i + 1 : Nat) : Int))], [(0, .box 119 [sI a, sI b, sI c]), (1, boxW (aloneN W 10 i))], 2⟩
theorem sum_end {f a b c : Int} (hf : -9223372036854775808 ≤ f ∧ f ≤ 9223372036854775807) (ha : -9223372036854775808 ≤ a ∧ a ≤ 9223372036854775807) (hb : -9223372036854775808 ≤ b ∧ b ≤ 9223372036854775807) (hc : -9223372036854775808 ≤ c ∧ c ≤ 9223372036854775807) (ps : List PickV) (i : Nat) :
    AtJ (sumL a b c) (runI (sumW f a b c) isStep ps i) 0 ∧ doneW (aloneN (runI (sumW f a b c) isStep ps i) 10 3) = true ∧ Wd (aloneN (runI (sumW f a b c) isStep ps i) 10 3).m 0 = ⟨IntKind.i64.wrap (IntKind.i64.wrap (IntKind.i64.wrap (f + a) + b) + c), 3, 0⟩ := by
  have ho : ∀ o ∈ sumL a b c, checkA o = 0 ∧ (o.loc = 0 ∨ o.loc = 1) := fun o ho => by rw [← sumL_ops] at ho; exact opsM_mem ho
  have hJ : AtJ (sumL a b c) (sumW f a b c) 0 := atJ_begun (by simp) ho
  have hJi := atJ_runI hJ ps i
  have hJ3 := atJ_alone hJi (N := 10) (by decide) 3 (by simp)
  obtain ⟨_, hmk, _, _, hw0, _⟩ := begun_ok (sumL a b c) ⟨f, 3, 0⟩ ⟨9, 0, 0⟩ (by simp)
  have hlive : ∀ j, j < 3 → liveAt (sumW f a b c) j = true := fun j hj => by
    unfold sumW begunW
    rw [hmk]
    match j, hj with
    | 0, _ => rfl
    | 1, _ => rfl
    | 2, _ => rfl
  have hS : SumJ f a b c (sumW f a b c) := by
    refine ⟨hJ.at', ?_, ?_, ?_⟩
    · have : Wd (sumW f a b c).m 0 = ⟨f, 3, 0⟩ := by unfold sumW begunW; rw [hmk]; exact hw0
      rw [this]
      unfold finSum
      rw [hlive 0 (by decide), hlive 1 (by decide), hlive 2 (by decide)]
      simp only [if_true, IntKind.wrap_i64]; omega
    · have : Wd (sumW f a b c).m 0 = ⟨f, 3, 0⟩ := by unfold sumW begunW; rw [hmk]; exact hw0
      rw [this]
    · have : Wd (sumW f a b c).m 0 = ⟨f, 3, 0⟩ := by unfold sumW begunW; rw [hmk]; exact hw0
      rw [this]
  have hst := fun w p (hp : p.kind = 0) (h : SumJ f a b c w) => sumJ_step ha hb hc h p hp
  have hSi : SumJ f a b c (runI (sumW f a b c) isStep ps i) := run_keeps0 (I := SumJ f a b c) hst _ (sel_step ps i) hS
  have hS3 : ∀ k, SumJ f a b c (aloneN (runI (sumW f a b c) isStep ps i) 10 k) := fun k => by
    induction k with
    | zero => exact hSi
    | succ k ih => exact goes_keeps (I := SumJ f a b c) _ hst 10 ih
  refine ⟨hJi, doneW_of fun j hj => hJ3.done j (by rw [hJ3.at'.len] at hj; exact hj), ?_⟩
  have h3 := hS3 3
  have hv := h3.val
  have hr := h3.ver
  have hf' := h3.ref
  generalize aloneN (runI (sumW f a b c) isStep ps i) 10 3 = V at hJ3 hv hr hf'
  unfold finSum at hv
  rw [hJ3.done 0 (by decide), hJ3.done 1 (by decide), hJ3.done 2 (by decide)] at hv
  simp only [Bool.false_eq_true, if_false] at hv
  generalize Wd V.m 0 = x at hv hr hf'
  obtain ⟨x1, x2, x3⟩ := x
  simp only at hv hr hf'
  subst hr hf'
  rw [hv]
  simp only [WordV.mk.injEq, and_true]
  simp only [IntKind.wrap_i64]; omega
set_option maxHeartbeats 8000000 in
theorem ok_AtomSums (f a b c : Int) (ps : List PickV) (hf : -9223372036854775808 ≤ f ∧ f ≤ 9223372036854775807) (ha : -9223372036854775808 ≤ a ∧ a ≤ 9223372036854775807) (hb : -9223372036854775808 ≤ b ∧ b ≤ 9223372036854775807) (hc : -9223372036854775808 ≤ c ∧ c ≤ 9223372036854775807) :
    Ok 12 [sI f, .agg [sI a, sI b, sI c], .sl 3 2 (ps.map ePick)] (sB true) := by
  refine ok_of_tr Try.func12 tr_AtomSums rfl ?_
  have ka := ok_l10awake
  have hK := shK atm
  have k0 := ok_l10Great ⟨⟨f, 3, 0⟩, ⟨9, 0, 0⟩, 0, sumL a b c, 2, ps⟩
  have k2 := ok_l10begun ⟨⟨f, 3, 0⟩, ⟨9, 0, 0⟩, 0, sumL a b c, 2, ps⟩ (by simp)
  change Ok _ [.agg [sI f, sU 3, sU 0, sI 9, sU 0, sU 0, .sl 3 0 (opsS a b c), .sl 3 2 (ps.map ePick)]] (.tup [eWorld (runI (sumW f a b c) isStep ps 0), .sl 3 0 (opsS a b c), sB true]) at k2
  change Ok _ [.agg [sI f, sU 3, sU 0, sI 9, sU 0, sU 0, .sl 3 0 (opsS a b c), .sl 3 2 (ps.map ePick)]] _ at k0
  have ki : ∀ w, (isAgg 2).run Try.prog w = .ok false w := Try.isAgg2
  obtain ⟨iF, hiF, _, hsF, _⟩ := info_parts infoI64
  have hnx : ∀ i, i < 3 → ∃ x, [sI a, sI b, sI c][i]? = some (sI x) ∧ (opsS a b c).take (i + 1) = (opsS a b c).take i ++ [[sI 0, sI 0, sI x]] ∧ ((opsS a b c).take i).length = i := fun i hi =>
    match i, hi with
    | 0, _ => ⟨a, rfl, rfl, rfl⟩
    | 1, _ => ⟨b, rfl, rfl, rfl⟩
    | 2, _ => ⟨c, rfl, rfl, rfl⟩
  have hend := sum_end hf ha hb hc ps
  have hO : ∀ i, WorldOk (runI (sumW f a b c) isStep ps i) (2 + i) := fun i => runI_ok (begun_ok _ _ _ (by simp)).1 _ _ _
  have hstop : (120 : Int) < (ps.length : Int) ∨ ¬ (120 : Int) < (ps.length : Int) := by omega
  have hgr : greatR ⟨⟨f, 3, 0⟩, ⟨9, 0, 0⟩, 0, sumL a b c, 2, ps⟩ = decide ((120 : Int) < (ps.length : Int)) := by
    unfold greatR
    refine decide_eq_decide.2 ?_
    show 3 < 3 ∨ 3 = 0 ∨ 120 < ps.length ↔ _
    omega
  rw [hgr] at k0
  have hsucc := fun {i p} => runI_succ (w := sumW f a b c) (q := isStep) (ps := ps) (i := i) (p := p)
  obtain ⟨B, hB⟩ : ∃ B, B = sumW f a b c := ⟨_, rfl⟩
  by_cases hg : (120 : Int) < (ps.length : Int)
  case pos =>
    rw [decide_eq_true hg] at k0
    unfold evFn sc_AtomSums rv_AtomSums
    have F1 := @hK
    refine ev_seq_k fun K1 hn1 hr1 he1 => ?_
    refine ev_ops_k fun K2 hk2 => ?_
    refine sh1 F1 ?_
    refine hk2 _ ?_
    refine hn1 (some ([0, 2, 4], none)) _ ?_
    refine ev_seq_k fun K3 hn3 hr3 he3 => ?_
    refine ev_ops_k fun K4 hk4 => ?_
    refine sh1 F1 ?_
    refine sd ?_
    refine hk4 _ ?_
    refine hn3 (some ([0, 2, 4, 7], none)) _ ?_
    refine ev_seq_k fun K5 hn5 hr5 he5 => ?_
    refine ev_seq_k fun K6 hn6 hr6 he6 => ?_
    refine ev_ops_k fun K7 hk7 => ?_
    refine evL_take 1 fun K8 hk8 => ?_
    refine sh1 F1 ?_
    refine sd ?_
    refine hk8 _ ?_
    refine sh1 F1 ?_
    refine hk7 _ ?_
    refine hn6 (some ([0, 2, 4, 7, 22, 23], none)) _ ?_
    refine ev_block_k fun K9 hn9 hx9 hr9 he9 => ?_
    refine ev_loop_k (AsInv f a b c ps) (3) (some ([0, 2, 4, 7, 22, 23], some ([0, 1, 2], 3))) ([.cell 1 6 (some 99) 3]) ?_ ?_
    · try refine lp0 ?_
      exact ⟨0, by omega, by omega, by rfl⟩
    · intro k S1 hI
      obtain ⟨i, hi', rfl, rfl⟩ := hI
      have hcase : i = 3 ∨ i < 3 := by omega
      intro K10 hn10 hr10 he10
      rcases hcase with hcc | hcc
      · skip
        have w2 : ¬ (i : Int) < 3 := by omega
        subst hcc
        have F2 := And.intro F1 @w2
        refine ev_seq_k fun K11 hn11 hr11 he11 => ?_
        refine ev_ops_k fun K12 hk12 => ?_
        refine sh1 F2 ?_
        refine sd ?_
        refine hk12 _ ?_
        refine hn11 (some ([0, 2, 4, 7, 22, 23, 24], none)) _ ?_
        refine ev_seq_k fun K13 hn13 hr13 he13 => ?_
        refine ev_cond_k rfl (fun hx => absurd hx (by simp at hx)) (fun hc0 => ?_)
        clear hc0
        refine he13 0 _ ?_
        refine he10 0 _ ?_
        refine hx9 _ ?_
        refine hn5 (some ([0, 2, 4, 7], none)) _ ?_
        refine ev_seq_k fun K14 hn14 hr14 he14 => ?_
        refine ev_seq_k fun K15 hn15 hr15 he15 => ?_
        refine ev_ops_k fun K16 hk16 => ?_
        refine evL_take 1 fun K17 hk17 => ?_
        refine sh1 F2 ?_
        refine sd ?_
        refine hk17 _ ?_
        refine sh1 F2 ?_
        refine Or.inl (Or.inl ⟨_, k0, ?_⟩)
        refine hk16 _ ?_
        refine hn15 (some ([0, 2, 4, 7, 35], none)) _ ?_
        refine ev_cond_k rfl (fun hc1 => ?_) (fun hx => absurd hx (by simp at hx))
        clear hc1
        refine ev_seq_k fun K18 hn18 hr18 he18 => ?_
        refine ev_ops_k fun K19 hk19 => ?_
        refine evL_take 1 fun K20 hk20 => ?_
        refine sh1 F2 ?_
        refine Or.inl (Or.inl ⟨_, ka, ?_⟩)
        refine hk20 _ ?_
        refine sh1 F2 ?_
        refine hk19 _ ?_
        refine hn18 (some ([6], none)) _ ?_
        refine hr14 _ ?_
        exact sf1 F2
      · skip
        have w2 : (i : Int) < 3 := by omega
        have w3 : IntKind.i64.wrap ((i : Int) + 1) = ((i + 1 : Nat) : Int) := by rw [IntKind.wrap_i64]; omega
        obtain ⟨x, hx0, hx1, hx2⟩ := hnx i hcc
        have w5 : (i + 1) * 24 ≤ 140737488355328 := by omega
        have F3 := And.intro F1 (And.intro @w2 (And.intro @w3 (And.intro @hx2 @w5)))
        refine ev_seq_k fun K21 hn21 hr21 he21 => ?_
        refine ev_ops_k fun K22 hk22 => ?_
        refine sh1 F3 ?_
        refine sd ?_
        refine hk22 _ ?_
        refine hn21 (some ([0, 2, 4, 7, 22, 23, 24], none)) _ ?_
        refine ev_seq_k fun K23 hn23 hr23 he23 => ?_
        refine ev_cond_k rfl (fun hc0 => ?_) (fun hx => absurd hx (by simp at hx))
        clear hc0
        refine hn23 (some ([0, 2, 4, 7, 22, 23], none)) _ ?_
        refine ev_seq_k fun K24 hn24 hr24 he24 => ?_
        refine ev_block_k fun K25 hn25 hx25 hr25 he25 => ?_
        refine ev_seq_k fun K26 hn26 hr26 he26 => ?_
        refine ev_ops_k fun K27 hk27 => ?_
        refine evL_take 1 fun K28 hk28 => ?_
        refine sh1 F3 ?_
        refine ⟨_, gen_index1 (n := (i : Int)) Try.underlying119 hiF hsF ki (by omega) (by omega) (by rw [Int.toNat_natCast]; exact hx0), ?_⟩
        refine hk28 _ ?_
        refine sh1 F3 ?_
        refine hk27 _ ?_
        refine hn26 (some ([0, 2, 4, 7, 9, 22, 23], none)) _ ?_
        refine ev_ops_k fun K29 hk29 => ?_
        refine evL_take 2 fun K30 hk30 => ?_
        refine sh1 F3 ?_
        refine sd ?_
        refine hk30 _ ?_
        refine evL_take 3 fun K31 hk31 => ?_
        refine sh1 F3 ?_
        refine sd ?_
        refine hk31 _ ?_
        refine evL_take 1 fun K32 hk32 => ?_
        refine sh1 F3 ?_
        refine sd ?_
        refine hk32 _ ?_
        refine sh1 F3 ?_
        refine sd ?_
        refine hk29 _ ?_
        refine hn25 _ ?_
        refine hn24 (some ([0, 2, 4, 7, 22, 23], none)) _ ?_
        refine ev_ops_k fun K33 hk33 => ?_
        refine evL_take 1 fun K34 hk34 => ?_
        refine sh1 F3 ?_
        refine sd ?_
        refine hk34 _ ?_
        refine sh1 F3 ?_
        refine hk33 _ ?_
        refine hn10 (3 - (i + 1)) (some ([0, 2, 4, 7, 22, 23], some ([0, 1, 3], 3))) _ ?_ ?_
        all_goals try refine lp0 ?_
        · omega
        · exact ⟨i + 1, by omega, by omega, by rw [hx1]⟩
  rw [decide_eq_false hg] at k0
  unfold evFn sc_AtomSums rv_AtomSums
  have F1 := @hK
  refine ev_seq_k fun K1 hn1 hr1 he1 => ?_
  refine ev_ops_k fun K2 hk2 => ?_
  refine sh1 F1 ?_
  refine hk2 _ ?_
  refine hn1 (some ([0, 2, 4], none)) _ ?_
  refine ev_seq_k fun K3 hn3 hr3 he3 => ?_
  refine ev_ops_k fun K4 hk4 => ?_
  refine sh1 F1 ?_
  refine sd ?_
  refine hk4 _ ?_
  refine hn3 (some ([0, 2, 4, 7], none)) _ ?_
  refine ev_seq_k fun K5 hn5 hr5 he5 => ?_
  refine ev_seq_k fun K6 hn6 hr6 he6 => ?_
  refine ev_ops_k fun K7 hk7 => ?_
  refine evL_take 1 fun K8 hk8 => ?_
  refine sh1 F1 ?_
  refine sd ?_
  refine hk8 _ ?_
  refine sh1 F1 ?_
  refine hk7 _ ?_
  refine hn6 (some ([0, 2, 4, 7, 22, 23], none)) _ ?_
  refine ev_block_k fun K9 hn9 hx9 hr9 he9 => ?_
  refine ev_loop_k (AsInv f a b c ps) (3) (some ([0, 2, 4, 7, 22, 23], some ([0, 1, 2], 3))) ([.cell 1 6 (some 99) 3]) ?_ ?_
  · try refine lp0 ?_
    exact ⟨0, by omega, by omega, by rfl⟩
  · intro k S1 hI
    obtain ⟨i, hi', rfl, rfl⟩ := hI
    have hcase : i = 3 ∨ i < 3 := by omega
    intro K10 hn10 hr10 he10
    rcases hcase with hcc | hcc
    · skip
      have w2 : ¬ (i : Int) < 3 := by omega
      subst hcc
      have F2 := And.intro F1 @w2
      refine ev_seq_k fun K11 hn11 hr11 he11 => ?_
      refine ev_ops_k fun K12 hk12 => ?_
      refine sh1 F2 ?_
      refine sd ?_
      refine hk12 _ ?_
      refine hn11 (some ([0, 2, 4, 7, 22, 23, 24], none)) _ ?_
      refine ev_seq_k fun K13 hn13 hr13 he13 => ?_
      refine ev_cond_k rfl (fun hx => absurd hx (by simp at hx)) (fun hc0 => ?_)
      clear hc0
      refine he13 0 _ ?_
      refine he10 0 _ ?_
      refine hx9 _ ?_
      refine hn5 (some ([0, 2, 4, 7], none)) _ ?_
      refine ev_seq_k fun K14 hn14 hr14 he14 => ?_
      refine ev_seq_k fun K15 hn15 hr15 he15 => ?_
      refine ev_ops_k fun K16 hk16 => ?_
      refine evL_take 1 fun K17 hk17 => ?_
      refine sh1 F2 ?_
      refine sd ?_
      refine hk17 _ ?_
      refine sh1 F2 ?_
      refine Or.inl (Or.inl ⟨_, k0, ?_⟩)
      refine hk16 _ ?_
      refine hn15 (some ([0, 2, 4, 7, 35], none)) _ ?_
      refine ev_cond_k rfl (fun hx => absurd hx (by simp at hx)) (fun hc1 => ?_)
      clear hc1
      refine hn14 (some ([0, 2, 4, 7], none)) _ ?_
      refine ev_seq_k fun K18 hn18 hr18 he18 => ?_
      refine ev_ops_k fun K19 hk19 => ?_
      refine evL_take 1 fun K20 hk20 => ?_
      refine sh1 F2 ?_
      refine sd ?_
      refine hk20 _ ?_
      refine evL_take 1 fun K21 hk21 => ?_
      refine sh1 F2 ?_
      refine Or.inl (Or.inl ⟨_, k2, ?_⟩)
      refine hk21 _ ?_
      refine evL_take 6 fun K22 hk22 => ?_
      refine sh1 F2 ?_
      refine sd ?_
      refine hk22 _ ?_
      refine sh1 F2 ?_
      refine hk19 _ ?_
      refine hn18 (some ([0, 2, 4, 10, 11, 12], none)) _ ?_
      refine ev_seq_k fun K23 hn23 hr23 he23 => ?_
      refine ev_seq_k fun K24 hn24 hr24 he24 => ?_
      refine ev_ops_k fun K25 hk25 => ?_
      refine evL_take 6 fun K26 hk26 => ?_
      refine sh1 F2 ?_
      refine sd ?_
      refine hk26 _ ?_
      refine sh1 F2 ?_
      refine hk25 _ ?_
      refine hn24 (some ([0, 2, 4, 10, 49], none)) _ ?_
      refine ev_cond_k rfl (fun hx => absurd hx (by simp at hx)) (fun hc2 => ?_)
      clear hc2
      refine hn23 (some ([0, 2, 4, 10], none)) _ ?_
      refine ev_seq_k fun K27 hn27 hr27 he27 => ?_
      refine ev_seq_k fun K28 hn28 hr28 he28 => ?_
      refine ev_ops_k fun K29 hk29 => ?_
      refine sh1 F2 ?_
      refine hk29 _ ?_
      refine hn28 (some ([0, 4, 10, 50, 51, 52], none)) _ ?_
      refine ev_block_k fun K30 hn30 hx30 hr30 he30 => ?_
      refine ev_loop_k (AsInv1 f a b c ps) (ps.length) (some ([0, 4, 10, 50, 51, 52], some ([0, 3], 2))) ([]) ?_ ?_
      · try refine lp0 ?_
        exact ⟨0, by omega, by omega, by rfl⟩
      · intro k S1 hI
        obtain ⟨j, hj', rfl, rfl⟩ := hI
        have hOj := hO j
        have hcase2 : j = ps.length ∨ (∃ p, ps[j]? = some p ∧ p.kind = 0) ∨ (∃ p, ps[j]? = some p ∧ ¬ p.kind = 0) := by
          rcases Nat.lt_or_ge j ps.length with h | h
          · by_cases h2 : (ps[j]).kind = 0
            · exact .inr (.inl ⟨_, List.getElem?_eq_getElem h, h2⟩)
            · exact .inr (.inr ⟨_, List.getElem?_eq_getElem h, h2⟩)
          · exact .inl (by omega)
        intro K31 hn31 hr31 he31
        rcases hcase2 with hcd | ⟨p, hp, hpk⟩ | ⟨p, hp, hpk⟩
        · skip
          have z2 : ¬ (j : Int) < (ps.length : Int) := by omega
          obtain ⟨hJ, hdn, hwd⟩ := hend j
          have hOn := fun k => aloneN_ok hOj 10 k
          have hJn := fun k hk => atJ_alone hJ (N := 10) (by decide) k hk
          have k5 := ok_kWDone (aloneN (runI (sumW f a b c) isStep ps j) 10 3) (worldOk_eight (hOn 3))
          rw [hdn] at k5
          have k6 := ok_l10word (aloneN (runI (sumW f a b c) isStep ps j) 10 3) 0 (hOn 3) (by omega)
          rw [hwd] at k6
          have F3 := And.intro F2 @z2
          refine ev_seq_k fun K32 hn32 hr32 he32 => ?_
          refine ev_ops_k fun K33 hk33 => ?_
          refine sh1 F3 ?_
          refine sd ?_
          refine hk33 _ ?_
          refine hn32 (some ([0, 4, 10, 50, 51, 52, 53], none)) _ ?_
          refine ev_seq_k fun K34 hn34 hr34 he34 => ?_
          refine ev_cond_k rfl (fun hx => absurd hx (by simp at hx)) (fun hc3 => ?_)
          clear hc3
          refine he34 2 _ ?_
          refine he31 2 _ ?_
          refine hx30 _ ?_
          refine hn27 (some ([0, 4, 10], none)) _ ?_
          refine ev_seq_k fun K35 hn35 hr35 he35 => ?_
          refine ev_seq_k fun K36 hn36 hr36 he36 => ?_
          refine ev_ops_k fun K37 hk37 => ?_
          refine sh1 F3 ?_
          refine hk37 _ ?_
          refine hn36 (some ([0, 4, 10, 15], none)) _ ?_
          refine ev_block_k fun K38 hn38 hx38 hr38 he38 => ?_
          refine ev_loop_k (AsInv2 f a b c (runI (sumW f a b c) isStep ps j)) (3) (some ([0, 4, 10, 15], some ([0, 1], 2))) ([]) ?_ ?_
          · try refine lp0 ?_
            exact ⟨0, by omega, by omega, by rfl⟩
          · intro k S1 hI
            obtain ⟨t, ht', rfl, rfl⟩ := hI
            have hcase3 : t = 3 ∨ t < 3 := by omega
            intro K39 hn39 hr39 he39
            rcases hcase3 with hce | hce
            · skip
              have y2 : ¬ ((t + 1 : Nat) : Int) ≤ 3 := by omega
              subst hce
              have F4 := And.intro F3 @y2
              refine ev_seq_k fun K40 hn40 hr40 he40 => ?_
              refine ev_seq_k fun K41 hn41 hr41 he41 => ?_
              refine ev_ops_k fun K42 hk42 => ?_
              refine sh1 F4 ?_
              refine sd ?_
              refine hk42 _ ?_
              refine hn41 (some ([0, 4, 10, 15, 67], none)) _ ?_
              refine ev_cond_k rfl (fun hx => absurd hx (by simp at hx)) (fun hc5 => ?_)
              clear hc5
              refine he40 4 _ ?_
              refine he39 4 _ ?_
              refine hx38 _ ?_
              refine hn35 (some ([0, 4, 10], none)) _ ?_
              refine ev_seq_k fun K43 hn43 hr43 he43 => ?_
              refine ev_drw_k [] (n := 16) fun K44 hk44 => ?_
              refine sq0 ?_
              refine evF_take 1 fun K46 hk46 => ?_
              refine sh1 F4 ?_
              refine sd ?_
              refine hk46 _ _ _ ?_
              refine evF_take 1 fun K47 hk47 => ?_
              refine sh1 F4 ?_
              refine ⟨_, k5, ?_⟩
              refine hk47 _ _ _ ?_
              refine evF_take 2 fun K48 hk48 => ?_
              refine sh1 F4 ?_
              refine sd ?_
              refine hk48 _ _ _ ?_
              refine evF_take 1 fun K49 hk49 => ?_
              refine sh1 F4 ?_
              refine ⟨_, k6, ?_⟩
              refine hk49 _ _ _ ?_
              refine evF_take 2 fun K50 hk50 => ?_
              refine sh1 F4 ?_
              refine sd ?_
              refine hk50 _ _ _ ?_
              refine evF_take 1 fun K51 hk51 => ?_
              refine sh1 F4 ?_
              refine sd ?_
              refine hk51 _ _ _ ?_
              refine evF_take 1 fun K52 hk52 => ?_
              refine sh1 F4 ?_
              refine sd ?_
              refine hk52 _ _ _ ?_
              refine evF_take 1 fun K53 hk53 => ?_
              refine sh1 F4 ?_
              refine sd ?_
              refine hk53 _ _ _ ?_
              refine evF_take 1 fun K54 hk54 => ?_
              refine sh1 F4 ?_
              refine sd ?_
              refine hk54 _ _ _ ?_
              refine evF_take 1 fun K55 hk55 => ?_
              refine sh1 F4 ?_
              refine sd ?_
              refine hk55 _ _ _ ?_
              refine evF_take 1 fun K56 hk56 => ?_
              refine sh1 F4 ?_
              refine sd ?_
              refine hk56 _ _ _ ?_
              refine evF_take 1 fun K57 hk57 => ?_
              refine sh1 F4 ?_
              refine sd ?_
              refine hk57 _ _ _ ?_
              refine evF_take 1 fun K58 hk58 => ?_
              refine sh1 F4 ?_
              refine sd ?_
              refine hk58 _ _ _ ?_
              refine sh1 F4 ?_
              refine hk44 _ ?_
              refine sr0 ?_
              refine evL_take 1 fun K59 hk59 => ?_
              refine sh1 F4 ?_
              refine Or.inl ⟨_, eqsh_word_refl ⟨_, 3, 0⟩, ?_⟩
              refine hk59 _ ?_
              refine evL_take 2 fun K60 hk60 => ?_
              refine sh1 F4 ?_
              refine hk60 _ ?_
              refine evL_take 1 fun K61 hk61 => ?_
              refine sh1 F4 ?_
              refine Or.inl (Or.inl ⟨_, ka, ?_⟩)
              refine hk61 _ ?_
              refine sh1 F4 ?_
              refine hn43 (some ([6], none)) _ ?_
              exact sf1 F4
            · skip
              have y2 : ((t + 1 : Nat) : Int) ≤ 3 := by omega
              have y3 : IntKind.i64.wrap (((t + 1 : Nat) : Int) + 1) = ((t + 1 + 1 : Nat) : Int) := by rw [IntKind.wrap_i64]; omega
              have k4 := ok_kAlone (aloneN (runI (sumW f a b c) isStep ps j) 10 t) ((t + 1 : Nat) : Int) 10 (hOn t) (by show 2 + j + t * 10 + 10 ≤ 900; omega)
              have hal := alone_eq (w := aloneN (runI (sumW f a b c) isStep ps j) 10 t) (m := t) (by rw [(hJn t (by show t ≤ 3; omega)).at'.len]; show t < 3; omega) ((hJn t (by show t ≤ 3; omega)).go t) 10
              rw [show ((t + 1 : Nat) : Int) = (t : Int) + 1 by omega, show (10 : Int) = ((10 : Nat) : Int) from rfl, hal] at k4
              change Ok _ _ (.tup [eWorld (aloneN (runI (sumW f a b c) isStep ps j) 10 (t + 1)), _]) at k4
              rw [show (t : Int) + 1 = ((t + 1 : Nat) : Int) by omega] at k4
              generalize (!(liveAt (goesM (aloneN (runI (sumW f a b c) isStep ps j) 10 t) ((t + 1 : Nat) : Int) 10) t)) = bb at k4
              have F5 := And.intro F3 (And.intro @y2 @y3)
              refine ev_seq_k fun K62 hn62 hr62 he62 => ?_
              refine ev_seq_k fun K63 hn63 hr63 he63 => ?_
              refine ev_ops_k fun K64 hk64 => ?_
              refine sh1 F5 ?_
              refine sd ?_
              refine hk64 _ ?_
              refine hn63 (some ([0, 4, 10, 15, 67], none)) _ ?_
              refine ev_cond_k rfl (fun hc5 => ?_) (fun hx => absurd hx (by simp at hx))
              clear hc5
              refine hn62 (some ([0, 4, 10, 15], none)) _ ?_
              refine ev_seq_k fun K65 hn65 hr65 he65 => ?_
              refine ev_block_k fun K66 hn66 hx66 hr66 he66 => ?_
              refine ev_ops_k fun K67 hk67 => ?_
              refine evL_take 1 fun K68 hk68 => ?_
              refine sh1 F5 ?_
              refine sd ?_
              refine hk68 _ ?_
              refine evL_take 1 fun K69 hk69 => ?_
              refine sh1 F5 ?_
              refine hk69 _ ?_
              refine evL_take 1 fun K70 hk70 => ?_
              refine sh1 F5 ?_
              refine Or.inl (Or.inl ⟨_, k4, ?_⟩)
              refine hk70 _ ?_
              refine sh1 F5 ?_
              refine sd ?_
              refine hk67 _ ?_
              refine hn66 _ ?_
              refine hn65 (some ([0, 4, 10, 15], none)) _ ?_
              refine ev_ops_k fun K71 hk71 => ?_
              refine evL_take 2 fun K72 hk72 => ?_
              refine sh1 F5 ?_
              refine sd ?_
              refine hk72 _ ?_
              refine sh1 F5 ?_
              refine hk71 _ ?_
              refine hn39 (3 - (t + 1)) (some ([0, 4, 10, 15], some ([0, 1], 2))) _ ?_ ?_
              all_goals try refine lp0 ?_
              · omega
              · exact ⟨t + 1, by omega, by omega, rfl⟩
        · skip
          have hlt := (List.getElem?_eq_some_iff.1 hp).1
          have z2 : (j : Int) < (ps.length : Int) := by omega
          have z3 : IntKind.i64.wrap ((j : Int) + 1) = ((j + 1 : Nat) : Int) := by rw [IntKind.wrap_i64]; omega
          have z4 : (p.kind == 0) = true := by simpa using hpk
          have k3 := ok_kStep (runI (sumW f a b c) isStep ps j) p hOj (by omega)
          have hn := hsucc hp
          rw [if_pos (show isStep p = true from z4)] at hn
          rw [← hn] at k3
          generalize (stepM (runI (sumW f a b c) isStep ps j) p).2 = bb at k3
          have F6 := And.intro F2 (And.intro @z2 (And.intro @z3 (And.intro @z4 @hp)))
          refine ev_seq_k fun K73 hn73 hr73 he73 => ?_
          refine ev_ops_k fun K74 hk74 => ?_
          refine sh1 F6 ?_
          refine sd ?_
          refine hk74 _ ?_
          refine hn73 (some ([0, 4, 10, 50, 51, 52, 53], none)) _ ?_
          refine ev_seq_k fun K75 hn75 hr75 he75 => ?_
          refine ev_cond_k rfl (fun hc3 => ?_) (fun hx => absurd hx (by simp at hx))
          clear hc3
          refine hn75 (some ([0, 4, 10, 50, 51, 52], none)) _ ?_
          refine ev_seq_k fun K76 hn76 hr76 he76 => ?_
          refine ev_block_k fun K77 hn77 hx77 hr77 he77 => ?_
          refine ev_seq_k fun K78 hn78 hr78 he78 => ?_
          refine ev_ops_k fun K79 hk79 => ?_
          refine evL_take 1 fun K80 hk80 => ?_
          refine sh1 F6 ?_
          refine sd ?_
          refine hk80 _ ?_
          refine evL_take 1 fun K81 hk81 => ?_
          refine sh1 F6 ?_
          refine sd ?_
          refine hk81 _ ?_
          refine sh1 F6 ?_
          refine sd ?_
          refine hk79 _ ?_
          refine hn78 (some ([0, 4, 10, 14, 50, 51, 52], none)) _ ?_
          refine ev_seq_k fun K82 hn82 hr82 he82 => ?_
          refine ev_ops_k fun K83 hk83 => ?_
          refine evL_take 2 fun K84 hk84 => ?_
          refine sh1 F6 ?_
          refine sd ?_
          refine hk84 _ ?_
          refine sh1 F6 ?_
          refine sd ?_
          refine hk83 _ ?_
          refine hn82 (some ([0, 4, 10, 14, 50, 51, 52, 58], none)) _ ?_
          refine ev_cond_k rfl (fun hc4 => ?_) (fun hx => absurd hx (by simp at hx))
          clear hc4
          refine ev_ops_k fun K85 hk85 => ?_
          refine evL_take 1 fun K86 hk86 => ?_
          refine sh1 F6 ?_
          refine sd ?_
          refine hk86 _ ?_
          refine evL_take 1 fun K87 hk87 => ?_
          refine sh1 F6 ?_
          refine sd ?_
          refine hk87 _ ?_
          refine evL_take 1 fun K88 hk88 => ?_
          refine sh1 F6 ?_
          refine Or.inl (Or.inl ⟨_, k3, ?_⟩)
          refine hk88 _ ?_
          refine sh1 F6 ?_
          refine sd ?_
          refine hk85 _ ?_
          refine hn77 _ ?_
          refine hn76 (some ([0, 4, 10, 50, 51, 52], none)) _ ?_
          refine ev_ops_k fun K89 hk89 => ?_
          refine evL_take 1 fun K90 hk90 => ?_
          refine sh1 F6 ?_
          refine sd ?_
          refine hk90 _ ?_
          refine sh1 F6 ?_
          refine hk89 _ ?_
          refine hn31 (ps.length - (j + 1)) (some ([0, 4, 10, 50, 51, 52], some ([0, 1], 2))) _ ?_ ?_
          all_goals try refine lp0 ?_
          · omega
          · exact ⟨j + 1, by omega, by omega, rfl⟩
        · skip
          have hlt := (List.getElem?_eq_some_iff.1 hp).1
          have z2 : (j : Int) < (ps.length : Int) := by omega
          have z3 : IntKind.i64.wrap ((j : Int) + 1) = ((j + 1 : Nat) : Int) := by rw [IntKind.wrap_i64]; omega
          have z4 : (p.kind == 0) = false := by simpa using hpk
          have hn := hsucc hp
          rw [if_neg (show ¬ isStep p = true by unfold isStep; rw [z4]; simp)] at hn
          have F7 := And.intro F2 (And.intro @z2 (And.intro @z3 (And.intro @z4 @hp)))
          refine ev_seq_k fun K91 hn91 hr91 he91 => ?_
          refine ev_ops_k fun K92 hk92 => ?_
          refine sh1 F7 ?_
          refine sd ?_
          refine hk92 _ ?_
          refine hn91 (some ([0, 4, 10, 50, 51, 52, 53], none)) _ ?_
          refine ev_seq_k fun K93 hn93 hr93 he93 => ?_
          refine ev_cond_k rfl (fun hc3 => ?_) (fun hx => absurd hx (by simp at hx))
          clear hc3
          refine hn93 (some ([0, 4, 10, 50, 51, 52], none)) _ ?_
          refine ev_seq_k fun K94 hn94 hr94 he94 => ?_
          refine ev_block_k fun K95 hn95 hx95 hr95 he95 => ?_
          refine ev_seq_k fun K96 hn96 hr96 he96 => ?_
          refine ev_ops_k fun K97 hk97 => ?_
          refine evL_take 1 fun K98 hk98 => ?_
          refine sh1 F7 ?_
          refine sd ?_
          refine hk98 _ ?_
          refine evL_take 1 fun K99 hk99 => ?_
          refine sh1 F7 ?_
          refine sd ?_
          refine hk99 _ ?_
          refine sh1 F7 ?_
          refine sd ?_
          refine hk97 _ ?_
          refine hn96 (some ([0, 4, 10, 14, 50, 51, 52], none)) _ ?_
          refine ev_seq_k fun K100 hn100 hr100 he100 => ?_
          refine ev_ops_k fun K101 hk101 => ?_
          refine evL_take 2 fun K102 hk102 => ?_
          refine sh1 F7 ?_
          refine sd ?_
          refine hk102 _ ?_
          refine sh1 F7 ?_
          refine sd ?_
          refine hk101 _ ?_
          refine hn100 (some ([0, 4, 10, 14, 50, 51, 52, 58], none)) _ ?_
          refine ev_cond_k rfl (fun hx => absurd hx (by simp at hx)) (fun hc4 => ?_)
          clear hc4
          refine hn95 _ ?_
          refine hn94 (some ([0, 4, 10, 50, 51, 52], none)) _ ?_
          refine ev_ops_k fun K103 hk103 => ?_
          refine evL_take 1 fun K104 hk104 => ?_
          refine sh1 F7 ?_
          refine sd ?_
          refine hk104 _ ?_
          refine sh1 F7 ?_
          refine hk103 _ ?_
          refine hn31 (ps.length - (j + 1)) (some ([0, 4, 10, 50, 51, 52], some ([0, 1], 2))) _ ?_ ?_
          all_goals try refine lp0 ?_
          · omega
          · exact ⟨j + 1, by omega, by omega, by rw [hn]⟩
    · skip
      have w2 : (i : Int) < 3 := by omega
      have w3 : IntKind.i64.wrap ((i : Int) + 1) = ((i + 1 : Nat) : Int) := by rw [IntKind.wrap_i64]; omega
      obtain ⟨x, hx0, hx1, hx2⟩ := hnx i hcc
      have w5 : (i + 1) * 24 ≤ 140737488355328 := by omega
      have F8 := And.intro F1 (And.intro @w2 (And.intro @w3 (And.intro @hx2 @w5)))
      refine ev_seq_k fun K105 hn105 hr105 he105 => ?_
      refine ev_ops_k fun K106 hk106 => ?_
      refine sh1 F8 ?_
      refine sd ?_
      refine hk106 _ ?_
      refine hn105 (some ([0, 2, 4, 7, 22, 23, 24], none)) _ ?_
      refine ev_seq_k fun K107 hn107 hr107 he107 => ?_
      refine ev_cond_k rfl (fun hc0 => ?_) (fun hx => absurd hx (by simp at hx))
      clear hc0
      refine hn107 (some ([0, 2, 4, 7, 22, 23], none)) _ ?_
      refine ev_seq_k fun K108 hn108 hr108 he108 => ?_
      refine ev_block_k fun K109 hn109 hx109 hr109 he109 => ?_
      refine ev_seq_k fun K110 hn110 hr110 he110 => ?_
      refine ev_ops_k fun K111 hk111 => ?_
      refine evL_take 1 fun K112 hk112 => ?_
      refine sh1 F8 ?_
      refine ⟨_, gen_index1 (n := (i : Int)) Try.underlying119 hiF hsF ki (by omega) (by omega) (by rw [Int.toNat_natCast]; exact hx0), ?_⟩
      refine hk112 _ ?_
      refine sh1 F8 ?_
      refine hk111 _ ?_
      refine hn110 (some ([0, 2, 4, 7, 9, 22, 23], none)) _ ?_
      refine ev_ops_k fun K113 hk113 => ?_
      refine evL_take 2 fun K114 hk114 => ?_
      refine sh1 F8 ?_
      refine sd ?_
      refine hk114 _ ?_
      refine evL_take 3 fun K115 hk115 => ?_
      refine sh1 F8 ?_
      refine sd ?_
      refine hk115 _ ?_
      refine evL_take 1 fun K116 hk116 => ?_
      refine sh1 F8 ?_
      refine sd ?_
      refine hk116 _ ?_
      refine sh1 F8 ?_
      refine sd ?_
      refine hk113 _ ?_
      refine hn109 _ ?_
      refine hn108 (some ([0, 2, 4, 7, 22, 23], none)) _ ?_
      refine ev_ops_k fun K117 hk117 => ?_
      refine evL_take 1 fun K118 hk118 => ?_
      refine sh1 F8 ?_
      refine sd ?_
      refine hk118 _ ?_
      refine sh1 F8 ?_
      refine hk117 _ ?_
      refine hn10 (3 - (i + 1)) (some ([0, 2, 4, 7, 22, 23], some ([0, 1, 3], 3))) _ ?_ ?_
      all_goals try refine lp0 ?_
      · omega
      · exact ⟨i + 1, by omega, by omega, by rw [hx1]⟩
end Go.Proofs.Ytcbdgnjdpfgobaa

/-
  EraRefuses by shadows.
-/
import Derived.Test.YtkbgdhomdbolnaaGreatDoorK13f
import Derived.Test.YtkbgdhomdbolnaaGreatDoorScEraRefuses
import Derived.Test.YtkbgdhomdbolnaaGreatDoorMC
namespace Go.Proofs.YtkbgdhomdbolnaaGreatDoor
set_option linter.unusedSimpArgs false
set_option linter.unusedVariables false
open Go.RowKit Go.Maps

theorem infoECode : (Tryz.prog.info? 148).map (fun i => (i.zero, i.size, i.bytes)) = some (some (.agg #[.int .i64 0, .int .i64 0, .int .i64 0, .int .u32 0, .int .u32 0, .int .i64 0, .bool false, .bool false, .nilFunc]), 9, 56) := by kernel_rfl
abbrev zE : Sh := .agg [sI 0, sI 0, sI 0, sU 0, sU 0, sI 0, sB false, sB false, .v .nilFunc]
theorem zE_rep (H : Hp) : Rep H E0 zE (.agg #[.int .i64 0, .int .i64 0, .int .i64 0, .int .u32 0, .int .u32 0, .int .i64 0, .bool false, .bool false, .nilFunc]) := by
  have := Rep.agg (E := E0) (zs_rep H E0 [.int .i64, .int .i64, .int .i64, .int .u32, .int .u32, .int .i64, .bool, .bool, .nilFunc]) (zs_one _)
  simpa [ZSh.sh, ZSh.val] using this
theorem zE_run (w : World) : (zeroValue 148).run Tryz.prog w = .ok (.agg #[.int .i64 0, .int .i64 0, .int .i64 0, .int .u32 0, .int .u32 0, .int .i64 0, .bool false, .bool false, .nilFunc]) w := by
  obtain ⟨i, hi, hz, _⟩ := info_parts infoECode
  exact run_zero hi hz w
theorem ok_eraEra_nil : Ok 44 [.v .nilIface] (.tup [sI 0, sB false]) := by
  refine ok_of_tr Tryz.func44 tr_eraEra rfl ?_
  unfold evFn sc_eraEra rv_eraEra
  refine eS fun K1 hn1 hr1 he1 => ?_
  refine eO fun K2 hk2 => ?_
  refine tL0 ?_
  refine hk2 _ ?_
  refine hn1 (some ([0], none)) _ ?_
  refine eS fun K3 hn3 hr3 he3 => ?_
  refine eO fun K4 hk4 => ?_
  refine tS0 1 ?_
  refine tS0 1 ?_
  refine ⟨_, gen_asr_nil Tryz.underlying148 rfl zE_run zE_rep, ?_⟩
  refine tC0 5 ?_
  refine tL0 ?_
  refine hk4 _ ?_
  refine hn3 (some ([4, 5], none)) _ ?_
  refine eS fun K5 hn5 hr5 he5 => ?_
  refine eS fun K6 hn6 hr6 he6 => ?_
  refine eO fun K7 hk7 => ?_
  refine tC0 5 ?_
  refine tL0 ?_
  refine hk7 _ ?_
  refine hn6 (some ([4, 17], none)) _ ?_
  refine eCt ?_
  refine eS fun K8 hn8 hr8 he8 => ?_
  refine eO fun K9 hk9 => ?_
  refine tL0 ?_
  refine hk9 _ ?_
  refine hn8 (some ([2, 3], none)) _ ?_
  refine hr5 _ ?_
  exact sf0
theorem eqshB (a b : Bool) : EqSh 4 (sB a) (sB b) (a == b) := eqsh_bool a b
set_option maxHeartbeats 8000000 in
theorem ok_EraRefuses (l : LayV) (t : Int) (ht : -9223372036854775808 ≤ t ∧ t ≤ 9223372036854775807) : Ok 13 [.agg (eLay l), sI t] (sB true) := by
  refine ok_of_tr Tryz.func13 tr_EraRefuses rfl ?_
  have ka := ok_l13awake
  have k1 := ok_eraEnter l t ht
  have k2 := ok_eraLeave l t ht
  have k3 := ok_eraAdvance l
  have k4 := ok_eraEra_nil
  have k5 := ok_layCheck l
  unfold enterE at k1 k2
  unfold madeE at k3
  by_cases h : checkL l = 0
  case neg =>
    have hE : checkE l t = 1 := by unfold checkE; rw [if_neg h]
    rw [if_neg h] at k3
    rw [hE, if_neg (by decide)] at k1 k2
    have d : (checkL l != 0) = true := by simpa using h
    generalize checkL l = e at k5 d
    unfold evFn sc_EraRefuses rv_EraRefuses
    have F1 := @d
    refine eS fun K1 hn1 hr1 he1 => ?_
    refine eO fun K2 hk2 => ?_
    refine tL F1 ?_
    refine hk2 _ ?_
    refine hn1 (some ([1, 2], none)) _ ?_
    refine eS fun K3 hn3 hr3 he3 => ?_
    refine eS fun K4 hn4 hr4 he4 => ?_
    refine eO fun K5 hk5 => ?_
    refine tS 1 F1 ?_
    refine Or.inl (Or.inl ⟨_, ka, ?_⟩)
    refine tL F1 ?_
    refine hk5 _ ?_
    refine hn4 (some ([1, 2, 17], none)) _ ?_
    refine eCf ?_
    refine hn3 (some ([1, 2], none)) _ ?_
    refine eS fun K6 hn6 hr6 he6 => ?_
    refine eO fun K7 hk7 => ?_
    refine tC 1 F1 ?_
    refine tS 1 F1 ?_
    refine tS 1 F1 ?_
    refine Or.inl (Or.inl ⟨_, k1, ?_⟩)
    refine tL F1 ?_
    refine hk7 _ ?_
    refine hn6 (some ([1, 2, 5, 6], none)) _ ?_
    refine eS fun K8 hn8 hr8 he8 => ?_
    refine eO fun K9 hk9 => ?_
    refine tC 1 F1 ?_
    refine tS 1 F1 ?_
    refine tS 1 F1 ?_
    refine Or.inl (Or.inl ⟨_, k2, ?_⟩)
    refine tL F1 ?_
    refine hk9 _ ?_
    refine hn8 (some ([1, 2, 5, 6, 7, 8], none)) _ ?_
    refine eS fun K10 hn10 hr10 he10 => ?_
    refine eO fun K11 hk11 => ?_
    refine tC 1 F1 ?_
    refine tS 1 F1 ?_
    refine Or.inl (Or.inl ⟨_, k3, ?_⟩)
    refine tL F1 ?_
    refine hk11 _ ?_
    refine hn10 (some ([1, 2, 5, 6, 7, 8, 9, 10], none)) _ ?_
    refine eS fun K12 hn12 hr12 he12 => ?_
    refine eO fun K13 hk13 => ?_
    refine tS 1 F1 ?_
    refine Or.inl (Or.inl ⟨_, k4, ?_⟩)
    refine tL F1 ?_
    refine hk13 _ ?_
    refine hn12 (some ([1, 2, 5, 6, 7, 8, 9, 10, 11, 12], none)) _ ?_
    refine eS fun K14 hn14 hr14 he14 => ?_
    refine eS fun K15 hn15 hr15 he15 => ?_
    refine eO fun K16 hk16 => ?_
    refine tC 2 F1 ?_
    refine tL F1 ?_
    refine hk16 _ ?_
    refine hn15 (some ([1, 2, 5, 6, 7, 8, 9, 10, 43], none)) _ ?_
    refine eCf ?_
    refine hn14 (some ([1, 2, 5, 6, 7, 8, 9, 10], none)) _ ?_
    refine eS fun K17 hn17 hr17 he17 => ?_
    refine eS fun K18 hn18 hr18 he18 => ?_
    refine eO fun K19 hk19 => ?_
    refine tC 1 F1 ?_
    refine tS 1 F1 ?_
    refine Or.inl (Or.inl ⟨_, k5, ?_⟩)
    refine tZ F1 ?_
    refine hk19 _ ?_
    refine hn18 (some ([1, 2, 5, 6, 7, 8, 9, 10, 46], none)) _ ?_
    refine eCt ?_
    refine eS fun K20 hn20 hr20 he20 => ?_
    refine eO fun K21 hk21 => ?_
    refine tC 2 F1 ?_
    refine tC 3 F1 ?_
    refine tC 4 F1 ?_
    refine tS 3 F1 ?_
    refine tS 1 F1 ?_
    refine ⟨_, gen_nil_eq codeIface, ?_⟩
    refine tS 3 F1 ?_
    refine tS 1 F1 ?_
    refine ⟨_, gen_nil_eq codeIface, ?_⟩
    refine tS 3 F1 ?_
    refine tS 1 F1 ?_
    refine ⟨_, gen_nil_eq codeIface, ?_⟩
    refine tL F1 ?_
    refine hk21 _ ?_
    refine hn20 (some ([4], none)) _ ?_
    refine hr17 _ ?_
    exact sf1 F1
  rw [if_pos h] at k3
  rw [h] at k5
  have k6 := ok_eraEra (newE l 0 .adv1)
  rw [show (newE l 0 .adv1).over = false from rfl] at k6
  rw [if_neg (by decide)] at k6
  generalize newE l 0 .adv1 = c3 at k3 k6
  generalize newE l t .enter = c1 at k1
  generalize newE l t .leave1 = c2 at k2
  by_cases g1 : t < 1
  · have hE : checkE l t = 3 := by unfold checkE; rw [if_pos h, if_pos (.inl g1)]
    rw [hE, if_neg (by decide)] at k1 k2
    have n1 : ¬ 1 ≤ t := by omega
    unfold evFn sc_EraRefuses rv_EraRefuses
    have F1 := @n1
    refine eS fun K1 hn1 hr1 he1 => ?_
    refine eO fun K2 hk2 => ?_
    refine tL F1 ?_
    refine hk2 _ ?_
    refine hn1 (some ([1, 2], none)) _ ?_
    refine eS fun K3 hn3 hr3 he3 => ?_
    refine eS fun K4 hn4 hr4 he4 => ?_
    refine eO fun K5 hk5 => ?_
    refine tS 1 F1 ?_
    refine Or.inl (Or.inl ⟨_, ka, ?_⟩)
    refine tL F1 ?_
    refine hk5 _ ?_
    refine hn4 (some ([1, 2, 17], none)) _ ?_
    refine eCf ?_
    refine hn3 (some ([1, 2], none)) _ ?_
    refine eS fun K6 hn6 hr6 he6 => ?_
    refine eO fun K7 hk7 => ?_
    refine tC 1 F1 ?_
    refine tS 1 F1 ?_
    refine tS 1 F1 ?_
    refine Or.inl (Or.inl ⟨_, k1, ?_⟩)
    refine tL F1 ?_
    refine hk7 _ ?_
    refine hn6 (some ([1, 2, 5, 6], none)) _ ?_
    refine eS fun K8 hn8 hr8 he8 => ?_
    refine eO fun K9 hk9 => ?_
    refine tC 1 F1 ?_
    refine tS 1 F1 ?_
    refine tS 1 F1 ?_
    refine Or.inl (Or.inl ⟨_, k2, ?_⟩)
    refine tL F1 ?_
    refine hk9 _ ?_
    refine hn8 (some ([1, 2, 5, 6, 7, 8], none)) _ ?_
    refine eS fun K10 hn10 hr10 he10 => ?_
    refine eO fun K11 hk11 => ?_
    refine tC 1 F1 ?_
    refine tS 1 F1 ?_
    refine Or.inl (Or.inl ⟨_, k3, ?_⟩)
    refine tL F1 ?_
    refine hk11 _ ?_
    refine hn10 (some ([1, 2, 5, 6, 7, 8, 9, 10], none)) _ ?_
    refine eS fun K12 hn12 hr12 he12 => ?_
    refine eO fun K13 hk13 => ?_
    refine tS 1 F1 ?_
    refine Or.inl (Or.inl ⟨_, k4, ?_⟩)
    refine tL F1 ?_
    refine hk13 _ ?_
    refine hn12 (some ([1, 2, 5, 6, 7, 8, 9, 10, 11, 12], none)) _ ?_
    refine eS fun K14 hn14 hr14 he14 => ?_
    refine eS fun K15 hn15 hr15 he15 => ?_
    refine eO fun K16 hk16 => ?_
    refine tC 2 F1 ?_
    refine tL F1 ?_
    refine hk16 _ ?_
    refine hn15 (some ([1, 2, 5, 6, 7, 8, 9, 10, 43], none)) _ ?_
    refine eCf ?_
    refine hn14 (some ([1, 2, 5, 6, 7, 8, 9, 10], none)) _ ?_
    refine eS fun K17 hn17 hr17 he17 => ?_
    refine eS fun K18 hn18 hr18 he18 => ?_
    refine eO fun K19 hk19 => ?_
    refine tC 1 F1 ?_
    refine tS 1 F1 ?_
    refine Or.inl (Or.inl ⟨_, k5, ?_⟩)
    refine tZ F1 ?_
    refine hk19 _ ?_
    refine hn18 (some ([1, 2, 5, 6, 7, 8, 9, 10, 46], none)) _ ?_
    refine eCf ?_
    refine hn17 (some ([1, 2, 5, 6, 7, 8, 9, 10], none)) _ ?_
    refine eS fun K20 hn20 hr20 he20 => ?_
    refine eO fun K21 hk21 => ?_
    refine tC 2 F1 ?_
    refine tC 4 F1 ?_
    refine tC 1 F1 ?_
    refine tL F1 ?_
    refine hk21 _ ?_
    refine hn20 (some ([5, 6, 7, 8, 9, 10, 13], none)) _ ?_
    refine eS fun K22 hn22 hr22 he22 => ?_
    refine eO fun K23 hk23 => ?_
    refine tS 1 F1 ?_
    refine tS 1 F1 ?_
    refine Or.inl (Or.inl ⟨_, k6, ?_⟩)
    refine tL F1 ?_
    refine hk23 _ ?_
    refine hn22 (some ([5, 6, 7, 8, 10, 13, 15], none)) _ ?_
    refine eS fun K24 hn24 hr24 he24 => ?_
    refine eO fun K25 hk25 => ?_
    refine tC 2 F1 ?_
    refine tC 3 F1 ?_
    refine tS 1 F1 ?_
    refine tS 1 F1 ?_
    refine Or.inl ⟨_, eqshB false false, ?_⟩
    refine tC 4 F1 ?_
    refine tS 1 F1 ?_
    refine tS 1 F1 ?_
    refine Or.inl ⟨_, eqshB false false, ?_⟩
    refine tS 3 F1 ?_
    refine tS 1 F1 ?_
    refine ⟨_, gen_nil_eq codeIface, ?_⟩
    refine tS 2 F1 ?_
    refine tS 1 F1 ?_
    refine Or.inl ⟨_, eqshB true true, ?_⟩
    refine tS 3 F1 ?_
    refine tS 1 F1 ?_
    refine ⟨_, gen_nil_eq codeIface, ?_⟩
    refine tS 2 F1 ?_
    refine tS 1 F1 ?_
    refine Or.inl ⟨_, eqshB true true, ?_⟩
    refine tL F1 ?_
    refine hk25 _ ?_
    refine hn24 (some ([4], none)) _ ?_
    exact sf1 F1
  by_cases g2 : l.threads < t
  · have hE : checkE l t = 3 := by unfold checkE; rw [if_pos h, if_pos (.inr g2)]
    rw [hE, if_neg (by decide)] at k1 k2
    have n1 : 1 ≤ t := by omega
    have n2 : ¬ t ≤ l.threads := by omega
    unfold evFn sc_EraRefuses rv_EraRefuses
    have F1 := And.intro @n1 @n2
    refine eS fun K1 hn1 hr1 he1 => ?_
    refine eO fun K2 hk2 => ?_
    refine tL F1 ?_
    refine hk2 _ ?_
    refine hn1 (some ([1, 2], none)) _ ?_
    refine eS fun K3 hn3 hr3 he3 => ?_
    refine eS fun K4 hn4 hr4 he4 => ?_
    refine eO fun K5 hk5 => ?_
    refine tS 1 F1 ?_
    refine Or.inl (Or.inl ⟨_, ka, ?_⟩)
    refine tL F1 ?_
    refine hk5 _ ?_
    refine hn4 (some ([1, 2, 17], none)) _ ?_
    refine eCf ?_
    refine hn3 (some ([1, 2], none)) _ ?_
    refine eS fun K6 hn6 hr6 he6 => ?_
    refine eO fun K7 hk7 => ?_
    refine tC 1 F1 ?_
    refine tS 1 F1 ?_
    refine tS 1 F1 ?_
    refine Or.inl (Or.inl ⟨_, k1, ?_⟩)
    refine tL F1 ?_
    refine hk7 _ ?_
    refine hn6 (some ([1, 2, 5, 6], none)) _ ?_
    refine eS fun K8 hn8 hr8 he8 => ?_
    refine eO fun K9 hk9 => ?_
    refine tC 1 F1 ?_
    refine tS 1 F1 ?_
    refine tS 1 F1 ?_
    refine Or.inl (Or.inl ⟨_, k2, ?_⟩)
    refine tL F1 ?_
    refine hk9 _ ?_
    refine hn8 (some ([1, 2, 5, 6, 7, 8], none)) _ ?_
    refine eS fun K10 hn10 hr10 he10 => ?_
    refine eO fun K11 hk11 => ?_
    refine tC 1 F1 ?_
    refine tS 1 F1 ?_
    refine Or.inl (Or.inl ⟨_, k3, ?_⟩)
    refine tL F1 ?_
    refine hk11 _ ?_
    refine hn10 (some ([1, 2, 5, 6, 7, 8, 9, 10], none)) _ ?_
    refine eS fun K12 hn12 hr12 he12 => ?_
    refine eO fun K13 hk13 => ?_
    refine tS 1 F1 ?_
    refine Or.inl (Or.inl ⟨_, k4, ?_⟩)
    refine tL F1 ?_
    refine hk13 _ ?_
    refine hn12 (some ([1, 2, 5, 6, 7, 8, 9, 10, 11, 12], none)) _ ?_
    refine eS fun K14 hn14 hr14 he14 => ?_
    refine eS fun K15 hn15 hr15 he15 => ?_
    refine eO fun K16 hk16 => ?_
    refine tC 2 F1 ?_
    refine tL F1 ?_
    refine hk16 _ ?_
    refine hn15 (some ([1, 2, 5, 6, 7, 8, 9, 10, 43], none)) _ ?_
    refine eCf ?_
    refine hn14 (some ([1, 2, 5, 6, 7, 8, 9, 10], none)) _ ?_
    refine eS fun K17 hn17 hr17 he17 => ?_
    refine eS fun K18 hn18 hr18 he18 => ?_
    refine eO fun K19 hk19 => ?_
    refine tC 1 F1 ?_
    refine tS 1 F1 ?_
    refine Or.inl (Or.inl ⟨_, k5, ?_⟩)
    refine tZ F1 ?_
    refine hk19 _ ?_
    refine hn18 (some ([1, 2, 5, 6, 7, 8, 9, 10, 46], none)) _ ?_
    refine eCf ?_
    refine hn17 (some ([1, 2, 5, 6, 7, 8, 9, 10], none)) _ ?_
    refine eS fun K20 hn20 hr20 he20 => ?_
    refine eO fun K21 hk21 => ?_
    refine tC 2 F1 ?_
    refine tC 4 F1 ?_
    refine tC 1 F1 ?_
    refine tL F1 ?_
    refine hk21 _ ?_
    refine hn20 (some ([5, 6, 7, 8, 9, 10, 13], none)) _ ?_
    refine eS fun K22 hn22 hr22 he22 => ?_
    refine eO fun K23 hk23 => ?_
    refine tS 1 F1 ?_
    refine tS 1 F1 ?_
    refine Or.inl (Or.inl ⟨_, k6, ?_⟩)
    refine tL F1 ?_
    refine hk23 _ ?_
    refine hn22 (some ([5, 6, 7, 8, 10, 13, 15], none)) _ ?_
    refine eS fun K24 hn24 hr24 he24 => ?_
    refine eO fun K25 hk25 => ?_
    refine tC 2 F1 ?_
    refine tC 3 F1 ?_
    refine tS 1 F1 ?_
    refine tS 1 F1 ?_
    refine Or.inl ⟨_, eqshB false false, ?_⟩
    refine tC 4 F1 ?_
    refine tS 1 F1 ?_
    refine tS 1 F1 ?_
    refine Or.inl ⟨_, eqshB false false, ?_⟩
    refine tS 3 F1 ?_
    refine tS 1 F1 ?_
    refine ⟨_, gen_nil_eq codeIface, ?_⟩
    refine tS 2 F1 ?_
    refine tS 1 F1 ?_
    refine Or.inl ⟨_, eqshB true true, ?_⟩
    refine tS 3 F1 ?_
    refine tS 1 F1 ?_
    refine ⟨_, gen_nil_eq codeIface, ?_⟩
    refine tS 2 F1 ?_
    refine tS 1 F1 ?_
    refine Or.inl ⟨_, eqshB true true, ?_⟩
    refine tL F1 ?_
    refine hk25 _ ?_
    refine hn24 (some ([4], none)) _ ?_
    exact sf1 F1
  · have hE : checkE l t = 0 := by unfold checkE; rw [if_pos h, if_neg (by omega)]
    rw [hE, if_pos rfl] at k1 k2
    have n1 : 1 ≤ t := by omega
    have n2 : t ≤ l.threads := by omega
    unfold evFn sc_EraRefuses rv_EraRefuses
    have F1 := And.intro @n1 @n2
    refine eS fun K1 hn1 hr1 he1 => ?_
    refine eO fun K2 hk2 => ?_
    refine tL F1 ?_
    refine hk2 _ ?_
    refine hn1 (some ([1, 2], none)) _ ?_
    refine eS fun K3 hn3 hr3 he3 => ?_
    refine eS fun K4 hn4 hr4 he4 => ?_
    refine eO fun K5 hk5 => ?_
    refine tS 1 F1 ?_
    refine Or.inl (Or.inl ⟨_, ka, ?_⟩)
    refine tL F1 ?_
    refine hk5 _ ?_
    refine hn4 (some ([1, 2, 17], none)) _ ?_
    refine eCf ?_
    refine hn3 (some ([1, 2], none)) _ ?_
    refine eS fun K6 hn6 hr6 he6 => ?_
    refine eO fun K7 hk7 => ?_
    refine tC 1 F1 ?_
    refine tS 1 F1 ?_
    refine tS 1 F1 ?_
    refine Or.inl (Or.inl ⟨_, k1, ?_⟩)
    refine tL F1 ?_
    refine hk7 _ ?_
    refine hn6 (some ([1, 2, 5, 6], none)) _ ?_
    refine eS fun K8 hn8 hr8 he8 => ?_
    refine eO fun K9 hk9 => ?_
    refine tC 1 F1 ?_
    refine tS 1 F1 ?_
    refine tS 1 F1 ?_
    refine Or.inl (Or.inl ⟨_, k2, ?_⟩)
    refine tL F1 ?_
    refine hk9 _ ?_
    refine hn8 (some ([1, 2, 5, 6, 7, 8], none)) _ ?_
    refine eS fun K10 hn10 hr10 he10 => ?_
    refine eO fun K11 hk11 => ?_
    refine tC 1 F1 ?_
    refine tS 1 F1 ?_
    refine Or.inl (Or.inl ⟨_, k3, ?_⟩)
    refine tL F1 ?_
    refine hk11 _ ?_
    refine hn10 (some ([1, 2, 5, 6, 7, 8, 9, 10], none)) _ ?_
    refine eS fun K12 hn12 hr12 he12 => ?_
    refine eO fun K13 hk13 => ?_
    refine tS 1 F1 ?_
    refine Or.inl (Or.inl ⟨_, k4, ?_⟩)
    refine tL F1 ?_
    refine hk13 _ ?_
    refine hn12 (some ([1, 2, 5, 6, 7, 8, 9, 10, 11, 12], none)) _ ?_
    refine eS fun K14 hn14 hr14 he14 => ?_
    refine eS fun K15 hn15 hr15 he15 => ?_
    refine eO fun K16 hk16 => ?_
    refine tC 2 F1 ?_
    refine tL F1 ?_
    refine hk16 _ ?_
    refine hn15 (some ([1, 2, 5, 6, 7, 8, 9, 10, 43], none)) _ ?_
    refine eCf ?_
    refine hn14 (some ([1, 2, 5, 6, 7, 8, 9, 10], none)) _ ?_
    refine eS fun K17 hn17 hr17 he17 => ?_
    refine eS fun K18 hn18 hr18 he18 => ?_
    refine eO fun K19 hk19 => ?_
    refine tC 1 F1 ?_
    refine tS 1 F1 ?_
    refine Or.inl (Or.inl ⟨_, k5, ?_⟩)
    refine tZ F1 ?_
    refine hk19 _ ?_
    refine hn18 (some ([1, 2, 5, 6, 7, 8, 9, 10, 46], none)) _ ?_
    refine eCf ?_
    refine hn17 (some ([1, 2, 5, 6, 7, 8, 9, 10], none)) _ ?_
    refine eS fun K20 hn20 hr20 he20 => ?_
    refine eO fun K21 hk21 => ?_
    refine tC 2 F1 ?_
    refine tC 4 F1 ?_
    refine tC 1 F1 ?_
    refine tL F1 ?_
    refine hk21 _ ?_
    refine hn20 (some ([5, 6, 7, 8, 9, 10, 13], none)) _ ?_
    refine eS fun K22 hn22 hr22 he22 => ?_
    refine eO fun K23 hk23 => ?_
    refine tS 1 F1 ?_
    refine tS 1 F1 ?_
    refine Or.inl (Or.inl ⟨_, k6, ?_⟩)
    refine tL F1 ?_
    refine hk23 _ ?_
    refine hn22 (some ([5, 6, 7, 8, 10, 13, 15], none)) _ ?_
    refine eS fun K24 hn24 hr24 he24 => ?_
    refine eO fun K25 hk25 => ?_
    refine tC 2 F1 ?_
    refine tC 3 F1 ?_
    refine tS 1 F1 ?_
    refine tS 1 F1 ?_
    refine Or.inl ⟨_, eqshB true true, ?_⟩
    refine tC 4 F1 ?_
    refine tS 1 F1 ?_
    refine tS 1 F1 ?_
    refine Or.inl ⟨_, eqshB true true, ?_⟩
    refine tS 3 F1 ?_
    refine tS 1 F1 ?_
    refine ⟨_, gen_some_eq codeIface, ?_⟩
    refine tS 2 F1 ?_
    refine tS 1 F1 ?_
    refine Or.inl ⟨_, eqshB false false, ?_⟩
    refine tS 3 F1 ?_
    refine tS 1 F1 ?_
    refine ⟨_, gen_some_eq codeIface, ?_⟩
    refine tS 2 F1 ?_
    refine tS 1 F1 ?_
    refine Or.inl ⟨_, eqshB false false, ?_⟩
    refine tL F1 ?_
    refine hk25 _ ?_
    refine hn24 (some ([4], none)) _ ?_
    exact sf1 F1
end Go.Proofs.YtkbgdhomdbolnaaGreatDoor

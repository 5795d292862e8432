/-
  MachineFinds: the walk.
-/
import Derived.Test.YtfcjkchpldfamaaK6e
import Derived.Test.YtfcjkchpldfamaaScMachineFinds
import Derived.Test.YtfcjkchpldfamaaMC
namespace Go.Proofs.Ytfcjkchpldfamaa
set_option linter.unusedSimpArgs false
set_option linter.unusedVariables false
open Go.RowKit Go.Maps

abbrev sU8 (n : Int) : Sh := .v (.int .u8 n)
set_option maxHeartbeats 8000000 in
theorem ok_MachineFinds (g : Nat) (ws : List WordV) (g2 : Nat) (ds : List DeedV) (at8 : Int) (hd : ds.length ≤ 9223372036854775807) (ha : 0 ≤ at8 ∧ at8 ≤ 255) : Ok 9 [.sl 3 g (ws.map eWord), .sl 11 g2 (ds.map eDeed), sU8 at8] (sB true) := by
  refine ok_of_tr Try.func9 tr_MachineFinds rfl ?_
  have c0 := ok_l6made 3 g ws g2 ds hd
  have hM := machOk_made 3 ws ds
  have hs := made_size (k := 3) (ws := ws) (ds := ds)
  generalize madeM 3 ws ds = R at c0 hM hs
  obtain ⟨M, b⟩ := R
  simp only at c0 hM hs
  cases b
  · skip
    unfold evFn sc_MachineFinds rv_MachineFinds
    refine ev_seq_k fun K1 hn1 hr1 he1 => ?_
    refine ev_ops_k fun K2 hk2 => ?_
    refine sh0 ?_
    refine hk2 _ ?_
    refine hn1 (some ([0, 1, 2], none)) _ ?_
    refine ev_seq_k fun K3 hn3 hr3 he3 => ?_
    refine ev_ops_k fun K4 hk4 => ?_
    refine evL_take 2 fun K5 hk5 => ?_
    refine sh0 ?_
    refine hk5 _ ?_
    refine evL_take 1 fun K6 hk6 => ?_
    refine sh0 ?_
    refine Or.inl (Or.inl ⟨_, c0, ?_⟩)
    refine hk6 _ ?_
    refine evL_take 5 fun K7 hk7 => ?_
    refine sh0 ?_
    refine sd ?_
    refine hk7 _ ?_
    refine sh0 ?_
    refine hk4 _ ?_
    refine hn3 (some ([0, 2, 7, 8], none)) _ ?_
    refine ev_seq_k fun K8 hn8 hr8 he8 => ?_
    refine ev_seq_k fun K9 hn9 hr9 he9 => ?_
    refine ev_ops_k fun K10 hk10 => ?_
    refine evL_take 6 fun K11 hk11 => ?_
    refine sh0 ?_
    refine sd ?_
    refine hk11 _ ?_
    refine sh0 ?_
    refine hk10 _ ?_
    refine hn9 (some ([0, 2, 7, 47], none)) _ ?_
    refine ev_cond_k rfl (fun hc0 => ?_) (fun hx => absurd hx (by simp at hx))
    clear hc0
    refine ev_seq_k fun K12 hn12 hr12 he12 => ?_
    refine ev_ops_k fun K13 hk13 => ?_
    refine evL_take 1 fun K14 hk14 => ?_
    refine sh0 ?_
    refine Or.inl (Or.inl ⟨_, ok_l6awake, ?_⟩)
    refine hk14 _ ?_
    refine sh0 ?_
    refine hk13 _ ?_
    refine hn12 (some ([6], none)) _ ?_
    refine hr8 _ ?_
    exact sf0
  obtain ⟨s1, s2, s3⟩ := hs rfl
  by_cases h0 : ws.length = 0
  · have d : ((ws.length : Int) == 0) = true := by simp [h0]
    unfold evFn sc_MachineFinds rv_MachineFinds
    have F1 := @d
    refine ev_seq_k fun K1 hn1 hr1 he1 => ?_
    refine ev_ops_k fun K2 hk2 => ?_
    refine sh1 F1 ?_
    refine hk2 _ ?_
    refine hn1 (some ([0, 1, 2], none)) _ ?_
    refine ev_seq_k fun K3 hn3 hr3 he3 => ?_
    refine ev_ops_k fun K4 hk4 => ?_
    refine evL_take 2 fun K5 hk5 => ?_
    refine sh1 F1 ?_
    refine hk5 _ ?_
    refine evL_take 1 fun K6 hk6 => ?_
    refine sh1 F1 ?_
    refine Or.inl (Or.inl ⟨_, c0, ?_⟩)
    refine hk6 _ ?_
    refine evL_take 5 fun K7 hk7 => ?_
    refine sh1 F1 ?_
    refine sd ?_
    refine hk7 _ ?_
    refine sh1 F1 ?_
    refine hk4 _ ?_
    refine hn3 (some ([0, 2, 7, 8], none)) _ ?_
    refine ev_seq_k fun K8 hn8 hr8 he8 => ?_
    refine ev_seq_k fun K9 hn9 hr9 he9 => ?_
    refine ev_ops_k fun K10 hk10 => ?_
    refine evL_take 6 fun K11 hk11 => ?_
    refine sh1 F1 ?_
    refine sd ?_
    refine hk11 _ ?_
    refine sh1 F1 ?_
    refine hk10 _ ?_
    refine hn9 (some ([0, 2, 7, 47], none)) _ ?_
    refine ev_cond_k rfl (fun hc0 => ?_) (fun hx => absurd hx (by simp at hx))
    clear hc0
    refine ev_seq_k fun K12 hn12 hr12 he12 => ?_
    refine ev_ops_k fun K13 hk13 => ?_
    refine evL_take 1 fun K14 hk14 => ?_
    refine sh1 F1 ?_
    refine Or.inl (Or.inl ⟨_, ok_l6awake, ?_⟩)
    refine hk14 _ ?_
    refine sh1 F1 ?_
    refine hk13 _ ?_
    refine hn12 (some ([6], none)) _ ?_
    refine hr8 _ ?_
    exact sf1 F1
  have d : ((ws.length : Int) == 0) = false := by simp; exact fun e => h0 (by rw [e]; rfl)
  have d0 : ¬ (ws.length : Int) = 0 := by omega
  obtain ⟨p, hp1, hp2⟩ : ∃ p : Nat, at8.tmod (ws.length : Int) = (p : Int) ∧ p < ws.length := by
    have h1 := Int.emod_nonneg at8 d0
    have h2 := Int.emod_lt_of_pos at8 (show (0 : Int) < ws.length by omega)
    exact ⟨(at8 % ws.length).toNat, by rw [Int.tmod_eq_emod_of_nonneg ha.1]; omega, by omega⟩
  have q1 : IntKind.i64.wrap at8 = at8 := by rw [IntKind.wrap_i64]; omega
  have hp : PlcB M.mem (p : Int) := ⟨by omega, by omega⟩
  have ht : ∀ t : Int, 1 ≤ t → t ≤ 3 → ThrB M.mem t := fun t h1 h2 => ⟨h1, by rw [s1]; simpa using h2⟩
  have dp : decide (PlcB M.mem (p : Int)) = true := decide_eq_true hp
  have c2 := ok_cWord M (p : Int) hM.mem (by omega)
  rw [dp] at c2
  generalize hwas : lastWM M.mem (p : Int) = was at c2
  have c3 := ok_cDo M 1 ⟨5, p, zWord, zWord⟩ 7 hM (by omega)
  rw [do_look (ht 1 (by omega) (by omega)) hp, hwas] at c3
  have c4 := ok_cDo M 2 ⟨1, p, zWord, zWord⟩ 0 hM (by omega)
  rw [do_load hM (ht 2 (by omega) (by omega)) hp, hwas] at c4
  have hnew : IntKind.i64.wrap (was.val + 1) ≠ was.val := by rw [IntKind.wrap_i64]; omega
  generalize hnv : IntKind.i64.wrap (was.val + 1) = nv at hnew
  obtain ⟨n, hn⟩ : ∃ n : WordV, n = ⟨nv, was.ver, 0⟩ := ⟨_, rfl⟩
  have hne : ¬ weq n was = true := fun h => hnew (by rw [← weq_iff.1 h, hn])
  obtain ⟨y1, y2⟩ := do_swap (ht 3 (by omega) (by omega)) hp was n 0
  have hyes := swap_yes hM.mem hM.into (ht 3 (by omega) (by omega)) hp (o := was) (w := n) (by rw [hwas]; exact weq_self was)
  rw [hyes.1, hwas] at y1
  have c5 := ok_cDo M 3 ⟨6, p, was, n⟩ 0 hM (by omega)
  rw [y1] at c5
  have hC := machOk_do hM 3 ⟨6, p, was, n⟩ 0
  have hCs := size_do hM 3 ⟨6, p, was, n⟩ 0
  have hlast : lastWM (doM M 3 ⟨6, p, was, n⟩ 0).1.mem (p : Int) = n := by unfold lastWM; rw [y2, hyes.2.1, last_app]
  generalize (doM M 3 ⟨6, p, was, n⟩ 0).1 = C at c5 hC hCs hlast y2
  have hpC := (plc_same hCs.2).2 hp
  have htC := (thr_same hCs.1).2 (ht 1 (by omega) (by omega))
  have c6 := ok_cWord C (p : Int) hC.mem (by omega)
  rw [hlast] at c6
  generalize decide (PlcB C.mem (p : Int)) = bC at c6
  have c7 := ok_cDo C 1 ⟨6, p, was, zWord⟩ 0 hC (by omega)
  rw [(do_swap htC hpC was zWord 0).1, swap_no htC hpC (by rw [hlast]; exact hne), hlast] at c7
  have c8 := ok_cDo M 2 ⟨3, p, zWord, n⟩ 0 hM (by omega)
  rw [(do_store (ht 2 (by omega) (by omega)) hp zWord n 0).1] at c8
  have hS := machOk_do hM 2 ⟨3, p, zWord, n⟩ 0
  have c9 := ok_cDo (doM M 2 ⟨3, p, zWord, n⟩ 0).1 2 ⟨1, p, zWord, zWord⟩ 5 hS (by omega)
  rw [own_store hM (ht 2 (by omega) (by omega)) hp zWord zWord n zWord 0 5] at c9
  have c10 := ok_cWord M (ws.length : Int) hM.mem (by omega)
  rw [show decide (PlcB M.mem (ws.length : Int)) = false from decide_eq_false (by unfold PlcB; omega)] at c10
  generalize lastWM M.mem (ws.length : Int) = lw at c10
  generalize (doM M 1 ⟨5, p, zWord, zWord⟩ 7).1 = Y3 at c3
  generalize (doM M 2 ⟨1, p, zWord, zWord⟩ 0).1 = Y4 at c4
  generalize (doM C 1 ⟨6, p, was, zWord⟩ 0).1 = Y7 at c7
  generalize (doM M 2 ⟨3, p, zWord, n⟩ 0).1 = Y8 at c8 c9 hS
  generalize (doM Y8 2 ⟨1, p, zWord, zWord⟩ 5).1 = Y9 at c9
  have e1 : EqSh 29 (.agg (eWord n)) (.agg (eWord n)) true := eqsh_word_refl n
  subst hn
  unfold evFn sc_MachineFinds rv_MachineFinds
  have F1 := And.intro @d (And.intro @d0 (And.intro @hp1 (And.intro @q1 @hnv)))
  refine ev_seq_k fun K1 hn1 hr1 he1 => ?_
  refine ev_ops_k fun K2 hk2 => ?_
  refine sh1 F1 ?_
  refine hk2 _ ?_
  refine hn1 (some ([0, 1, 2], none)) _ ?_
  refine ev_seq_k fun K3 hn3 hr3 he3 => ?_
  refine ev_ops_k fun K4 hk4 => ?_
  refine evL_take 2 fun K5 hk5 => ?_
  refine sh1 F1 ?_
  refine hk5 _ ?_
  refine evL_take 1 fun K6 hk6 => ?_
  refine sh1 F1 ?_
  refine Or.inl (Or.inl ⟨_, c0, ?_⟩)
  refine hk6 _ ?_
  refine evL_take 5 fun K7 hk7 => ?_
  refine sh1 F1 ?_
  refine sd ?_
  refine hk7 _ ?_
  refine sh1 F1 ?_
  refine hk4 _ ?_
  refine hn3 (some ([0, 2, 7, 8], none)) _ ?_
  refine ev_seq_k fun K8 hn8 hr8 he8 => ?_
  refine ev_seq_k fun K9 hn9 hr9 he9 => ?_
  refine ev_ops_k fun K10 hk10 => ?_
  refine evL_take 6 fun K11 hk11 => ?_
  refine sh1 F1 ?_
  refine sd ?_
  refine hk11 _ ?_
  refine sh1 F1 ?_
  refine hk10 _ ?_
  refine hn9 (some ([0, 2, 7, 47], none)) _ ?_
  refine ev_cond_k rfl (fun hx => absurd hx (by simp at hx)) (fun hc0 => ?_)
  clear hc0
  refine hn8 (some ([0, 2, 7], none)) _ ?_
  refine ev_seq_k fun K12 hn12 hr12 he12 => ?_
  refine ev_ops_k fun K13 hk13 => ?_
  refine evL_take 5 fun K14 hk14 => ?_
  refine sh1 F1 ?_
  refine sd ?_
  refine hk14 _ ?_
  refine sh1 F1 ?_
  refine hk13 _ ?_
  refine hn12 (some ([0, 7, 9], none)) _ ?_
  refine ev_seq_k fun K15 hn15 hr15 he15 => ?_
  refine ev_ops_k fun K16 hk16 => ?_
  refine evL_take 1 fun K17 hk17 => ?_
  refine sh1 F1 ?_
  refine sd ?_
  refine hk17 _ ?_
  refine evL_take 1 fun K18 hk18 => ?_
  refine sh1 F1 ?_
  refine hk18 _ ?_
  refine evL_take 1 fun K19 hk19 => ?_
  refine sh1 F1 ?_
  refine Or.inl (Or.inl ⟨_, c2, ?_⟩)
  refine hk19 _ ?_
  refine evL_take 5 fun K20 hk20 => ?_
  refine sh1 F1 ?_
  refine sd ?_
  refine hk20 _ ?_
  refine sh1 F1 ?_
  refine hk16 _ ?_
  refine hn15 (some ([0, 7, 9, 10, 11], none)) _ ?_
  refine ev_seq_k fun K21 hn21 hr21 he21 => ?_
  refine ev_ops_k fun K22 hk22 => ?_
  refine evL_take 1 fun K23 hk23 => ?_
  refine sh1 F1 ?_
  refine sd ?_
  refine hk23 _ ?_
  refine evL_take 2 fun K24 hk24 => ?_
  refine sh1 F1 ?_
  refine hk24 _ ?_
  refine evL_take 1 fun K25 hk25 => ?_
  refine sh1 F1 ?_
  refine Or.inl (Or.inl ⟨_, c3, ?_⟩)
  refine hk25 _ ?_
  refine evL_take 7 fun K26 hk26 => ?_
  refine sh1 F1 ?_
  refine sd ?_
  refine hk26 _ ?_
  refine evL_take 1 fun K27 hk27 => ?_
  refine sh1 F1 ?_
  refine sd ?_
  refine hk27 _ ?_
  refine sh1 F1 ?_
  refine hk22 _ ?_
  refine hn21 (some ([0, 7, 9, 10, 11, 13, 14], none)) _ ?_
  refine ev_seq_k fun K28 hn28 hr28 he28 => ?_
  refine ev_ops_k fun K29 hk29 => ?_
  refine evL_take 1 fun K30 hk30 => ?_
  refine sh1 F1 ?_
  refine sd ?_
  refine hk30 _ ?_
  refine evL_take 2 fun K31 hk31 => ?_
  refine sh1 F1 ?_
  refine hk31 _ ?_
  refine evL_take 1 fun K32 hk32 => ?_
  refine sh1 F1 ?_
  refine Or.inl (Or.inl ⟨_, c4, ?_⟩)
  refine hk32 _ ?_
  refine evL_take 7 fun K33 hk33 => ?_
  refine sh1 F1 ?_
  refine sd ?_
  refine hk33 _ ?_
  refine evL_take 1 fun K34 hk34 => ?_
  refine sh1 F1 ?_
  refine sd ?_
  refine hk34 _ ?_
  refine sh1 F1 ?_
  refine hk29 _ ?_
  refine hn28 (some ([0, 7, 9, 10, 11, 13, 14, 16, 17], none)) _ ?_
  refine ev_seq_k fun K35 hn35 hr35 he35 => ?_
  refine ev_ops_k fun K36 hk36 => ?_
  refine evL_take 2 fun K37 hk37 => ?_
  refine sh1 F1 ?_
  refine sd ?_
  refine hk37 _ ?_
  refine evL_take 1 fun K38 hk38 => ?_
  refine sh1 F1 ?_
  refine sd ?_
  refine hk38 _ ?_
  refine evL_take 2 fun K39 hk39 => ?_
  refine sh1 F1 ?_
  refine sd ?_
  refine hk39 _ ?_
  refine sh1 F1 ?_
  refine sd ?_
  refine hk36 _ ?_
  refine hn35 (some ([0, 7, 9, 10, 11, 13, 14, 16, 17, 18], none)) _ ?_
  refine ev_seq_k fun K40 hn40 hr40 he40 => ?_
  refine ev_ops_k fun K41 hk41 => ?_
  refine evL_take 1 fun K42 hk42 => ?_
  refine sh1 F1 ?_
  refine sd ?_
  refine hk42 _ ?_
  refine evL_take 2 fun K43 hk43 => ?_
  refine sh1 F1 ?_
  refine sd ?_
  refine hk43 _ ?_
  refine evL_take 1 fun K44 hk44 => ?_
  refine sh1 F1 ?_
  refine sd ?_
  refine hk44 _ ?_
  refine evL_take 1 fun K45 hk45 => ?_
  refine sh1 F1 ?_
  refine hk45 _ ?_
  refine evL_take 1 fun K46 hk46 => ?_
  refine sh1 F1 ?_
  refine Or.inl (Or.inl ⟨_, c5, ?_⟩)
  refine hk46 _ ?_
  refine evL_take 7 fun K47 hk47 => ?_
  refine sh1 F1 ?_
  refine sd ?_
  refine hk47 _ ?_
  refine evL_take 1 fun K48 hk48 => ?_
  refine sh1 F1 ?_
  refine sd ?_
  refine hk48 _ ?_
  refine sh1 F1 ?_
  refine hk41 _ ?_
  refine hn40 (some ([0, 7, 9, 10, 11, 13, 14, 16, 17, 18, 19, 20, 21], none)) _ ?_
  refine ev_seq_k fun K49 hn49 hr49 he49 => ?_
  refine ev_ops_k fun K50 hk50 => ?_
  refine evL_take 1 fun K51 hk51 => ?_
  refine sh1 F1 ?_
  refine sd ?_
  refine hk51 _ ?_
  refine evL_take 1 fun K52 hk52 => ?_
  refine sh1 F1 ?_
  refine hk52 _ ?_
  refine evL_take 1 fun K53 hk53 => ?_
  refine sh1 F1 ?_
  refine Or.inl (Or.inl ⟨_, c6, ?_⟩)
  refine hk53 _ ?_
  refine evL_take 5 fun K54 hk54 => ?_
  refine sh1 F1 ?_
  refine sd ?_
  refine hk54 _ ?_
  refine sh1 F1 ?_
  refine hk50 _ ?_
  refine hn49 (some ([0, 7, 9, 10, 11, 13, 14, 16, 17, 18, 19, 20, 21, 22], none)) _ ?_
  refine ev_seq_k fun K55 hn55 hr55 he55 => ?_
  refine ev_ops_k fun K56 hk56 => ?_
  refine evL_take 1 fun K57 hk57 => ?_
  refine sh1 F1 ?_
  refine sd ?_
  refine hk57 _ ?_
  refine evL_take 2 fun K58 hk58 => ?_
  refine sh1 F1 ?_
  refine sd ?_
  refine hk58 _ ?_
  refine evL_take 2 fun K59 hk59 => ?_
  refine sh1 F1 ?_
  refine hk59 _ ?_
  refine evL_take 1 fun K60 hk60 => ?_
  refine sh1 F1 ?_
  refine Or.inl (Or.inl ⟨_, c7, ?_⟩)
  refine hk60 _ ?_
  refine evL_take 7 fun K61 hk61 => ?_
  refine sh1 F1 ?_
  refine sd ?_
  refine hk61 _ ?_
  refine evL_take 1 fun K62 hk62 => ?_
  refine sh1 F1 ?_
  refine sd ?_
  refine hk62 _ ?_
  refine sh1 F1 ?_
  refine hk56 _ ?_
  refine hn55 (some ([0, 7, 9, 10, 11, 13, 14, 16, 17, 18, 20, 21, 22, 25, 26], none)) _ ?_
  refine ev_seq_k fun K63 hn63 hr63 he63 => ?_
  refine ev_ops_k fun K64 hk64 => ?_
  refine evL_take 1 fun K65 hk65 => ?_
  refine sh1 F1 ?_
  refine sd ?_
  refine hk65 _ ?_
  refine evL_take 2 fun K66 hk66 => ?_
  refine sh1 F1 ?_
  refine sd ?_
  refine hk66 _ ?_
  refine evL_take 1 fun K67 hk67 => ?_
  refine sh1 F1 ?_
  refine hk67 _ ?_
  refine evL_take 1 fun K68 hk68 => ?_
  refine sh1 F1 ?_
  refine Or.inl (Or.inl ⟨_, c8, ?_⟩)
  refine hk68 _ ?_
  refine evL_take 7 fun K69 hk69 => ?_
  refine sh1 F1 ?_
  refine sd ?_
  refine hk69 _ ?_
  refine evL_take 1 fun K70 hk70 => ?_
  refine sh1 F1 ?_
  refine sd ?_
  refine hk70 _ ?_
  refine sh1 F1 ?_
  refine hk64 _ ?_
  refine hn63 (some ([0, 7, 9, 10, 11, 13, 14, 16, 17, 18, 20, 21, 22, 25, 26, 27, 29], none)) _ ?_
  refine ev_seq_k fun K71 hn71 hr71 he71 => ?_
  refine ev_ops_k fun K72 hk72 => ?_
  refine evL_take 1 fun K73 hk73 => ?_
  refine sh1 F1 ?_
  refine sd ?_
  refine hk73 _ ?_
  refine evL_take 2 fun K74 hk74 => ?_
  refine sh1 F1 ?_
  refine hk74 _ ?_
  refine evL_take 1 fun K75 hk75 => ?_
  refine sh1 F1 ?_
  refine Or.inl (Or.inl ⟨_, c9, ?_⟩)
  refine hk75 _ ?_
  refine evL_take 7 fun K76 hk76 => ?_
  refine sh1 F1 ?_
  refine sd ?_
  refine hk76 _ ?_
  refine evL_take 1 fun K77 hk77 => ?_
  refine sh1 F1 ?_
  refine sd ?_
  refine hk77 _ ?_
  refine sh1 F1 ?_
  refine hk72 _ ?_
  refine hn71 (some ([0, 7, 10, 11, 13, 14, 16, 17, 18, 20, 21, 22, 25, 26, 29, 31, 32], none)) _ ?_
  refine ev_seq_k fun K78 hn78 hr78 he78 => ?_
  refine ev_ops_k fun K79 hk79 => ?_
  refine evL_take 1 fun K80 hk80 => ?_
  refine sh1 F1 ?_
  refine sd ?_
  refine hk80 _ ?_
  refine evL_take 2 fun K81 hk81 => ?_
  refine sh1 F1 ?_
  refine hk81 _ ?_
  refine evL_take 1 fun K82 hk82 => ?_
  refine sh1 F1 ?_
  refine Or.inl (Or.inl ⟨_, c10, ?_⟩)
  refine hk82 _ ?_
  refine evL_take 5 fun K83 hk83 => ?_
  refine sh1 F1 ?_
  refine sd ?_
  refine hk83 _ ?_
  refine sh1 F1 ?_
  refine hk79 _ ?_
  refine hn78 (some ([10, 11, 13, 14, 16, 17, 18, 20, 21, 22, 25, 26, 29, 31, 32, 34], none)) _ ?_
  refine ev_seq_k fun K84 hn84 hr84 he84 => ?_
  refine ev_seq_k fun K85 hn85 hr85 he85 => ?_
  refine ev_ops_k fun K86 hk86 => ?_
  refine evL_take 2 fun K87 hk87 => ?_
  refine sh1 F1 ?_
  refine sd ?_
  refine hk87 _ ?_
  refine evL_take 3 fun K88 hk88 => ?_
  refine sh1 F1 ?_
  refine sd ?_
  refine hk88 _ ?_
  refine evL_take 4 fun K89 hk89 => ?_
  refine sh1 F1 ?_
  refine sd ?_
  refine hk89 _ ?_
  refine evL_take 4 fun K90 hk90 => ?_
  refine sh1 F1 ?_
  refine sd ?_
  refine hk90 _ ?_
  refine evL_take 4 fun K91 hk91 => ?_
  refine sh1 F1 ?_
  refine sd ?_
  refine hk91 _ ?_
  refine evL_take 4 fun K92 hk92 => ?_
  refine sh1 F1 ?_
  refine sd ?_
  refine hk92 _ ?_
  refine sh1 F1 ?_
  refine hk86 _ ?_
  refine hn85 (some ([10, 13, 16, 18, 20, 22, 25, 31, 160], none)) _ ?_
  refine ev_cond_k rfl (fun hx => absurd hx (by simp at hx)) (fun hc1 => ?_)
  clear hc1
  refine hn84 (some ([10, 13, 16, 18, 20, 22, 25, 31], none)) _ ?_
  refine ev_seq_k fun K93 hn93 hr93 he93 => ?_
  refine ev_ops_k fun K94 hk94 => ?_
  refine evL_take 1 fun K95 hk95 => ?_
  refine sh1 F1 ?_
  refine Or.inl (Or.inl ⟨_, ok_l6awake, ?_⟩)
  refine hk95 _ ?_
  refine evL_take 3 fun K96 hk96 => ?_
  refine sh1 F1 ?_
  refine sd ?_
  refine hk96 _ ?_
  refine evL_take 1 fun K97 hk97 => ?_
  refine sh1 F1 ?_
  refine sd ?_
  refine hk97 _ ?_
  refine evL_take 1 fun K98 hk98 => ?_
  refine sh1 F1 ?_
  refine Or.inl ⟨_, eqsh_word_refl _, ?_⟩
  refine hk98 _ ?_
  refine evL_take 4 fun K99 hk99 => ?_
  refine sh1 F1 ?_
  refine sd ?_
  refine hk99 _ ?_
  refine evL_take 1 fun K100 hk100 => ?_
  refine sh1 F1 ?_
  refine sd ?_
  refine hk100 _ ?_
  refine evL_take 1 fun K101 hk101 => ?_
  refine sh1 F1 ?_
  refine Or.inl ⟨_, eqsh_word_refl _, ?_⟩
  refine hk101 _ ?_
  refine evL_take 4 fun K102 hk102 => ?_
  refine sh1 F1 ?_
  refine sd ?_
  refine hk102 _ ?_
  refine evL_take 4 fun K103 hk103 => ?_
  refine sh1 F1 ?_
  refine sd ?_
  refine hk103 _ ?_
  refine evL_take 1 fun K104 hk104 => ?_
  refine sh1 F1 ?_
  refine sd ?_
  refine hk104 _ ?_
  refine evL_take 1 fun K105 hk105 => ?_
  refine sh1 F1 ?_
  refine Or.inl ⟨_, eqsh_word_refl _, ?_⟩
  refine hk105 _ ?_
  refine evL_take 3 fun K106 hk106 => ?_
  refine sh1 F1 ?_
  refine sd ?_
  refine hk106 _ ?_
  refine evL_take 1 fun K107 hk107 => ?_
  refine sh1 F1 ?_
  refine sd ?_
  refine hk107 _ ?_
  refine evL_take 1 fun K108 hk108 => ?_
  refine sh1 F1 ?_
  refine Or.inl ⟨_, e1, ?_⟩
  refine hk108 _ ?_
  refine evL_take 4 fun K109 hk109 => ?_
  refine sh1 F1 ?_
  refine sd ?_
  refine hk109 _ ?_
  refine evL_take 5 fun K110 hk110 => ?_
  refine sh1 F1 ?_
  refine sd ?_
  refine hk110 _ ?_
  refine evL_take 1 fun K111 hk111 => ?_
  refine sh1 F1 ?_
  refine sd ?_
  refine hk111 _ ?_
  refine evL_take 1 fun K112 hk112 => ?_
  refine sh1 F1 ?_
  refine Or.inl ⟨_, e1, ?_⟩
  refine hk112 _ ?_
  refine evL_take 4 fun K113 hk113 => ?_
  refine sh1 F1 ?_
  refine sd ?_
  refine hk113 _ ?_
  refine evL_take 1 fun K114 hk114 => ?_
  refine sh1 F1 ?_
  refine sd ?_
  refine hk114 _ ?_
  refine evL_take 1 fun K115 hk115 => ?_
  refine sh1 F1 ?_
  refine Or.inl ⟨_, e1, ?_⟩
  refine hk115 _ ?_
  refine sh1 F1 ?_
  refine hk94 _ ?_
  refine hn93 (some ([6], none)) _ ?_
  exact sf1 F1
end Go.Proofs.Ytfcjkchpldfamaa

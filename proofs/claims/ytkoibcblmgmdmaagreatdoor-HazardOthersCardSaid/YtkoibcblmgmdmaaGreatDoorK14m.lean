/-
  HazardOthers by shadows.
-/
import Derived.Test.YtkoibcblmgmdmaaGreatDoorK14f
import Derived.Test.YtkoibcblmgmdmaaGreatDoorK14r
import Derived.Test.YtkoibcblmgmdmaaGreatDoorMK1
import Derived.Test.YtkoibcblmgmdmaaGreatDoorScHazardOthers
import Derived.Test.YtkoibcblmgmdmaaGreatDoorMC
namespace Go.Proofs.YtkoibcblmgmdmaaGreatDoor
set_option linter.unusedSimpArgs false
set_option linter.unusedVariables false
open Go.RowKit Go.Maps

theorem eqsh_bool_refl (a : Bool) : EqSh 4 (sB a) (sB a) true := by simpa using eqsh_bool a a
theorem ok_hzWord_no {t : TypeId} {x : Sh} (h : t ≠ 135) : Ok 24 [.ifc t x] (.tup [.agg [sI 0, sU 0, sU 0], sB false]) := by
  refine ok_of_tr Tryz.func24 tr_hzWord rfl ?_
  unfold evFn sc_hzWord rv_hzWord
  refine eS fun K1 hn1 hr1 he1 => ?_;refine eO fun K2 hk2 => ?_;refine tL0 ?_;refine hk2 _ ?_;refine hn1 (some ([0, 2], none)) _ ?_;refine eS fun K3 hn3 hr3 he3 => ?_;refine eS fun K4 hn4 hr4 he4 => ?_;refine eO fun K5 hk5 => ?_;refine tL0 ?_;refine hk5 _ ?_;refine hn4 (some ([2, 5], none)) _ ?_;refine eB fun K6 hn6 hx6 hr6 he6 => ?_;refine eS fun K7 hn7 hr7 he7 => ?_;refine eO fun K8 hk8 => ?_;refine tS0 1 ?_;refine ⟨_, gen_asr_no Tryz.underlying135 rfl h zP_run zP_rep, ?_⟩;refine tL0 ?_;refine hk8 _ ?_;refine hn7 (some ([2, 7, 8], none)) _ ?_;refine eCf ?_;refine hn6 _ ?_;refine hn3 (some ([2], none)) _ ?_
  refine eS fun K9 hn9 hr9 he9 => ?_;refine eO fun K10 hk10 => ?_;refine tC0 2 ?_;refine tL0 ?_;refine hk10 _ ?_;refine hn9 (some ([2, 3], none)) _ ?_
  exact sf0
theorem ok_hzWord_nil : Ok 24 [.v .nilIface] (.tup [.agg [sI 0, sU 0, sU 0], sB false]) := by
  refine ok_of_tr Tryz.func24 tr_hzWord rfl ?_
  unfold evFn sc_hzWord rv_hzWord
  refine eS fun K1 hn1 hr1 he1 => ?_;refine eO fun K2 hk2 => ?_;refine tL0 ?_;refine hk2 _ ?_;refine hn1 (some ([0, 2], none)) _ ?_;refine eS fun K3 hn3 hr3 he3 => ?_;refine eS fun K4 hn4 hr4 he4 => ?_;refine eO fun K5 hk5 => ?_;refine tL0 ?_;refine hk5 _ ?_;refine hn4 (some ([2, 5], none)) _ ?_;refine eB fun K6 hn6 hx6 hr6 he6 => ?_;refine eS fun K7 hn7 hr7 he7 => ?_;refine eO fun K8 hk8 => ?_;refine tS0 1 ?_;refine ⟨_, gen_asr_nil Tryz.underlying135 rfl zP_run zP_rep, ?_⟩;refine tL0 ?_;refine hk8 _ ?_;refine hn7 (some ([2, 7, 8], none)) _ ?_;refine eCf ?_;refine hn6 _ ?_;refine hn3 (some ([2], none)) _ ?_
  refine eS fun K9 hn9 hr9 he9 => ?_;refine eO fun K10 hk10 => ?_;refine tC0 2 ?_;refine tL0 ?_;refine hk10 _ ?_;refine hn9 (some ([2, 3], none)) _ ?_
  exact sf0
theorem ok_hzHeld_no {t : TypeId} {x : Sh} (h : t ≠ 132) : Ok 20 [.ifc t x] (.tup [.v (.slice none 0 0), sB false]) := by
  refine ok_of_tr Tryz.func20 tr_hzHeld rfl ?_
  unfold evFn sc_hzHeld rv_hzHeld
  refine eS fun K1 hn1 hr1 he1 => ?_;refine eO fun K2 hk2 => ?_;refine tL0 ?_;refine hk2 _ ?_;refine hn1 (some ([0], none)) _ ?_;refine eS fun K3 hn3 hr3 he3 => ?_;refine eS fun K4 hn4 hr4 he4 => ?_;refine eO fun K5 hk5 => ?_;refine tL0 ?_;refine hk5 _ ?_;refine hn4 (some ([5], none)) _ ?_;refine eB fun K6 hn6 hx6 hr6 he6 => ?_;refine eS fun K7 hn7 hr7 he7 => ?_;refine eO fun K8 hk8 => ?_;refine tS0 1 ?_;refine ⟨_, gen_asr_no Tryz.underlying132 rfl h zS_run zS_rep, ?_⟩;refine tL0 ?_;refine hk8 _ ?_;refine hn7 (some ([7, 8], none)) _ ?_;refine eCf ?_;refine hn6 _ ?_;refine hn3 (some ([], none)) _ ?_
  refine eS fun K9 hn9 hr9 he9 => ?_;refine eO fun K10 hk10 => ?_;refine tL0 ?_;refine hk10 _ ?_;refine hn9 (some ([2, 3], none)) _ ?_
  exact sf0
theorem ok_hzHeld_nil : Ok 20 [.v .nilIface] (.tup [.v (.slice none 0 0), sB false]) := by
  refine ok_of_tr Tryz.func20 tr_hzHeld rfl ?_
  unfold evFn sc_hzHeld rv_hzHeld
  refine eS fun K1 hn1 hr1 he1 => ?_;refine eO fun K2 hk2 => ?_;refine tL0 ?_;refine hk2 _ ?_;refine hn1 (some ([0], none)) _ ?_;refine eS fun K3 hn3 hr3 he3 => ?_;refine eS fun K4 hn4 hr4 he4 => ?_;refine eO fun K5 hk5 => ?_;refine tL0 ?_;refine hk5 _ ?_;refine hn4 (some ([5], none)) _ ?_;refine eB fun K6 hn6 hx6 hr6 he6 => ?_;refine eS fun K7 hn7 hr7 he7 => ?_;refine eO fun K8 hk8 => ?_;refine tS0 1 ?_;refine ⟨_, gen_asr_nil Tryz.underlying132 rfl zS_run zS_rep, ?_⟩;refine tL0 ?_;refine hk8 _ ?_;refine hn7 (some ([7, 8], none)) _ ?_;refine eCf ?_;refine hn6 _ ?_;refine hn3 (some ([], none)) _ ?_
  refine eS fun K9 hn9 hr9 he9 => ?_;refine eO fun K10 hk10 => ?_;refine tL0 ?_;refine hk10 _ ?_;refine hn9 (some ([2, 3], none)) _ ?_
  exact sf0
def HoInv (m : Nat) (S : St) : Prop :=
  ∃ (t : Nat) (w : WorldM hz) (s : Nat → HzV), t ≤ 3 ∧ HzW dA w s ∧ WorldOk w (2 + 8 * t) ∧ w.stopped = List.replicate 3 false ∧ (∀ u, u < t → finH (s u) = true) ∧ m = 3 - t ∧
    S = ⟨[(3, .ptr 0 0 0), (5, sI ((t + 1 : Nat) : Int))], [(0, boxW w)], 1⟩
def Ho2Inv (c0 c1 c2 : HzV) (m : Nat) (S : St) : Prop :=
  ∃ i : Nat, i ≤ 5 ∧ m = 5 - i ∧ S = ⟨[(68, .sl 1 0 [[.ifc 79 (.agg [])], [.v .nilIface], [eCode hz (some c0)], [eCode hz (some c1)], [eCode hz (some c2)]]), (69, sI 5), (70, sI (i : Int))], [], 0⟩
set_option maxRecDepth 20000 in
set_option maxHeartbeats 16000000 in
theorem ok_HazardOthers (r : Run14) : Ok 4 [.agg (cRun14 r)] (sB true) := by
  refine ok_of_tr Tryz.func4 tr_HazardOthers rfl ?_
  have ka := ok_l14awake
  have k0 := ok_l14Great r
  cases hg : great14 r
  case true =>
    rw [hg] at k0
    unfold evFn sc_HazardOthers rv_HazardOthers
    refine eS fun K1 hn1 hr1 he1 => ?_;refine eO fun K2 hk2 => ?_;refine tL0 ?_;refine hk2 _ ?_;refine hn1 (some ([1], none)) _ ?_;refine eS fun K3 hn3 hr3 he3 => ?_;refine eS fun K4 hn4 hr4 he4 => ?_;refine eO fun K5 hk5 => ?_;refine tC0 1 ?_;refine tL0 ?_;refine Or.inl (Or.inl ⟨_, k0, ?_⟩);refine hk5 _ ?_;refine hn4 (some ([1, 13], none)) _ ?_;refine eCt ?_;refine eS fun K6 hn6 hr6 he6 => ?_;refine eO fun K7 hk7 => ?_;refine tS0 1 ?_;refine Or.inl (Or.inl ⟨_, ka, ?_⟩);refine tL0 ?_;refine hk7 _ ?_;refine hn6 (some ([2], none)) _ ?_;refine hr3 _ ?_
    exact sf0
  rw [hg] at k0
  obtain ⟨a, b, h0, h1, h2, d0, d1, d2, l⟩ := r
  have hK := shK hz
  have k2 := ok_l14begun a b h0 h1 h2 ⟨0, 0, 0⟩ ⟨2, 0, 0⟩ ⟨1, 0, 0⟩ (doIn0 0 (by decide)) (doIn0 2 (by decide)) (doIn0 1 (by decide))
  change Ok _ [.agg [sI a, sI b], .agg [sI h0, sI h1, sI h2], .agg [s8h 0, s8h 0, sI 0, s8h 2, s8h 0, sI 0, s8h 1, s8h 0, sI 0]] (.tup [eWorld (worldH a b (hsOf h0 h1 h2) dA), sB true]) at k2
  have hW0 := (worldH_ok a b (hsOf h0 h1 h2) dA).1
  obtain ⟨hZ0, _, hst0⟩ := worldH_hzW a b (hsOf h0 h1 h2) dA
  clear hg
  generalize (fun i => (hzNext (codeH i (dA i)) zGot).1) = s0 at hZ0
  generalize worldH a b (hsOf h0 h1 h2) dA = W0 at k2 hW0 hZ0 hst0
  have k0w : Ok 24 [.ifc 79 (.agg [])] _ := ok_hzWord_no (by decide)
  have k0h : Ok 20 [.ifc 79 (.agg [])] _ := ok_hzHeld_no (by decide)
  have k1w := ok_hzWord_nil
  have k1h := ok_hzHeld_nil
  unfold evFn sc_HazardOthers rv_HazardOthers
  have F1 := @hK
  refine eS fun K1 hn1 hr1 he1 => ?_;refine eO fun K2 hk2 => ?_;refine tL F1 ?_;refine hk2 _ ?_;refine hn1 (some ([1], none)) _ ?_;refine eS fun K3 hn3 hr3 he3 => ?_;refine eS fun K4 hn4 hr4 he4 => ?_;refine eO fun K5 hk5 => ?_;refine tC 1 F1 ?_;refine tL F1 ?_;refine Or.inl (Or.inl ⟨_, k0, ?_⟩);refine hk5 _ ?_;refine hn4 (some ([1, 13], none)) _ ?_;refine eCf ?_;refine hn3 (some ([1], none)) _ ?_;refine eS fun K6 hn6 hr6 he6 => ?_;refine eO fun K7 hk7 => ?_;refine tZ F1 ?_;refine hk7 _ ?_;refine hn6 (some ([1], none)) _ ?_;refine eS fun K8 hn8 hr8 he8 => ?_;refine eO fun K9 hk9 => ?_;refine tC 2 F1 ?_
  refine tC 2 F1 ?_;refine tC 2 F1 ?_;refine tS 1 F1 ?_;refine Or.inl (Or.inl ⟨_, k2, ?_⟩);refine tC 5 F1 ?_;refine tL F1 ?_;refine hk9 _ ?_;refine hn8 (some ([3, 4], none)) _ ?_;refine eS fun K10 hn10 hr10 he10 => ?_;refine eS fun K11 hn11 hr11 he11 => ?_;refine eO fun K12 hk12 => ?_;refine tL F1 ?_;refine hk12 _ ?_;refine hn11 (some ([3, 31], none)) _ ?_;refine eCf ?_;refine hn10 (some ([3], none)) _ ?_;refine eS fun K13 hn13 hr13 he13 => ?_;refine eS fun K14 hn14 hr14 he14 => ?_;refine eO fun K15 hk15 => ?_;refine tL F1 ?_;refine hk15 _ ?_;refine hn14 (some ([3, 5], none)) _ ?_;refine eB fun K16 hn16 hx16 hr16 he16 => ?_
  refine eW (HoInv) (3) (some ([3, 5], some ([1], 1))) ([]) ?_ ?_
  · try refine lp0 ?_
    exact ⟨0, W0, s0, by omega, hZ0, worldOk_up hW0 (by omega), hst0, fun u hu => absurd hu (by omega), by omega, by rfl⟩
  · intro k S1 hI
    obtain ⟨t, w, s, ht, hZ, hW, hst, hfin, rfl, rfl⟩ := hI
    have hcase : t = 3 ∨ t < 3 := by omega
    intro K17 hn17 hr17 he17
    rcases hcase with rfl | hcc
    · skip
      have z1 : ¬ ((3 + 1 : Nat) : Int) ≤ 3 := by decide
      have k8 := ok_kWDone w (by have := hZ.len; omega)
      rw [hz_done hZ hfin] at k8
      obtain ⟨q0, hq0, hq0f⟩ := end_prot hZ (i := 0) (by decide) rfl (hfin 0 (by decide))
      obtain ⟨q1, hq1, hq1f⟩ := end_scan hZ (i := 1) (by decide) rfl (hfin 1 (by decide))
      obtain ⟨q2, hq2⟩ := end_clr hZ (i := 2) (by decide) rfl (hfin 2 (by decide))
      obtain ⟨y0, hy0, hT0⟩ := hZ.get (i := 0) (by decide)
      obtain ⟨y1, hy1, hT1⟩ := hZ.get (i := 1) (by decide)
      obtain ⟨y2, hy2, hT2⟩ := hZ.get (i := 2) (by decide)
      have kc0 := ok_kCode y0
      have kc1 := ok_kCode y1
      have kc2 := ok_kCode y2
      rw [hT0.code, hq0] at kc0
      rw [hT1.code, hq1] at kc1
      rw [hT2.code, hq2] at kc2
      have u0 : (w.tasks.length : Int) = 3 := by have := hZ.len; omega
      have u1 : 0 < w.tasks.length := by omega
      have u2 : 1 < w.tasks.length := by omega
      have u3 : 2 < w.tasks.length := by omega
      have u4 : (0 : Int) < 3 := by decide
      have u5 : (1 : Int) < 3 := by decide
      have u6 : (2 : Int) < 3 := by decide
      have hgx := (hW.task y1 (List.mem_of_getElem? hy1)).good (s 1) hT1.code
      rw [hq1] at hgx
      have hgx2 : q1.held.length ≤ 1000 := by have h9 : ScanOk _ q1 := hgx; have := h9.held; simp at this; omega
      have kpw := ok_hzWord (.prot q0)
      have kph := ok_hzHeld (.prot q0) (fun z hz => by cases hz)
      have ksw := ok_hzWord (.scan q1)
      have ksh := ok_hzHeld (.scan q1) (fun z hz => by cases hz; exact hgx2)
      have kcw := ok_hzWord (.clr q2)
      have kch := ok_hzHeld (.clr q2) (fun z hz => by cases hz)
      have e7 : heldH (.scan q1) = some q1.held := if_pos hq1f
      have e8 : wordH (.prot q0) = (q0.word, true) := if_pos hq0f
      rw [e7] at ksh
      rw [e8] at kpw
      change Ok _ [eCode hz (some (.prot q0))] (.tup [.agg [sI q0.word.val, sU q0.word.ver, sU q0.word.ref], sB true]) at kpw
      change Ok _ [eCode hz (some (.prot q0))] (.tup [.v (.slice none 0 0), sB false]) at kph
      change Ok _ [eCode hz (some (.scan q1))] (.tup [.agg [sI 0, sU 0, sU 0], sB false]) at ksw
      change Ok _ [eCode hz (some (.scan q1))] (.tup [.sl 1 0 (q1.held.map eH1), sB true]) at ksh
      change Ok _ [eCode hz (some (.clr q2))] (.tup [.agg [sI 0, sU 0, sU 0], sB false]) at kcw
      change Ok _ [eCode hz (some (.clr q2))] (.tup [.v (.slice none 0 0), sB false]) at kch
      generalize q0.word = qw at kpw
      generalize q1.held = ql at ksh
      generalize HzV.prot q0 = C0 at kc0 kpw kph
      generalize HzV.scan q1 = C1 at kc1 ksw ksh
      generalize HzV.clr q2 = C2 at kc2 kcw kch
      have F2 := And.intro F1 (And.intro @z1 (And.intro @u0 (And.intro @u1 (And.intro @u2 (And.intro @u3 (And.intro @u4 (And.intro @u5 (And.intro @u6 (And.intro @hy0 (And.intro @hy1 @hy2))))))))))
      refine eS fun K18 hn18 hr18 he18 => ?_;refine eS fun K19 hn19 hr19 he19 => ?_;refine eO fun K20 hk20 => ?_;refine tZ F2 ?_;refine hk20 _ ?_;refine hn19 (some ([3, 5, 33], none)) _ ?_;refine eCf ?_;refine he18 0 _ ?_;refine he17 0 _ ?_;refine hx16 _ ?_;refine hn13 (some ([3], none)) _ ?_;refine eS fun K21 hn21 hr21 he21 => ?_;refine eS fun K22 hn22 hr22 he22 => ?_;refine eO fun K23 hk23 => ?_;refine tC 1 F2 ?_;refine tS 1 F2 ?_;refine Or.inl (Or.inl ⟨_, k8, ?_⟩);refine tC 4 F2 ?_;refine tC 2 F2 ?_;refine tL F2 ?_;refine hk23 _ ?_;refine hn22 (some ([3, 50], none)) _ ?_;refine eCf ?_;refine hn21 (some ([3], none)) _ ?_
      refine eS fun K24 hn24 hr24 he24 => ?_;refine eS fun K25 hn25 hr25 he25 => ?_;refine eD [] (n := 20) fun K26 hk26 => ?_;refine sq0 ?_;refine fC 4 F2 ?_;refine fC 1 F2 ?_;refine fC 1 F2 ?_;refine fS 1 F2 ?_;refine ⟨_, kc0, ?_⟩;refine fC 2 F2 ?_;refine fC 1 F2 ?_;refine fC 1 F2 ?_;refine fS 1 F2 ?_;refine ⟨_, kc1, ?_⟩;refine fC 2 F2 ?_;refine fC 1 F2 ?_;refine fC 1 F2 ?_;refine fS 1 F2 ?_;refine ⟨_, kc2, ?_⟩;refine fC 1 F2 ?_;refine fL F2 ?_;refine hk26 _ ?_;refine sr0 ?_;refine tL F2 ?_;refine hn25 (some ([68, 69, 70], none)) _ ?_;refine eB fun K28 hn28 hx28 hr28 he28 => ?_;refine eW (Ho2Inv C0 C1 C2) (5) (some ([68, 69, 70], some ([], 0))) ([]) ?_ ?_
      · try refine lp0 ?_
        exact ⟨0, by omega, by omega, by rfl⟩
      · intro k S1 hI
        obtain ⟨i, hi, rfl, rfl⟩ := hI
        have hcas2 : i = 5 ∨ i = 0 ∨ i = 1 ∨ i = 2 ∨ i = 3 ∨ i = 4 := by omega
        intro K29 hn29 hr29 he29
        rcases hcas2 with rfl | rfl | rfl | rfl | rfl | rfl
        · skip
          have t1 : ¬ ((5 : Nat) : Int) < 5 := by decide
          have F3 := And.intro F2 @t1
          refine eS fun K30 hn30 hr30 he30 => ?_;refine eO fun K31 hk31 => ?_;refine tZ F3 ?_;refine hk31 _ ?_;refine hn30 (some ([68, 69, 70, 71], none)) _ ?_;refine eS fun K32 hn32 hr32 he32 => ?_;refine eCf ?_;refine he32 2 _ ?_;refine he29 2 _ ?_;refine hx28 _ ?_;refine hn24 (some ([], none)) _ ?_;refine eS fun K33 hn33 hr33 he33 => ?_;refine eO fun K34 hk34 => ?_;refine tS 1 F3 ?_;refine Or.inl (Or.inl ⟨_, ka, ?_⟩);refine tL F3 ?_;refine hk34 _ ?_;refine hn33 (some ([2], none)) _ ?_
          exact sf1 F3
        · skip
          have t1 : ((0 : Nat) : Int) < 5 := by decide
          have t2 : IntKind.i64.wrap (((0 : Nat) : Int) + 1) = ((0 + 1 : Nat) : Int) := by decide
          have t3 : (((0 : Nat) : Int) == 2) = false := by decide
          have t4 : (((0 : Nat) : Int) == 3) = false := by decide
          have F4 := And.intro F2 (And.intro @t1 (And.intro @t2 (And.intro @t3 @t4)))
          refine eS fun K35 hn35 hr35 he35 => ?_;refine eO fun K36 hk36 => ?_;refine tZ F4 ?_;refine hk36 _ ?_;refine hn35 (some ([68, 69, 70, 71], none)) _ ?_;refine eS fun K37 hn37 hr37 he37 => ?_;refine eCt ?_;refine hn37 (some ([68, 69, 70], none)) _ ?_;refine eS fun K38 hn38 hr38 he38 => ?_;refine eB fun K39 hn39 hx39 hr39 he39 => ?_;refine eS fun K40 hn40 hr40 he40 => ?_;refine eO fun K41 hk41 => ?_;refine tC 2 F4 ?_;refine tC 1 F4 ?_;refine tL F4 ?_;refine hk41 _ ?_;refine hn40 (some ([6, 7, 68, 69, 70], none)) _ ?_;refine eS fun K42 hn42 hr42 he42 => ?_;refine eO fun K43 hk43 => ?_;refine tS 1 F4 ?_
          refine tS 1 F4 ?_;refine Or.inl (Or.inl ⟨_, k0w, ?_⟩);refine tC 5 F4 ?_;refine tL F4 ?_;refine hk43 _ ?_;refine hn42 (some ([6, 7, 8, 9, 68, 69, 70], none)) _ ?_;refine eS fun K44 hn44 hr44 he44 => ?_;refine eO fun K45 hk45 => ?_;refine tS 1 F4 ?_;refine tS 1 F4 ?_;refine Or.inl (Or.inl ⟨_, k0h, ?_⟩);refine tL F4 ?_;refine hk45 _ ?_;refine hn44 (some ([6, 8, 9, 10, 11, 68, 69, 70], none)) _ ?_;refine eS fun K46 hn46 hr46 he46 => ?_;refine eOc ([.slot 10 none 1]) fun K47 hk47 => ?_;refine tC 3 F4 ?_;refine tS 1 F4 ?_;refine Or.inl ⟨_, eqsh_bool_refl false, ?_⟩;refine tC 4 F4 ?_;refine tS 1 F4 ?_
          refine Or.inl ⟨_, eqsh_bool_refl false, ?_⟩;refine tC 6 F4 ?_;refine tS 1 F4 ?_;refine tS 1 F4 ?_;refine Or.inl ⟨_, eqsh_word_refl zWord, ?_⟩;refine tC 9 F4 ?_;refine tL F4 ?_;refine hk47 _ ?_;refine hn46 (some ([68, 69, 70, 112], none)) _ ?_;refine eCf ?_;refine hn39 _ ?_;refine hn38 (some ([68, 69, 70], none)) _ ?_;refine eO fun K48 hk48 => ?_;refine tC 1 F4 ?_;refine tL F4 ?_;refine hk48 _ ?_;refine hn29 (5 - (0 + 1)) (some ([68, 69, 70], some ([], 0))) _ ?_ ?_
          all_goals try refine lp0 ?_
          · omega
          · exact ⟨0 + 1, by omega, by omega, by rfl⟩
        · skip
          have t1 : ((1 : Nat) : Int) < 5 := by decide
          have t2 : IntKind.i64.wrap (((1 : Nat) : Int) + 1) = ((1 + 1 : Nat) : Int) := by decide
          have t3 : (((1 : Nat) : Int) == 2) = false := by decide
          have t4 : (((1 : Nat) : Int) == 3) = false := by decide
          have F5 := And.intro F2 (And.intro @t1 (And.intro @t2 (And.intro @t3 @t4)))
          refine eS fun K49 hn49 hr49 he49 => ?_;refine eO fun K50 hk50 => ?_;refine tZ F5 ?_;refine hk50 _ ?_;refine hn49 (some ([68, 69, 70, 71], none)) _ ?_;refine eS fun K51 hn51 hr51 he51 => ?_;refine eCt ?_;refine hn51 (some ([68, 69, 70], none)) _ ?_;refine eS fun K52 hn52 hr52 he52 => ?_;refine eB fun K53 hn53 hx53 hr53 he53 => ?_;refine eS fun K54 hn54 hr54 he54 => ?_;refine eO fun K55 hk55 => ?_;refine tC 2 F5 ?_;refine tC 1 F5 ?_;refine tL F5 ?_;refine hk55 _ ?_;refine hn54 (some ([6, 7, 68, 69, 70], none)) _ ?_;refine eS fun K56 hn56 hr56 he56 => ?_;refine eO fun K57 hk57 => ?_;refine tS 1 F5 ?_
          refine tS 1 F5 ?_;refine Or.inl (Or.inl ⟨_, k1w, ?_⟩);refine tC 5 F5 ?_;refine tL F5 ?_;refine hk57 _ ?_;refine hn56 (some ([6, 7, 8, 9, 68, 69, 70], none)) _ ?_;refine eS fun K58 hn58 hr58 he58 => ?_;refine eO fun K59 hk59 => ?_;refine tS 1 F5 ?_;refine tS 1 F5 ?_;refine Or.inl (Or.inl ⟨_, k1h, ?_⟩);refine tL F5 ?_;refine hk59 _ ?_;refine hn58 (some ([6, 8, 9, 10, 11, 68, 69, 70], none)) _ ?_;refine eS fun K60 hn60 hr60 he60 => ?_;refine eOc ([.slot 10 none 1]) fun K61 hk61 => ?_;refine tC 3 F5 ?_;refine tS 1 F5 ?_;refine Or.inl ⟨_, eqsh_bool_refl false, ?_⟩;refine tC 4 F5 ?_;refine tS 1 F5 ?_
          refine Or.inl ⟨_, eqsh_bool_refl false, ?_⟩;refine tC 6 F5 ?_;refine tS 1 F5 ?_;refine tS 1 F5 ?_;refine Or.inl ⟨_, eqsh_word_refl zWord, ?_⟩;refine tC 9 F5 ?_;refine tL F5 ?_;refine hk61 _ ?_;refine hn60 (some ([68, 69, 70, 112], none)) _ ?_;refine eCf ?_;refine hn53 _ ?_;refine hn52 (some ([68, 69, 70], none)) _ ?_;refine eO fun K62 hk62 => ?_;refine tC 1 F5 ?_;refine tL F5 ?_;refine hk62 _ ?_;refine hn29 (5 - (1 + 1)) (some ([68, 69, 70], some ([], 0))) _ ?_ ?_
          all_goals try refine lp0 ?_
          · omega
          · exact ⟨1 + 1, by omega, by omega, by rfl⟩
        · skip
          have t1 : ((2 : Nat) : Int) < 5 := by decide
          have t2 : IntKind.i64.wrap (((2 : Nat) : Int) + 1) = ((2 + 1 : Nat) : Int) := by decide
          have t3 : (((2 : Nat) : Int) == 2) = true := by decide
          have t4 : (((2 : Nat) : Int) == 3) = false := by decide
          have F6 := And.intro F2 (And.intro @t1 (And.intro @t2 (And.intro @t3 @t4)))
          refine eS fun K63 hn63 hr63 he63 => ?_;refine eO fun K64 hk64 => ?_;refine tZ F6 ?_;refine hk64 _ ?_;refine hn63 (some ([68, 69, 70, 71], none)) _ ?_;refine eS fun K65 hn65 hr65 he65 => ?_;refine eCt ?_;refine hn65 (some ([68, 69, 70], none)) _ ?_;refine eS fun K66 hn66 hr66 he66 => ?_;refine eB fun K67 hn67 hx67 hr67 he67 => ?_;refine eS fun K68 hn68 hr68 he68 => ?_;refine eO fun K69 hk69 => ?_;refine tC 2 F6 ?_;refine tC 1 F6 ?_;refine tL F6 ?_;refine hk69 _ ?_;refine hn68 (some ([6, 7, 68, 69, 70], none)) _ ?_;refine eS fun K70 hn70 hr70 he70 => ?_;refine eO fun K71 hk71 => ?_;refine tS 1 F6 ?_
          refine tS 1 F6 ?_;refine Or.inl (Or.inl ⟨_, kpw, ?_⟩);refine tC 5 F6 ?_;refine tL F6 ?_;refine hk71 _ ?_;refine hn70 (some ([6, 7, 8, 9, 68, 69, 70], none)) _ ?_;refine eS fun K72 hn72 hr72 he72 => ?_;refine eO fun K73 hk73 => ?_;refine tS 1 F6 ?_;refine tS 1 F6 ?_;refine Or.inl (Or.inl ⟨_, kph, ?_⟩);refine tL F6 ?_;refine hk73 _ ?_;refine hn72 (some ([6, 8, 9, 10, 11, 68, 69, 70], none)) _ ?_;refine eS fun K74 hn74 hr74 he74 => ?_;refine eOc ([.slot 10 none 1]) fun K75 hk75 => ?_;refine tC 3 F6 ?_;refine tS 1 F6 ?_;refine Or.inl ⟨_, eqsh_bool_refl true, ?_⟩;refine tC 4 F6 ?_;refine tS 1 F6 ?_
          refine Or.inl ⟨_, eqsh_bool_refl false, ?_⟩;refine tC 6 F6 ?_;refine tS 1 F6 ?_;refine tS 1 F6 ?_
          skip
          refine tC 9 F6 ?_;refine tL F6 ?_;refine hk75 _ ?_;refine hn74 (some ([68, 69, 70, 112], none)) _ ?_;refine eCf ?_;refine hn67 _ ?_;refine hn66 (some ([68, 69, 70], none)) _ ?_;refine eO fun K76 hk76 => ?_;refine tC 1 F6 ?_;refine tL F6 ?_;refine hk76 _ ?_;refine hn29 (5 - (2 + 1)) (some ([68, 69, 70], some ([], 0))) _ ?_ ?_
          all_goals try refine lp0 ?_
          · omega
          · exact ⟨2 + 1, by omega, by omega, by rfl⟩
        · skip
          have t1 : ((3 : Nat) : Int) < 5 := by decide
          have t2 : IntKind.i64.wrap (((3 : Nat) : Int) + 1) = ((3 + 1 : Nat) : Int) := by decide
          have t3 : (((3 : Nat) : Int) == 2) = false := by decide
          have t4 : (((3 : Nat) : Int) == 3) = true := by decide
          have F7 := And.intro F2 (And.intro @t1 (And.intro @t2 (And.intro @t3 @t4)))
          refine eS fun K77 hn77 hr77 he77 => ?_;refine eO fun K78 hk78 => ?_;refine tZ F7 ?_;refine hk78 _ ?_;refine hn77 (some ([68, 69, 70, 71], none)) _ ?_;refine eS fun K79 hn79 hr79 he79 => ?_;refine eCt ?_;refine hn79 (some ([68, 69, 70], none)) _ ?_;refine eS fun K80 hn80 hr80 he80 => ?_;refine eB fun K81 hn81 hx81 hr81 he81 => ?_;refine eS fun K82 hn82 hr82 he82 => ?_;refine eO fun K83 hk83 => ?_;refine tC 2 F7 ?_;refine tC 1 F7 ?_;refine tL F7 ?_;refine hk83 _ ?_;refine hn82 (some ([6, 7, 68, 69, 70], none)) _ ?_;refine eS fun K84 hn84 hr84 he84 => ?_;refine eO fun K85 hk85 => ?_;refine tS 1 F7 ?_
          refine tS 1 F7 ?_;refine Or.inl (Or.inl ⟨_, ksw, ?_⟩);refine tC 5 F7 ?_;refine tL F7 ?_;refine hk85 _ ?_;refine hn84 (some ([6, 7, 8, 9, 68, 69, 70], none)) _ ?_;refine eS fun K86 hn86 hr86 he86 => ?_;refine eO fun K87 hk87 => ?_;refine tS 1 F7 ?_;refine tS 1 F7 ?_;refine Or.inl (Or.inl ⟨_, ksh, ?_⟩);refine tL F7 ?_;refine hk87 _ ?_;refine hn86 (some ([6, 8, 9, 10, 11, 68, 69, 70], none)) _ ?_;refine eS fun K88 hn88 hr88 he88 => ?_;refine eO fun K89 hk89 => ?_;refine tC 3 F7 ?_;refine tS 1 F7 ?_;refine Or.inl ⟨_, eqsh_bool_refl false, ?_⟩;refine tC 4 F7 ?_;refine tS 1 F7 ?_;refine Or.inl ⟨_, eqsh_bool_refl true, ?_⟩
          refine tC 6 F7 ?_;refine tS 1 F7 ?_;refine tS 1 F7 ?_;refine Or.inl ⟨_, eqsh_word_refl zWord, ?_⟩;refine tC 9 F7 ?_;refine tL F7 ?_;refine hk89 _ ?_;refine hn88 (some ([68, 69, 70, 112], none)) _ ?_;refine eCf ?_;refine hn81 _ ?_;refine hn80 (some ([68, 69, 70], none)) _ ?_;refine eO fun K90 hk90 => ?_;refine tC 1 F7 ?_;refine tL F7 ?_;refine hk90 _ ?_;refine hn29 (5 - (3 + 1)) (some ([68, 69, 70], some ([], 0))) _ ?_ ?_
          all_goals try refine lp0 ?_
          · omega
          · exact ⟨3 + 1, by omega, by omega, by rfl⟩
        · skip
          have t1 : ((4 : Nat) : Int) < 5 := by decide
          have t2 : IntKind.i64.wrap (((4 : Nat) : Int) + 1) = ((4 + 1 : Nat) : Int) := by decide
          have t3 : (((4 : Nat) : Int) == 2) = false := by decide
          have t4 : (((4 : Nat) : Int) == 3) = false := by decide
          have F8 := And.intro F2 (And.intro @t1 (And.intro @t2 (And.intro @t3 @t4)))
          refine eS fun K91 hn91 hr91 he91 => ?_;refine eO fun K92 hk92 => ?_;refine tZ F8 ?_;refine hk92 _ ?_;refine hn91 (some ([68, 69, 70, 71], none)) _ ?_;refine eS fun K93 hn93 hr93 he93 => ?_;refine eCt ?_;refine hn93 (some ([68, 69, 70], none)) _ ?_;refine eS fun K94 hn94 hr94 he94 => ?_;refine eB fun K95 hn95 hx95 hr95 he95 => ?_;refine eS fun K96 hn96 hr96 he96 => ?_;refine eO fun K97 hk97 => ?_;refine tC 2 F8 ?_;refine tC 1 F8 ?_;refine tL F8 ?_;refine hk97 _ ?_;refine hn96 (some ([6, 7, 68, 69, 70], none)) _ ?_;refine eS fun K98 hn98 hr98 he98 => ?_;refine eO fun K99 hk99 => ?_;refine tS 1 F8 ?_
          refine tS 1 F8 ?_;refine Or.inl (Or.inl ⟨_, kcw, ?_⟩);refine tC 5 F8 ?_;refine tL F8 ?_;refine hk99 _ ?_;refine hn98 (some ([6, 7, 8, 9, 68, 69, 70], none)) _ ?_;refine eS fun K100 hn100 hr100 he100 => ?_;refine eO fun K101 hk101 => ?_;refine tS 1 F8 ?_;refine tS 1 F8 ?_;refine Or.inl (Or.inl ⟨_, kch, ?_⟩);refine tL F8 ?_;refine hk101 _ ?_;refine hn100 (some ([6, 8, 9, 10, 11, 68, 69, 70], none)) _ ?_;refine eS fun K102 hn102 hr102 he102 => ?_;refine eOc ([.slot 10 none 1]) fun K103 hk103 => ?_;refine tC 3 F8 ?_;refine tS 1 F8 ?_;refine Or.inl ⟨_, eqsh_bool_refl false, ?_⟩;refine tC 4 F8 ?_
          refine tS 1 F8 ?_;refine Or.inl ⟨_, eqsh_bool_refl false, ?_⟩;refine tC 6 F8 ?_;refine tS 1 F8 ?_;refine tS 1 F8 ?_;refine Or.inl ⟨_, eqsh_word_refl zWord, ?_⟩;refine tC 9 F8 ?_;refine tL F8 ?_;refine hk103 _ ?_;refine hn102 (some ([68, 69, 70, 112], none)) _ ?_;refine eCf ?_;refine hn95 _ ?_;refine hn94 (some ([68, 69, 70], none)) _ ?_;refine eO fun K104 hk104 => ?_;refine tC 1 F8 ?_;refine tL F8 ?_;refine hk104 _ ?_;refine hn29 (5 - (4 + 1)) (some ([68, 69, 70], some ([], 0))) _ ?_ ?_
          all_goals try refine lp0 ?_
          · omega
          · exact ⟨4 + 1, by omega, by omega, by rfl⟩
    · skip
      have z1 : ((t + 1 : Nat) : Int) ≤ 3 := by omega
      have z3 : IntKind.i64.wrap (((t + 1 : Nat) : Int) + 1) = ((t + 1 + 1 : Nat) : Int) := by rw [IntKind.wrap_i64]; omega
      have k4 := ok_kAlone w ((t + 1 : Nat) : Int) 8 hW (by show 2 + 8 * t + 8 ≤ 900; omega)
      have hW3 := alone_ok hW ((t + 1 : Nat) : Int) 8
      obtain ⟨s3, hZ3, hst3, ho3, hd3, hf3⟩ := hz_alone1 hZ hcc hst (k := 8) (by decide)
      change HzW dA (aloneM w ((t + 1 : Nat) : Int) 8).1 s3 at hZ3
      change (aloneM w ((t + 1 : Nat) : Int) 8).1.stopped = _ at hst3
      generalize aloneM w ((t + 1 : Nat) : Int) 8 = R at k4 hZ3 hst3 hW3
      obtain ⟨w3, bb⟩ := R
      have F9 := And.intro F1 (And.intro @z1 @z3)
      refine eS fun K105 hn105 hr105 he105 => ?_;refine eS fun K106 hn106 hr106 he106 => ?_;refine eO fun K107 hk107 => ?_;refine tZ F9 ?_;refine hk107 _ ?_;refine hn106 (some ([3, 5, 33], none)) _ ?_;refine eCt ?_;refine hn105 (some ([3, 5], none)) _ ?_;refine eS fun K108 hn108 hr108 he108 => ?_;refine eB fun K109 hn109 hx109 hr109 he109 => ?_;refine eO fun K110 hk110 => ?_;refine tC 1 F9 ?_;refine tS 1 F9 ?_;refine tS 1 F9 ?_;refine Or.inl (Or.inl ⟨_, k4, ?_⟩);refine tZ F9 ?_;refine hk110 _ ?_;refine hn109 _ ?_;refine hn108 (some ([3, 5], none)) _ ?_;refine eO fun K111 hk111 => ?_;refine tC 2 F9 ?_
      refine tL F9 ?_;refine hk111 _ ?_;refine hn17 (3 - (t + 1)) (some ([3, 5], some ([0], 1))) _ ?_ ?_
      all_goals try refine lp0 ?_
      · omega
      · exact ⟨t + 1, w3, s3, by omega, hZ3, worldOk_up hW3 (by show 2 + 8 * t + 8 ≤ 2 + 8 * (t + 1); omega), hst3, fun u hu => (by
          by_cases e9 : u = t
          · rw [e9]; exact hf3
          · rw [ho3 u e9]; exact hfin u (by omega)), by omega, by rfl⟩
end Go.Proofs.YtkoibcblmgmdmaaGreatDoor

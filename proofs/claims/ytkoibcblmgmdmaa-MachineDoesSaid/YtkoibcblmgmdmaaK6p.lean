/-
  MachineDoes, by shadows.
-/
import Derived.Test.YtkoibcblmgmdmaaK6o
import Derived.Test.YtkoibcblmgmdmaaScMachineDoes
import Derived.Test.YtkoibcblmgmdmaaMC
namespace Go.Proofs.Ytkoibcblmgmdmaa
set_option linter.unusedSimpArgs false
set_option linter.unusedVariables false
open Go.RowKit Go.Maps

def MdsInv (k : Int) (g : Nat) (ws : List WordV) (g2 : Nat) (ds : List DeedV) (M0 : MachM) (m : Nat) (S : St) : Prop :=
  ∃ (i N : Nat) (f : Int → Option Sh), i ≤ ds.length ∧ N ≤ 9 ∧ StepF f (runD M0 ds i) ∧ m = ds.length - i ∧
    S = ⟨[(1, .sl 3 g (ws.map eWord)), (7, sI k), (8, .ptr 0 0 0), (14, .ptr 1 0 0), (72, .sl 11 g2 (ds.map eDeed)), (73, sI ds.length), (74, sI i)],
      [(0, .box 44 (cMach (runD M0 ds i))), (1, .box 66 (cTwo (runD M0 ds i).mem (runD M0 ds i).lines k 2 (runD M0 ds i).crashes)), (2, .map 3 N f)], 3⟩
def Mds2Inv (k : Int) (g : Nat) (ws : List WordV) (M : MachM) (N : Nat) (f : Int → Option Sh) (m : Nat) (S : St) : Prop :=
  ∃ j : Nat, j ≤ 6 ∧ m = 6 - j ∧
    S = ⟨[(1, .sl 3 g (ws.map eWord)), (7, sI k), (8, .ptr 0 0 0), (14, .ptr 1 0 0), (150, sI j)],
      [(0, .box 44 (cMach M)), (1, .box 66 (cTwo M.mem M.lines k 2 M.crashes)), (2, .map 3 N f)], 3⟩
theorem words_Q (M : MachM) : wordsQ M.mem = wordsM M := rfl
set_option maxRecDepth 20000 in
set_option maxHeartbeats 16000000 in
theorem ok_MachineDoes (tn : Int) (ht : 0 ≤ tn ∧ tn ≤ 255) (g : Nat) (ws : List WordV) (g2 : Nat) (ds : List DeedV) (hd : ds.length ≤ 9223372036854775807) : Ok 4 [.v (.int .u8 tn), .sl 3 g (ws.map eWord), .sl 11 g2 (ds.map eDeed)] (sB true) := by
  refine ok_of_tr Try.func4 tr_MachineDoes rfl ?_
  have ka := ok_l6awake
  have k0 := ok_l6Few g ws g2 ds hd
  obtain ⟨K, hK⟩ : ∃ K : Nat, (K : Int) = tn % 4 + 1 := ⟨(tn % 4 + 1).toNat, by omega⟩
  have r1 : tn.tmod 4 = tn % 4 := Int.tmod_eq_emod_of_nonneg ht.1
  have r2 : IntKind.i64.wrap (tn % 4) = tn % 4 := by rw [IntKind.wrap_i64]; omega
  have r3 : IntKind.i64.wrap (tn % 4 + 1) = (K : Int) := by rw [IntKind.wrap_i64]; omega
  by_cases hf : fewD ws ds = true
  case neg =>
    have hf : fewD ws ds = false := by simpa using hf
    rw [hf] at k0
    unfold evFn sc_MachineDoes rv_MachineDoes
    have F1 := And.intro @r1 (And.intro @r2 @r3)
    refine eS fun K1 hn1 hr1 he1 => ?_;refine eO fun K2 hk2 => ?_;refine tL F1 ?_;refine hk2 _ ?_;refine hn1 (some ([0, 1, 2], none)) _ ?_;refine eS fun K3 hn3 hr3 he3 => ?_;refine eO fun K4 hk4 => ?_;refine tC 2 F1 ?_;refine tC 2 F1 ?_;refine tL F1 ?_;refine hk4 _ ?_;refine hn3 (some ([1, 2, 7], none)) _ ?_;refine eS fun K5 hn5 hr5 he5 => ?_;refine eS fun K6 hn6 hr6 he6 => ?_;refine eO fun K7 hk7 => ?_;refine tS 2 F1 ?_;refine tS 1 F1 ?_;refine Or.inl (Or.inl ⟨_, k0, ?_⟩);refine tC 5 F1 ?_;refine tL F1 ?_;refine hk7 _ ?_;refine hn6 (some ([1, 2, 7, 37], none)) _ ?_;refine eCt ?_;refine eS fun K8 hn8 hr8 he8 => ?_
    refine eO fun K9 hk9 => ?_;refine tS 1 F1 ?_;refine Or.inl (Or.inl ⟨_, ka, ?_⟩);refine tL F1 ?_;refine hk9 _ ?_;refine hn8 (some ([6], none)) _ ?_;refine hr5 _ ?_
    exact sf1 F1
  rw [hf] at k0
  obtain ⟨f1, f2⟩ := few_len hf
  by_cases hz : ws.length = 0
  · have z1 : ((ws.length : Int) == 0) = true := by rw [hz]; rfl
    unfold evFn sc_MachineDoes rv_MachineDoes
    have F1 := And.intro @r1 (And.intro @r2 (And.intro @r3 @z1))
    refine eS fun K1 hn1 hr1 he1 => ?_;refine eO fun K2 hk2 => ?_;refine tL F1 ?_;refine hk2 _ ?_;refine hn1 (some ([0, 1, 2], none)) _ ?_;refine eS fun K3 hn3 hr3 he3 => ?_;refine eO fun K4 hk4 => ?_;refine tC 2 F1 ?_;refine tC 2 F1 ?_;refine tL F1 ?_;refine hk4 _ ?_;refine hn3 (some ([1, 2, 7], none)) _ ?_;refine eS fun K5 hn5 hr5 he5 => ?_;refine eS fun K6 hn6 hr6 he6 => ?_;refine eO fun K7 hk7 => ?_;refine tS 2 F1 ?_;refine tS 1 F1 ?_;refine Or.inl (Or.inl ⟨_, k0, ?_⟩);refine tC 5 F1 ?_;refine tL F1 ?_;refine hk7 _ ?_;refine hn6 (some ([1, 2, 7, 37], none)) _ ?_;refine eCt ?_;refine eS fun K8 hn8 hr8 he8 => ?_
    refine eO fun K9 hk9 => ?_;refine tS 1 F1 ?_;refine Or.inl (Or.inl ⟨_, ka, ?_⟩);refine tL F1 ?_;refine hk9 _ ?_;refine hn8 (some ([6], none)) _ ?_;refine hr5 _ ?_
    exact sf1 F1
  have z1 : ((ws.length : Int) == 0) = false := by simp only [beq_eq_false_iff_ne, ne_eq]; omega
  have hmn : (mnewM K ws).2 = 0 := by
    unfold mnewM
    rw [if_neg (by omega), if_neg (by omega), if_neg (by omega)]
  have k2 := ok_cNew K g ws
  have k3 := ok_mNew K g ws
  have k4 := ok_lineNew g ws (by omega)
  obtain ⟨_, _, _, _, e9⟩ := mnew_ok hmn
  obtain ⟨M0, hM0e⟩ : ∃ M0 : MachM, M0 = ⟨(mnewM K ws).1, newM ws, List.replicate K 0, 0⟩ := ⟨_, rfl⟩
  have hcn : cnewM K ws = (M0, 0) := by unfold cnewM; rw [if_pos hmn, hM0e]; rfl
  have hM0 := machOk_new K ws
  rw [hmn] at k3
  rw [hcn] at k2 hM0
  simp only at k2 hM0
  have hsz : M0.mem.views.length = K ∧ M0.mem.places.length = ws.length := by rw [hM0e]; simp only [e9]; simp
  have hs0 : ∀ i, (runD M0 ds i).mem.views.length = K ∧ (runD M0 ds i).mem.places.length = ws.length := fun i => by
    have h9 := size_run hM0 ds i
    exact ⟨h9.1.trans hsz.1, h9.2.trans hsz.2⟩
  have hOk := fun i => machOk_run hM0 ds i
  have hF0 : StepF (fun _ => none) M0 := ⟨fun j => by
    show Sh.v (.int .i64 0) = sI _
    rw [hM0e]
    unfold stepsM
    split
    · rfl
    · simp only [List.getElem?_replicate]; split <;> rfl, fun j h => absurd rfl h⟩
  have hsucc := fun {i d} => runD_succ (M := M0) (ds := ds) (i := i) (d := d)
  rw [show (mnewM K ws).1 = M0.mem by rw [hM0e]] at k3
  rw [show newM ws = M0.lines by rw [hM0e]] at k4
  have hcr : M0.crashes = 0 := by rw [hM0e]
  clear hcn e9 hmn hM0e hsz
  unfold evFn sc_MachineDoes rv_MachineDoes
  have F1 := And.intro @r1 (And.intro @r2 (And.intro @r3 @z1))
  refine eS fun K1 hn1 hr1 he1 => ?_;refine eO fun K2 hk2 => ?_;refine tL F1 ?_;refine hk2 _ ?_;refine hn1 (some ([0, 1, 2], none)) _ ?_;refine eS fun K3 hn3 hr3 he3 => ?_;refine eO fun K4 hk4 => ?_;refine tC 2 F1 ?_;refine tC 2 F1 ?_;refine tL F1 ?_;refine hk4 _ ?_;refine hn3 (some ([1, 2, 7], none)) _ ?_;refine eS fun K5 hn5 hr5 he5 => ?_;refine eS fun K6 hn6 hr6 he6 => ?_;refine eO fun K7 hk7 => ?_;refine tS 2 F1 ?_;refine tS 1 F1 ?_;refine Or.inl (Or.inl ⟨_, k0, ?_⟩);refine tC 5 F1 ?_;refine tL F1 ?_;refine hk7 _ ?_;refine hn6 (some ([1, 2, 7, 37], none)) _ ?_;refine eCf ?_;refine hn5 (some ([1, 2, 7], none)) _ ?_
  refine eS fun K8 hn8 hr8 he8 => ?_;refine eO fun K9 hk9 => ?_;refine tS 2 F1 ?_;refine tS 1 F1 ?_;refine Or.inl (Or.inl ⟨_, k2, ?_⟩);refine tC 5 F1 ?_;refine tL F1 ?_;refine hk9 _ ?_;refine hn8 (some ([1, 2, 7, 8, 9], none)) _ ?_;refine eS fun K10 hn10 hr10 he10 => ?_;refine eO fun K11 hk11 => ?_;refine tS 2 F1 ?_;refine tS 1 F1 ?_;refine Or.inl (Or.inl ⟨_, k3, ?_⟩);refine tC 5 F1 ?_;refine tL F1 ?_;refine hk11 _ ?_;refine hn10 (some ([1, 2, 7, 8, 9, 10, 11], none)) _ ?_;refine eS fun K12 hn12 hr12 he12 => ?_;refine eO fun K13 hk13 => ?_;refine tS 1 F1 ?_;refine tS 1 F1 ?_;refine Or.inl (Or.inl ⟨_, k4, ?_⟩)
  refine tC 5 F1 ?_;refine tL F1 ?_;refine hk13 _ ?_;refine hn12 (some ([1, 2, 7, 8, 9, 10, 11, 12, 13], none)) _ ?_;refine eS fun K14 hn14 hr14 he14 => ?_;refine eS fun K15 hn15 hr15 he15 => ?_;refine eO fun K16 hk16 => ?_;refine tC 2 F1 ?_;refine tC 3 F1 ?_;refine tC 4 F1 ?_;refine tL F1 ?_;refine hk16 _ ?_;refine hn15 (some ([1, 2, 7, 8, 10, 12, 65], none)) _ ?_;refine eCf ?_;refine hn14 (some ([1, 2, 7, 8, 10, 12], none)) _ ?_;refine eS fun K17 hn17 hr17 he17 => ?_;refine eO fun K18 hk18 => ?_;refine tC 1 F1 ?_;refine tC 1 F1 ?_;refine tL F1 ?_;refine hk18 _ ?_;refine hn17 (some ([1, 2, 7, 8, 14], none)) _ ?_
  refine eS fun K19 hn19 hr19 he19 => ?_;refine eS fun K20 hn20 hr20 he20 => ?_;refine eO fun K21 hk21 => ?_;refine tL F1 ?_;refine hk21 _ ?_;refine hn20 (some ([1, 7, 8, 14, 72, 73, 74], none)) _ ?_;refine eB fun K22 hn22 hx22 hr22 he22 => ?_;refine eW (MdsInv K g ws g2 ds M0) (ds.length) (some ([1, 7, 8, 14, 72, 73, 74], some ([0, 4, 3], 3))) ([]) ?_ ?_
  · try refine lp0 ?_
    exact ⟨0, 0, fun _ => none, by omega, by omega, hF0, by omega, by rw [show runD M0 ds 0 = M0 from rfl]; simp only [cMach, cTwo, hcr]; try rfl⟩
  · intro k S1 hI
    obtain ⟨i, N, f, hi, hN, hF, rfl, rfl⟩ := hI
    have hM := hOk i
    obtain ⟨hv, hp⟩ := hs0 i
    have hcase : i = ds.length ∨ (∃ d, ds[i]? = some d ∧ d.crash = true) ∨ (∃ d, ds[i]? = some d ∧ d.crash = false) := by
      rcases Nat.lt_or_ge i ds.length with h | h
      · cases hc : (ds[i]).crash
        · exact .inr (.inr ⟨_, List.getElem?_eq_getElem h, hc⟩)
        · exact .inr (.inl ⟨_, List.getElem?_eq_getElem h, hc⟩)
      · exact .inl (by omega)
    intro K23 hn23 hr23 he23
    rcases hcase with hcc | ⟨d, hd1, hd2⟩ | ⟨d, hd1, hd2⟩
    · skip
      have w2 : ¬ (i : Int) < (ds.length : Int) := by omega
      generalize runD M0 ds i = M at hF hM hv hp ⊢
      have k17 := ok_cSize M
      rw [hv, hp] at k17
      have F2 := And.intro F1 @w2
      refine eS fun K24 hn24 hr24 he24 => ?_;refine eO fun K25 hk25 => ?_;refine tZ F2 ?_;refine hk25 _ ?_;refine hn24 (some ([1, 7, 8, 14, 72, 73, 74, 75], none)) _ ?_;refine eS fun K26 hn26 hr26 he26 => ?_;refine eCf ?_;refine he26 0 _ ?_;refine he23 0 _ ?_;refine hx22 _ ?_;refine hn19 (some ([1, 7, 8, 14], none)) _ ?_;refine eS fun K27 hn27 hr27 he27 => ?_;refine eS fun K28 hn28 hr28 he28 => ?_;refine eO fun K29 hk29 => ?_;refine tL F2 ?_;refine hk29 _ ?_;refine hn28 (some ([1, 7, 8, 14, 150], none)) _ ?_;refine eB fun K30 hn30 hx30 hr30 he30 => ?_;refine eW (Mds2Inv K g ws M N f) (6) (some ([1, 7, 8, 14, 150], some ([0, 1, 2], 3))) ([]) ?_ ?_
      · try refine lp0 ?_
        exact ⟨0, by omega, by omega, by rfl⟩
      · intro k S1 hI
        obtain ⟨j, hj, rfl, rfl⟩ := hI
        have hcas1 : j = 6 ∨ j < 6 := by omega
        intro K31 hn31 hr31 he31
        rcases hcas1 with rfl | hj6
        · skip
          have y1 : ¬ ((6 : Nat) : Int) < 6 := by decide
          have F3 := And.intro F2 @y1
          refine eS fun K32 hn32 hr32 he32 => ?_;refine eO fun K33 hk33 => ?_;refine tZ F3 ?_;refine hk33 _ ?_;refine hn32 (some ([1, 7, 8, 14, 150, 151], none)) _ ?_;refine eS fun K34 hn34 hr34 he34 => ?_;refine eCf ?_;refine he34 2 _ ?_;refine he31 2 _ ?_;refine hx30 _ ?_;refine hn27 (some ([1, 7, 8], none)) _ ?_;refine eS fun K35 hn35 hr35 he35 => ?_;refine eO fun K36 hk36 => ?_;refine tC 1 F3 ?_;refine tS 1 F3 ?_;refine Or.inl (Or.inl ⟨_, k17, ?_⟩);refine tL F3 ?_;refine hk36 _ ?_;refine hn35 (some ([1, 7, 23, 24], none)) _ ?_;refine eS fun K37 hn37 hr37 he37 => ?_;refine eO fun K38 hk38 => ?_
          refine tS 1 F3 ?_;refine Or.inl (Or.inl ⟨_, ka, ?_⟩);refine tC 4 F3 ?_;refine tC 6 F3 ?_;refine tL F3 ?_;refine hk38 _ ?_;refine hn37 (some ([6], none)) _ ?_
          exact sf1 F3
        · skip
          have y1 : (j : Int) < 6 := by omega
          have y2 : IntKind.i64.wrap ((j : Int) + 1) = ((j + 1 : Nat) : Int) := by rw [IntKind.wrap_i64]; omega
          have k16 := ok_cSteps M (j : Int) (by have := hM.threads; have := hM.mem.vl; omega)
          have hfj := hF.is (j : Int)
          have y3 : -9223372036854775808 ≤ (j : Int) := by omega
          have y4 : (j : Int) ≤ 9223372036854775807 := by omega
          generalize stepsM M (j : Int) = s at k16 hfj
          have F4 := And.intro F2 (And.intro @y1 (And.intro @y2 (And.intro @y3 (And.intro @y4 @hfj))))
          refine eS fun K39 hn39 hr39 he39 => ?_;refine eO fun K40 hk40 => ?_;refine tZ F4 ?_;refine hk40 _ ?_;refine hn39 (some ([1, 7, 8, 14, 150, 151], none)) _ ?_;refine eS fun K41 hn41 hr41 he41 => ?_;refine eCt ?_;refine hn41 (some ([1, 7, 8, 14, 150], none)) _ ?_;refine eS fun K42 hn42 hr42 he42 => ?_;refine eB fun K43 hn43 hx43 hr43 he43 => ?_;refine eS fun K44 hn44 hr44 he44 => ?_;refine eO fun K45 hk45 => ?_;refine tL F4 ?_;refine hk45 _ ?_;refine hn44 (some ([1, 7, 8, 14, 22, 150], none)) _ ?_;refine eS fun K46 hn46 hr46 he46 => ?_;refine eD [] (n := 9) fun K47 hk47 => ?_;refine sq0 ?_
          refine fC 1 F4 ?_;refine fS 1 F4 ?_;refine fS 1 F4 ?_;refine ⟨_, k16, ?_⟩;refine fC 4 F4 ?_;refine fZ F4 ?_;refine hk47 _ ?_;refine sr0 ?_;refine tZ F4 ?_;refine hn46 (some ([1, 7, 8, 14, 150, 162], none)) _ ?_;refine eCf ?_;refine hn43 _ ?_;refine hn42 (some ([1, 7, 8, 14, 150], none)) _ ?_;refine eO fun K49 hk49 => ?_;refine tC 1 F4 ?_;refine tL F4 ?_;refine hk49 _ ?_;refine hn31 (6 - (j + 1)) (some ([1, 7, 8, 14, 150], some ([0, 1, 2], 3))) _ ?_ ?_
          all_goals try refine lp0 ?_
          · omega
          · exact ⟨j + 1, by omega, by omega, by rfl⟩
    · skip
      have hcc := (List.getElem?_eq_some_iff.1 hd1).1
      have w2 : (i : Int) < (ds.length : Int) := by omega
      have w3 : IntKind.i64.wrap ((i : Int) + 1) = ((i + 1 : Nat) : Int) := by rw [IntKind.wrap_i64]; omega
      have hr := hsucc hd1
      unfold deedM at hr
      rw [if_pos hd2] at hr
      have hM2 := hOk (i + 1)
      obtain ⟨hv2, hp2⟩ := hs0 (i + 1)
      generalize runD M0 ds i = M at hF hM hv hp hr ⊢
      have k5 := ok_cCrash M d.choice hM (by omega)
      obtain ⟨X, hX⟩ : ∃ X, crashM M d.choice = X := ⟨_, rfl⟩
      have k6 := fun C D => okO_l6crash C D (N := N) (f := f) hM (by omega) (by omega) hX
      have hst : X.steps = M.steps := by rw [← hX]; unfold crashM; split <;> rfl
      rw [hv] at k6
      rw [hX] at k5 hr
      rw [hr] at hM2 hv2 hp2
      have hF2 := stepF_keep hF hst
      have k9 := ok_cWords X hM2.mem (by omega)
      have k10 := ok_l6last X.mem hM2.mem (by omega)
      rw [words_Q] at k10
      have k11 := ok_l6alike 0 0 (wordsM X) (by have := words_len X; omega)
      have k12 := ok_cLeast X hM2.lines (by omega)
      have k13 := ok_lLeast X.lines hM2.lines.lines (fun y hy => Nat.le_trans (hM2.lines.most y hy) (by omega))
      have k14 := ok_l6alike 0 0 (leftM X.lines fun _ _ => 0) (by rw [left_len, hM2.size]; omega)
      have k15 := ok_cCrashes X
      have F5 := And.intro F1 (And.intro @w2 (And.intro @w3 (And.intro @hd1 @hd2)))
      refine eS fun K50 hn50 hr50 he50 => ?_;refine eO fun K51 hk51 => ?_;refine tZ F5 ?_;refine hk51 _ ?_;refine hn50 (some ([1, 7, 8, 14, 72, 73, 74, 75], none)) _ ?_;refine eS fun K52 hn52 hr52 he52 => ?_;refine eCt ?_;refine hn52 (some ([1, 7, 8, 14, 72, 73, 74], none)) _ ?_;refine eS fun K53 hn53 hr53 he53 => ?_;refine eB fun K54 hn54 hx54 hr54 he54 => ?_;refine eS fun K55 hn55 hr55 he55 => ?_;refine eO fun K56 hk56 => ?_;refine tC 1 F5 ?_;refine tC 1 F5 ?_;refine tZ F5 ?_;refine hk56 _ ?_;refine hn55 (some ([1, 7, 8, 14, 16, 72, 73, 74], none)) _ ?_;refine eS fun K57 hn57 hr57 he57 => ?_
      refine eS fun K58 hn58 hr58 he58 => ?_;refine eO fun K59 hk59 => ?_;refine tZ F5 ?_;refine hk59 _ ?_;refine hn58 (some ([1, 7, 8, 14, 16, 72, 73, 74, 79], none)) _ ?_;refine eCt ?_;refine eS fun K60 hn60 hr60 he60 => ?_;refine eO fun K61 hk61 => ?_;refine tC 1 F5 ?_;refine tC 2 F5 ?_;refine tS 1 F5 ?_;refine Or.inl (Or.inl ⟨_, k5, ?_⟩);refine tZ F5 ?_;refine hk61 _ ?_;refine hn60 (some ([1, 7, 8, 14, 16, 72, 73, 74], none)) _ ?_;refine eO fun K62 hk62 => ?_;refine tC 3 F5 ?_;refine tL F5 ?_;refine Or.inr (evCallO_mk ((k6 _ _)) (by rfl) (fun Jo6 ro6 Oo6 no6 hPo6 => ?_))
      obtain ⟨rfl, rfl, rfl⟩ := hPo6
      refine hk62 _ ?_;refine hn57 (some ([1, 7, 8, 14, 72, 73, 74], none)) _ ?_;refine eS fun K63 hn63 hr63 he63 => ?_;refine eD [] (n := 27) fun K64 hk64 => ?_;refine sq0 ?_;refine fC 1 F5 ?_;refine fS 1 F5 ?_;refine ⟨_, k9, ?_⟩;refine fC 4 F5 ?_;refine fS 1 F5 ?_;refine ⟨_, k10, ?_⟩;refine fS 1 F5 ?_;refine ⟨_, k11, ?_⟩;refine fC 3 F5 ?_;refine fS 1 F5 ?_;refine ⟨_, k12, ?_⟩;refine fC 4 F5 ?_;refine fS 1 F5 ?_;refine ⟨_, k13, ?_⟩;refine fS 1 F5 ?_;refine ⟨_, k14, ?_⟩;refine fC 4 F5 ?_;refine fS 1 F5 ?_;refine ⟨_, k15, ?_⟩;refine fZ F5 ?_;refine hk64 _ ?_;refine sr0 ?_;refine tC 1 F5 ?_;refine tL F5 ?_
      refine hn63 (some ([1, 7, 8, 14, 72, 73, 74, 148], none)) _ ?_;refine eCf ?_;refine hn54 _ ?_;refine hn53 (some ([1, 7, 8, 14, 72, 73, 74], none)) _ ?_;refine eO fun K66 hk66 => ?_;refine tC 1 F5 ?_;refine tL F5 ?_;refine hk66 _ ?_;refine hn23 (ds.length - (i + 1)) (some ([1, 7, 8, 14, 72, 73, 74], some ([0, 1, 2], 3))) _ ?_ ?_
      all_goals try refine lp0 ?_
      · omega
      · exact ⟨i + 1, N, f, by omega, hN, by rw [hr]; exact hF2, by omega, by rw [hr]⟩
    · skip
      have hcc := (List.getElem?_eq_some_iff.1 hd1).1
      have w2 : (i : Int) < (ds.length : Int) := by omega
      have w3 : IntKind.i64.wrap ((i : Int) + 1) = ((i + 1 : Nat) : Int) := by rw [IntKind.wrap_i64]; omega
      have hr := hsucc hd1
      unfold deedM at hr
      rw [if_neg (by rw [hd2]; decide)] at hr
      have hM2 := hOk (i + 1)
      obtain ⟨hv2, hp2⟩ := hs0 (i + 1)
      generalize runD M0 ds i = M at hF hM hv hp hr ⊢
      have k7 := ok_cDo M d.thread d.act d.choice hM (by omega)
      obtain ⟨X, gg, ee, hX⟩ : ∃ X gg ee, doM M d.thread d.act d.choice = (X, gg, ee) := ⟨_, _, _, rfl⟩
      obtain ⟨f2, hf2⟩ : ∃ f2, f2 = if checkM M d.thread d.act = 0 then (fun j => if j = d.thread then some (sI (stepsM M d.thread + 1)) else f j) else f := ⟨_, rfl⟩
      obtain ⟨N2, hN2⟩ : ∃ N2, N2 = if checkM M d.thread d.act = 0 then 9 else N := ⟨_, rfl⟩
      have k8 := fun A B C D => okO_l6do A B C D hM (by omega) hF hN hX hf2 hN2
      have hN9 : N2 ≤ 9 := by rw [hN2]; split <;> omega
      have hF2 : StepF f2 X := by
        have e1 : (doM M d.thread d.act d.choice).1 = X := by rw [hX]
        rw [hf2, ← e1]
        split
        · rename_i h9; exact stepF_do hM d.choice h9 hF
        · rename_i h9; exact stepF_keep hF (by unfold doM; rw [if_neg h9])
      clear hf2 hN2
      rw [hv] at k8
      rw [hX] at k7 hr
      simp only at hr
      rw [hr] at hM2 hv2 hp2
      have hEq := eqsh_got_refl gg.word gg.ok
      have k9 := ok_cWords X hM2.mem (by omega)
      have k10 := ok_l6last X.mem hM2.mem (by omega)
      rw [words_Q] at k10
      have k11 := ok_l6alike 0 0 (wordsM X) (by have := words_len X; omega)
      have k12 := ok_cLeast X hM2.lines (by omega)
      have k13 := ok_lLeast X.lines hM2.lines.lines (fun y hy => Nat.le_trans (hM2.lines.most y hy) (by omega))
      have k14 := ok_l6alike 0 0 (leftM X.lines fun _ _ => 0) (by rw [left_len, hM2.size]; omega)
      have k15 := ok_cCrashes X
      have F6 := And.intro F1 (And.intro @w2 (And.intro @w3 (And.intro @hd1 @hd2)))
      refine eS fun K67 hn67 hr67 he67 => ?_;refine eO fun K68 hk68 => ?_;refine tZ F6 ?_;refine hk68 _ ?_;refine hn67 (some ([1, 7, 8, 14, 72, 73, 74, 75], none)) _ ?_;refine eS fun K69 hn69 hr69 he69 => ?_;refine eCt ?_;refine hn69 (some ([1, 7, 8, 14, 72, 73, 74], none)) _ ?_;refine eS fun K70 hn70 hr70 he70 => ?_;refine eB fun K71 hn71 hx71 hr71 he71 => ?_;refine eS fun K72 hn72 hr72 he72 => ?_;refine eO fun K73 hk73 => ?_;refine tC 1 F6 ?_;refine tC 1 F6 ?_;refine tZ F6 ?_;refine hk73 _ ?_;refine hn72 (some ([1, 7, 8, 14, 16, 72, 73, 74], none)) _ ?_;refine eS fun K74 hn74 hr74 he74 => ?_
      refine eS fun K75 hn75 hr75 he75 => ?_;refine eO fun K76 hk76 => ?_;refine tZ F6 ?_;refine hk76 _ ?_;refine hn75 (some ([1, 7, 8, 14, 16, 72, 73, 74, 79], none)) _ ?_;refine eCf ?_;refine eS fun K77 hn77 hr77 he77 => ?_;refine eO fun K78 hk78 => ?_;refine tC 1 F6 ?_;refine tC 2 F6 ?_;refine tC 2 F6 ?_;refine tC 2 F6 ?_;refine tS 1 F6 ?_;refine Or.inl (Or.inl ⟨_, k7, ?_⟩);refine tC 7 F6 ?_;refine tC 1 F6 ?_;refine tL F6 ?_;refine hk78 _ ?_;refine hn77 (some ([1, 7, 8, 14, 16, 17, 18, 19, 72, 73, 74], none)) _ ?_;refine eS fun K79 hn79 hr79 he79 => ?_;refine eO fun K80 hk80 => ?_;refine tC 3 F6 ?_
      refine tC 2 F6 ?_;refine tC 2 F6 ?_;refine tS 1 F6 ?_;refine Or.inr (evCallO_mk ((k8 _ _ _ _)) (by rfl) (fun Jo8 ro8 Oo8 no8 hPo8 => ?_))
      obtain ⟨rfl, rfl, rfl⟩ := hPo8
      refine tC 5 F6 ?_;refine tL F6 ?_;refine hk80 _ ?_;refine hn79 (some ([1, 7, 8, 14, 17, 18, 19, 20, 21, 72, 73, 74], none)) _ ?_;refine eS fun K81 hn81 hr81 he81 => ?_;refine eS fun K82 hn82 hr82 he82 => ?_;refine eO fun K83 hk83 => ?_;refine tC 1 F6 ?_;refine tC 1 F6 ?_;refine tS 1 F6 ?_;refine Or.inl ⟨_, hEq, ?_⟩;refine tC 4 F6 ?_;refine tL F6 ?_;refine hk83 _ ?_;refine hn82 (some ([1, 7, 8, 14, 17, 72, 73, 74, 118], none)) _ ?_;refine eCf ?_;refine hn81 (some ([1, 7, 8, 14, 17, 72, 73, 74], none)) _ ?_;refine eO fun K84 hk84 => ?_;refine tC 1 F6 ?_;refine tZ F6 ?_;refine hk84 _ ?_;refine hn74 (some ([1, 7, 8, 14, 72, 73, 74], none)) _ ?_
      refine eS fun K85 hn85 hr85 he85 => ?_;refine eD [] (n := 27) fun K86 hk86 => ?_;refine sq0 ?_;refine fC 1 F6 ?_;refine fS 1 F6 ?_;refine ⟨_, k9, ?_⟩;refine fC 4 F6 ?_;refine fS 1 F6 ?_;refine ⟨_, k10, ?_⟩;refine fS 1 F6 ?_;refine ⟨_, k11, ?_⟩;refine fC 3 F6 ?_;refine fS 1 F6 ?_;refine ⟨_, k12, ?_⟩;refine fC 4 F6 ?_;refine fS 1 F6 ?_;refine ⟨_, k13, ?_⟩;refine fS 1 F6 ?_;refine ⟨_, k14, ?_⟩;refine fC 4 F6 ?_;refine fS 1 F6 ?_;refine ⟨_, k15, ?_⟩;refine fZ F6 ?_;refine hk86 _ ?_;refine sr0 ?_;refine tC 1 F6 ?_;refine tL F6 ?_;refine hn85 (some ([1, 7, 8, 14, 72, 73, 74, 148], none)) _ ?_;refine eCf ?_
      refine hn71 _ ?_;refine hn70 (some ([1, 7, 8, 14, 72, 73, 74], none)) _ ?_;refine eO fun K88 hk88 => ?_;refine tC 1 F6 ?_;refine tL F6 ?_;refine hk88 _ ?_;refine hn23 (ds.length - (i + 1)) (some ([1, 7, 8, 14, 72, 73, 74], some ([0, 1, 2], 3))) _ ?_ ?_
      all_goals try refine lp0 ?_
      · omega
      · exact ⟨i + 1, N2, f2, by omega, hN9, by rw [hr]; exact hF2, by omega, by rw [hr]⟩
end Go.Proofs.Ytkoibcblmgmdmaa

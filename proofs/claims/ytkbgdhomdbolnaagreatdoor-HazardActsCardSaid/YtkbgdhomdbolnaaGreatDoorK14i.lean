/-
  HazardActs by shadows.
-/
import Derived.Test.YtkbgdhomdbolnaaGreatDoorK14f
import Derived.Test.YtkbgdhomdbolnaaGreatDoorK14t
import Derived.Test.YtkbgdhomdbolnaaGreatDoorGen3
import Derived.Test.YtkbgdhomdbolnaaGreatDoorMQ
import Derived.Test.YtkbgdhomdbolnaaGreatDoorMC
namespace Go.Proofs.YtkbgdhomdbolnaaGreatDoor
set_option linter.unusedSimpArgs false
set_option linter.unusedVariables false
open Go.RowKit Go.Maps

theorem act_forms {d : DoH} {i : Nat} {f : Int → WordV} {s : HzV} {y : TaskM hz} (h : HzT d i f s y) (hl : y.live = true) :
    (d.kind % 4 = 0 ∧ ∃ o n, y.act = ⟨5, celP d, o, n⟩) ∨ (d.kind % 4 = 0 ∧ ∃ o n, y.act = ⟨4, hazP i, o, n⟩) ∨ (d.kind % 4 = 1 ∧ ∃ o n, y.act = ⟨4, hazP i, o, n⟩) ∨ (d.kind % 4 = 2 ∧ ∃ m, m < 3 ∧ ∃ o n, y.act = ⟨5, hazP m, o, n⟩) ∨ (d.kind % 4 = 3 ∧ ∃ p o n, y.act = ⟨5, p, o, n⟩) ∨ (d.kind % 4 = 3 ∧ ∃ p o n, y.act = ⟨6, p, o, n⟩) := by
  have hf : finH s = false := by have := h.live; rw [hl] at this; simpa using this.symm
  have h9 := h.st
  generalize y.act = a9 at h9 ⊢
  cases h9 with
  | found k => exact .inl ⟨k, _, _, rfl⟩
  | held k => exact .inr (.inl ⟨k, _, _, rfl⟩)
  | again k h => exact .inl ⟨k, _, _, rfl⟩
  | pdone k h => cases hf
  | clr k => exact .inr (.inr (.inl ⟨k, _, _, rfl⟩))
  | cdone k h => cases hf
  | scan k m hm => exact .inr (.inr (.inr (.inl ⟨k, m, hm, _, _, rfl⟩)))
  | sdone k => cases hf
  | look k => exact .inr (.inr (.inr (.inr (.inl ⟨k, _, _, _, rfl⟩))))
  | swap k g t hne => exact .inr (.inr (.inr (.inr (.inr ⟨k, _, _, _, rfl⟩))))
  | wdone k => cases hf
theorem infoDo14 : (Tryz.prog.info? 40).map (fun i => (i.zero, i.size, i.bytes)) = some (some (.agg #[.int .u8 0, .int .u8 0, .int .i64 0]), 3, 16) := by kernel_rfl
def HcInv (d : Nat → DoH) (r : Run14) (L : LayV) (m : Nat) (S : St) : Prop :=
  ∃ (i : Nat) (w : WorldM hz) (s : Nat → HzV), i ≤ r.picks.length ∧ HzW d w s ∧ WorldOk w (2 + i) ∧ m = r.picks.length - i ∧
    S = ⟨[(1, .ptr 0 0 0), (3, .ptr 1 0 0), (5, .ptr 2 0 0), (32, .sl 3 2 (r.picks.map ePick)), (33, sI r.picks.length), (34, sI i)], [(0, .box 44 (cRun14 r)), (1, boxW w), (2, .box 23 (eLay L))], 3⟩
def Hc2Inv (r : Run14) (L : LayV) (w : WorldM hz) (i : Nat) (p : PickV) (m : Nat) (S : St) : Prop :=
  ∃ j : Nat, j ≤ 3 ∧ m = 3 - j ∧
    S = ⟨[(1, .ptr 0 0 0), (3, .ptr 1 0 0), (5, .ptr 2 0 0), (7, .ptr 3 0 0), (32, .sl 3 2 (r.picks.map ePick)), (33, sI r.picks.length), (34, sI i), (39, .agg [s8h r.d0.kind, s8h r.d0.cell, sI r.d0.n, s8h r.d1.kind, s8h r.d1.cell, sI r.d1.n, s8h r.d2.kind, s8h r.d2.cell, sI r.d2.n]), (40, sI j)], [(0, .box 44 (cRun14 r)), (1, boxW w), (2, .box 23 (eLay L)), (3, .box 67 (ePick p))], 4⟩
set_option maxRecDepth 20000 in
set_option maxHeartbeats 16000000 in
theorem ok_HazardActs (r : Run14) (hr : Run14In r) : Ok 5 [.agg (cRun14 r)] (sB true) := by
  refine ok_of_trO Tryz.func5 tr_HazardActs rfl ?_
  have ka := ok_l14awake
  have k0 := ok_l14Great r
  cases hg : great14 r
  case true =>
    rw [hg] at k0
    unfold evFn sc_HazardActs rv_HazardActs
    refine eS fun K1 hn1 hr1 he1 => ?_;refine eO fun K2 hk2 => ?_;refine tL0 ?_;refine hk2 _ ?_;refine hn1 (some ([1], none)) _ ?_;refine eS fun K3 hn3 hr3 he3 => ?_;refine eS fun K4 hn4 hr4 he4 => ?_;refine eO fun K5 hk5 => ?_;refine tC0 1 ?_;refine tL0 ?_;refine Or.inl (Or.inl ⟨_, k0, ?_⟩);refine hk5 _ ?_;refine hn4 (some ([1, 16], none)) _ ?_;refine eCt ?_;refine eS fun K6 hn6 hr6 he6 => ?_;refine eO fun K7 hk7 => ?_;refine tS0 1 ?_;refine Or.inl (Or.inl ⟨_, ka, ?_⟩);refine tL0 ?_;refine hk7 _ ?_;refine hn6 (some ([2], none)) _ ?_;refine hr3 _ ?_
    exact sf0
  rw [hg] at k0
  have hlen : r.picks.length ≤ 120 := by have := of_decide_eq_false hg; omega
  obtain ⟨a, b, h0, h1, h2, d0, d1, d2, l⟩ := r
  obtain ⟨hd0, hd1, hd2⟩ := hr
  simp only at hlen hd0 hd1 hd2
  have hK := shK hz
  have k2 := ok_l14begun a b h0 h1 h2 d0 d1 d2 hd0 hd1 hd2
  have hW0 := (worldH_ok a b (hsOf h0 h1 h2) (dOf d0 d1 d2)).1
  obtain ⟨hZ0, _, _⟩ := worldH_hzW a b (hsOf h0 h1 h2) (dOf d0 d1 d2)
  have kp := ok_l14plan
  have kh : ∀ i : Nat, i < 3 → Ok 33 [.agg (eLay planH), sI ((i : Int) + 1)] (sI (hazP i)) := fun i hi => by
    have h9 := ok_layHaz planH ((i : Int) + 1)
    have h8 := haz_planH hi
    unfold hazT at h8
    rw [h8] at h9
    exact h9
  have kh0 := kh 0 (by decide)
  have kh1 := kh 1 (by decide)
  have kh2 := kh 2 (by decide)
  have e01 : (hazP 1 == hazP 0) = false := by decide
  have e02 : (hazP 2 == hazP 0) = false := by decide
  have e12 : (hazP 2 == hazP 1) = false := by decide
  obtain ⟨iD, hiD, hzD, hsD, hbD⟩ := info_parts infoDo14
  have hx0 : ∀ {cs : List Sh} {n : Int}, 0 ≤ n → n < ((3 : Nat) : Int) → GenRel (.index 41 (.tmp 39) (.tmp 40)) [.tmp 39, .tmp 40] [.agg cs, .v (.int .i64 n)] (.agg ((cs.drop (n.toNat * 3)).take 3)) := fun q1 q2 => gen_indexk Tryz.underlying41 hiD hsD Tryz.isAgg40 q1 q2
  have hdat : ∀ j, j < 3 → ∃ d : DoH, d = dOf d0 d1 d2 j ∧ DoInH d ∧ ([s8h d0.kind, s8h d0.cell, sI d0.n, s8h d1.kind, s8h d1.cell, sI d1.n, s8h d2.kind, s8h d2.cell, sI d2.n].drop (j * 3)).take 3 = [s8h d.kind, s8h d.cell, sI d.n] := fun j hj =>
    match j, hj with
    | 0, _ => ⟨d0, rfl, hd0, rfl⟩
    | 1, _ => ⟨d1, rfl, hd1, rfl⟩
    | 2, _ => ⟨d2, rfl, hd2, rfl⟩
  have kcel : ∀ d : DoH, Ok 25 [.agg (eLay planH), sI (d.cell % 2)] (sI (celP d)) := fun d => ok_layCell planH (d.cell % 2)
  obtain ⟨dd, hdd⟩ : ∃ dd, dd = dOf d0 d1 d2 := ⟨_, rfl⟩
  rw [← hdd] at k2 hW0 hZ0 hdat
  clear hdd hg kh0 kh1 kh2
  have kh0 : Ok 33 [.agg (eLay planH), sI 1] (sI (hazP 0)) := kh 0 (by decide)
  have kh1 : Ok 33 [.agg (eLay planH), sI 2] (sI (hazP 1)) := kh 1 (by decide)
  have kh2 : Ok 33 [.agg (eLay planH), sI 3] (sI (hazP 2)) := kh 2 (by decide)
  generalize (fun i => (hzNext (codeH i (dd i)) zGot).1) = s0 at hZ0
  generalize worldH a b (hsOf h0 h1 h2) dd = W0 at k2 hW0 hZ0
  generalize planH = L at kp kh kcel kh0 kh1 kh2
  unfold evFn sc_HazardActs rv_HazardActs
  have F1 := @hK
  refine eS fun K1 hn1 hr1 he1 => ?_;refine eO fun K2 hk2 => ?_;refine tL F1 ?_;refine hk2 _ ?_;refine hn1 (some ([1], none)) _ ?_;refine eS fun K3 hn3 hr3 he3 => ?_;refine eS fun K4 hn4 hr4 he4 => ?_;refine eO fun K5 hk5 => ?_;refine tC 1 F1 ?_;refine tL F1 ?_;refine Or.inl (Or.inl ⟨_, k0, ?_⟩);refine hk5 _ ?_;refine hn4 (some ([1, 16], none)) _ ?_;refine eCf ?_;refine hn3 (some ([1], none)) _ ?_;refine eS fun K6 hn6 hr6 he6 => ?_;refine eO fun K7 hk7 => ?_;refine tC 2 F1 ?_;refine tC 2 F1 ?_;refine tC 2 F1 ?_;refine tS 1 F1 ?_;refine Or.inl (Or.inl ⟨_, k2, ?_⟩);refine tC 5 F1 ?_;refine tL F1 ?_
  refine hk7 _ ?_;refine hn6 (some ([1, 3, 4], none)) _ ?_;refine eS fun K8 hn8 hr8 he8 => ?_;refine eS fun K9 hn9 hr9 he9 => ?_;refine eO fun K10 hk10 => ?_;refine tL F1 ?_;refine hk10 _ ?_;refine hn9 (some ([1, 3, 29], none)) _ ?_;refine eCf ?_;refine hn8 (some ([1, 3], none)) _ ?_;refine eS fun K11 hn11 hr11 he11 => ?_;refine eO fun K12 hk12 => ?_;refine tS 1 F1 ?_;refine Or.inl (Or.inl ⟨_, kp, ?_⟩);refine tZ F1 ?_;refine hk12 _ ?_;refine hn11 (some ([1, 3, 5], none)) _ ?_;refine eS fun K13 hn13 hr13 he13 => ?_;refine eS fun K14 hn14 hr14 he14 => ?_;refine eO fun K15 hk15 => ?_;refine tC 2 F1 ?_
  refine tL F1 ?_;refine hk15 _ ?_;refine hn14 (some ([1, 3, 5, 32, 33, 34], none)) _ ?_;refine eB fun K16 hn16 hx16 hr16 he16 => ?_;refine eW (HcInv dd ⟨a, b, h0, h1, h2, d0, d1, d2, l⟩ L) (l.length) (some ([1, 3, 5, 32, 33, 34], some ([0, 1, 2], 3))) ([]) ?_ ?_
  · try refine lp0 ?_
    exact ⟨0, W0, s0, by omega, hZ0, hW0, rfl, by rfl⟩
  · intro k S1 hI
    obtain ⟨i, w, s, hi, hZ, hW, rfl, rfl⟩ := hI
    have hi : i ≤ l.length := hi
    have hcase : i = l.length ∨ (∃ p, l[i]? = some p) := by
      rcases Nat.lt_or_ge i l.length with h | h
      · exact .inr ⟨_, List.getElem?_eq_getElem h⟩
      · exact .inl (by omega)
    intro K17 hn17 hr17 he17
    rcases hcase with hcc | ⟨p, hp1⟩
    · skip
      have x2 : ¬ (i : Int) < (l.length : Int) := by omega
      have F2 := And.intro F1 @x2
      refine eS fun K18 hn18 hr18 he18 => ?_;refine eO fun K19 hk19 => ?_;refine tZ F2 ?_;refine hk19 _ ?_;refine hn18 (some ([1, 3, 5, 32, 33, 34, 35], none)) _ ?_;refine eS fun K20 hn20 hr20 he20 => ?_;refine eCf ?_;refine he20 0 _ ?_;refine he17 0 _ ?_;refine hx16 _ ?_;refine hn13 (some ([], none)) _ ?_;refine eS fun K21 hn21 hr21 he21 => ?_;refine eO fun K22 hk22 => ?_;refine tS 1 F2 ?_;refine Or.inl (Or.inl ⟨_, ka, ?_⟩);refine tL F2 ?_;refine hk22 _ ?_;refine hn21 (some ([2], none)) _ ?_
      exact sf1 F2
    · skip
      have hcc := (List.getElem?_eq_some_iff.1 hp1).1
      have x2 : (i : Int) < (l.length : Int) := by omega
      have x3 : IntKind.i64.wrap ((i : Int) + 1) = ((i + 1 : Nat) : Int) := by rw [IntKind.wrap_i64]; omega
      have x4 : (w.tasks.length : Int) = 3 := by have := hZ.len; omega
      have F3 := And.intro F1 (And.intro @x2 (And.intro @x3 @hp1))
      refine eS fun K23 hn23 hr23 he23 => ?_;refine eO fun K24 hk24 => ?_;refine tZ F3 ?_;refine hk24 _ ?_;refine hn23 (some ([1, 3, 5, 32, 33, 34, 35], none)) _ ?_;refine eS fun K25 hn25 hr25 he25 => ?_;refine eCt ?_;refine hn25 (some ([1, 3, 5, 32, 33, 34], none)) _ ?_;refine eS fun K26 hn26 hr26 he26 => ?_;refine eB fun K27 hn27 hx27 hr27 he27 => ?_;refine eS fun K28 hn28 hr28 he28 => ?_;refine eO fun K29 hk29 => ?_;refine tC 1 F3 ?_;refine tC 1 F3 ?_;refine tZ F3 ?_;refine hk29 _ ?_;refine hn28 (some ([1, 3, 5, 7, 32, 33, 34], none)) _ ?_;refine eS fun K30 hn30 hr30 he30 => ?_;refine eS fun K31 hn31 hr31 he31 => ?_
      refine eO fun K32 hk32 => ?_;refine tC 2 F3 ?_;refine tL F3 ?_;refine hk32 _ ?_;refine hn31 (some ([1, 3, 5, 7, 32, 33, 34, 39, 40], none)) _ ?_;refine eB fun K33 hn33 hx33 hr33 he33 => ?_;refine eW (Hc2Inv ⟨a, b, h0, h1, h2, d0, d1, d2, l⟩ L w i p) (3) (some ([1, 3, 5, 7, 32, 33, 34, 39, 40], some ([0, 1, 2, 3], 4))) ([]) ?_ ?_
      · try refine lp0 ?_
        exact ⟨0, by omega, by omega, by rfl⟩
      · intro k S1 hI
        obtain ⟨j, hj, rfl, rfl⟩ := hI
        have hcas2 : (j = 3 ∧ p.kind = 2) ∨ (j = 3 ∧ p.kind ≠ 2) ∨ (∃ y d, w.tasks[j]? = some y ∧ j < 3 ∧ d = dd j ∧ y.live = false) ∨
            (∃ y d o n, w.tasks[j]? = some y ∧ j < 3 ∧ d = dd j ∧ y.live = true ∧ d.kind % 4 = 0 ∧ y.act = ⟨5, celP d, o, n⟩) ∨
            (∃ y d o n, w.tasks[j]? = some y ∧ j < 3 ∧ d = dd j ∧ y.live = true ∧ d.kind % 4 = 0 ∧ y.act = ⟨4, hazP j, o, n⟩) ∨
            (∃ y d o n, w.tasks[j]? = some y ∧ j < 3 ∧ d = dd j ∧ y.live = true ∧ d.kind % 4 = 1 ∧ y.act = ⟨4, hazP j, o, n⟩) ∨
            (∃ y d o n, w.tasks[j]? = some y ∧ j < 3 ∧ d = dd j ∧ y.live = true ∧ d.kind % 4 = 2 ∧ y.act = ⟨5, hazP 0, o, n⟩) ∨
            (∃ y d o n, w.tasks[j]? = some y ∧ j < 3 ∧ d = dd j ∧ y.live = true ∧ d.kind % 4 = 2 ∧ y.act = ⟨5, hazP 1, o, n⟩) ∨
            (∃ y d o n, w.tasks[j]? = some y ∧ j < 3 ∧ d = dd j ∧ y.live = true ∧ d.kind % 4 = 2 ∧ y.act = ⟨5, hazP 2, o, n⟩) ∨
            (∃ y d pl o n, w.tasks[j]? = some y ∧ j < 3 ∧ d = dd j ∧ y.live = true ∧ d.kind % 4 = 3 ∧ y.act = ⟨5, pl, o, n⟩) ∨ (∃ y d pl o n, w.tasks[j]? = some y ∧ j < 3 ∧ d = dd j ∧ y.live = true ∧ d.kind % 4 = 3 ∧ y.act = ⟨6, pl, o, n⟩) := by
          rcases Nat.lt_or_ge j 3 with h | h
          · obtain ⟨y, hy, hT⟩ := hZ.get h
            cases hl : y.live
            · exact .inr (.inr (.inl ⟨y, _, hy, h, rfl, hl⟩))
            · rcases act_forms hT hl with ⟨q, o, n, e⟩ | ⟨q, o, n, e⟩ | ⟨q, o, n, e⟩ | ⟨q, m, hm, o, n, e⟩ | ⟨q, pl, o, n, e⟩ | ⟨q, pl, o, n, e⟩
              · exact .inr (.inr (.inr (.inl ⟨y, _, o, n, hy, h, rfl, hl, q, e⟩)))
              · exact .inr (.inr (.inr (.inr (.inl ⟨y, _, o, n, hy, h, rfl, hl, q, e⟩))))
              · exact .inr (.inr (.inr (.inr (.inr (.inl ⟨y, _, o, n, hy, h, rfl, hl, q, e⟩)))))
              · have hm3 : m = 0 ∨ m = 1 ∨ m = 2 := by omega
                rcases hm3 with rfl | rfl | rfl
                · exact .inr (.inr (.inr (.inr (.inr (.inr (.inl ⟨y, _, o, n, hy, h, rfl, hl, q, e⟩))))))
                · exact .inr (.inr (.inr (.inr (.inr (.inr (.inr (.inl ⟨y, _, o, n, hy, h, rfl, hl, q, e⟩)))))))
                · exact .inr (.inr (.inr (.inr (.inr (.inr (.inr (.inr (.inl ⟨y, _, o, n, hy, h, rfl, hl, q, e⟩))))))))
              · exact .inr (.inr (.inr (.inr (.inr (.inr (.inr (.inr (.inr (.inl ⟨y, _, pl, o, n, hy, h, rfl, hl, q, e⟩)))))))))
              · exact .inr (.inr (.inr (.inr (.inr (.inr (.inr (.inr (.inr (.inr ⟨y, _, pl, o, n, hy, h, rfl, hl, q, e⟩)))))))))
          · by_cases hk : p.kind = 2
            · exact .inl ⟨by omega, hk⟩
            · exact .inr (.inl ⟨by omega, hk⟩)
        intro K34 hn34 hr34 he34
        rcases hcas2 with ⟨rfl, hk⟩ | ⟨rfl, hk⟩ | ⟨y, d, hy, hj3, hdj, hyl⟩ | ⟨y, d, o, n, hy, hj3, hdj, hyl, hq, hact⟩ | ⟨y, d, o, n, hy, hj3, hdj, hyl, hq, hact⟩ | ⟨y, d, o, n, hy, hj3, hdj, hyl, hq, hact⟩ | ⟨y, d, o, n, hy, hj3, hdj, hyl, hq, hact⟩ | ⟨y, d, o, n, hy, hj3, hdj, hyl, hq, hact⟩ | ⟨y, d, o, n, hy, hj3, hdj, hyl, hq, hact⟩ | ⟨y, d, pl, o, n, hy, hj3, hdj, hyl, hq, hact⟩ | ⟨y, d, pl, o, n, hy, hj3, hdj, hyl, hq, hact⟩
        · skip
          have z3 : ¬ ((3 : Nat) : Int) < 3 := by decide
          have z4 : (p.kind != 2) = false := by simpa using hk
          have F4 := And.intro F3 (And.intro @z3 (And.intro @z4 @x4))
          refine eS fun K35 hn35 hr35 he35 => ?_;refine eO fun K36 hk36 => ?_;refine tZ F4 ?_;refine hk36 _ ?_;refine hn35 (some ([1, 3, 5, 7, 32, 33, 34, 39, 40, 41], none)) _ ?_;refine eS fun K37 hn37 hr37 he37 => ?_;refine eCf ?_;refine he37 2 _ ?_;refine he34 2 _ ?_;refine hx33 _ ?_;refine hn30 (some ([1, 3, 5, 7, 32, 33, 34], none)) _ ?_;refine eS fun K38 hn38 hr38 he38 => ?_;refine eS fun K39 hn39 hr39 he39 => ?_;refine eO fun K40 hk40 => ?_;refine tC 2 F4 ?_;refine tZ F4 ?_;refine hk40 _ ?_;refine hn39 (some ([1, 3, 5, 7, 32, 33, 34, 145], none)) _ ?_;refine eCf ?_;refine hn38 (some ([1, 3, 5, 32, 33, 34], none)) _ ?_
          refine eS fun K41 hn41 hr41 he41 => ?_;refine eO fun K42 hk42 => ?_;refine tC 2 F4 ?_;refine tZ F4 ?_;refine hk42 _ ?_;refine hn41 (some ([1, 3, 5, 32, 33, 34, 155], none)) _ ?_;refine eCf ?_;refine hn27 _ ?_;refine hn26 (some ([1, 3, 5, 32, 33, 34], none)) _ ?_;refine eO fun K43 hk43 => ?_;refine tC 1 F4 ?_;refine tL F4 ?_;refine hk43 _ ?_;refine hn17 (l.length - (i + 1)) (some ([1, 3, 5, 32, 33, 34], some ([0, 1, 2], 3))) _ ?_ ?_
          all_goals try refine lp0 ?_
          · show l.length - (i + 1) < l.length - i; omega
          · exact ⟨i + 1, w, s, by show i + 1 ≤ l.length; omega, hZ, worldOk_up hW (by omega), rfl, by rfl⟩
        · skip
          have z3 : ¬ ((3 : Nat) : Int) < 3 := by decide
          have z4 : (p.kind != 2) = true := by simpa using hk
          have k10 := ok_kStep w p hW (by omega)
          have hW' := stepOk hW p
          obtain ⟨s', hZ', _⟩ := hzW_step hZ p hk
          generalize (stepM w p).2 = bb at k10
          generalize (stepM w p).1 = w' at k10 hZ' hW'
          have z5 : (w'.tasks.length : Int) = 3 := by have := hZ'.len; omega
          have F5 := And.intro F3 (And.intro @z3 (And.intro @z4 @z5))
          refine eS fun K44 hn44 hr44 he44 => ?_;refine eO fun K45 hk45 => ?_;refine tZ F5 ?_;refine hk45 _ ?_;refine hn44 (some ([1, 3, 5, 7, 32, 33, 34, 39, 40, 41], none)) _ ?_;refine eS fun K46 hn46 hr46 he46 => ?_;refine eCf ?_;refine he46 2 _ ?_;refine he34 2 _ ?_;refine hx33 _ ?_;refine hn30 (some ([1, 3, 5, 7, 32, 33, 34], none)) _ ?_;refine eS fun K47 hn47 hr47 he47 => ?_;refine eS fun K48 hn48 hr48 he48 => ?_;refine eO fun K49 hk49 => ?_;refine tC 2 F5 ?_;refine tZ F5 ?_;refine hk49 _ ?_;refine hn48 (some ([1, 3, 5, 7, 32, 33, 34, 145], none)) _ ?_;refine eCt ?_;refine eO fun K50 hk50 => ?_
          refine tC 1 F5 ?_;refine tC 1 F5 ?_;refine tS 1 F5 ?_;refine Or.inl (Or.inl ⟨_, k10, ?_⟩);refine tZ F5 ?_;refine hk50 _ ?_;refine hn47 (some ([1, 3, 5, 32, 33, 34], none)) _ ?_;refine eS fun K51 hn51 hr51 he51 => ?_;refine eO fun K52 hk52 => ?_;refine tC 2 F5 ?_;refine tZ F5 ?_;refine hk52 _ ?_;refine hn51 (some ([1, 3, 5, 32, 33, 34, 155], none)) _ ?_;refine eCf ?_;refine hn27 _ ?_;refine hn26 (some ([1, 3, 5, 32, 33, 34], none)) _ ?_;refine eO fun K53 hk53 => ?_;refine tC 1 F5 ?_;refine tL F5 ?_;refine hk53 _ ?_;refine hn17 (l.length - (i + 1)) (some ([1, 3, 5, 32, 33, 34], some ([0, 1, 2], 3))) _ ?_ ?_
          all_goals try refine lp0 ?_
          · show l.length - (i + 1) < l.length - i; omega
          · exact ⟨i + 1, w', s', by show i + 1 ≤ l.length; omega, hZ', by have e9 : 2 + (i + 1) = 2 + i + 1 := rfl; rw [e9]; exact hW', rfl, by rfl⟩
        · skip
          have v0 : (0 : Int) ≤ (j : Int) := by omega
          have v1 : (j : Int) < ((3 : Nat) : Int) := by omega
          have v2 : (j : Int) < 3 := by omega
          have v3 : IntKind.i64.wrap ((j : Int) + 1) = (j : Int) + 1 := by rw [IntKind.wrap_i64]; omega
          have v4 : (j : Int) + 1 = ((j + 1 : Nat) : Int) := by omega
          have v5 : j < w.tasks.length := by have := hZ.len; omega
          have v6 : (j : Int) < (w.tasks.length : Int) := by omega
          obtain ⟨d9, hd9, hdi, hdr⟩ := hdat j hj3
          have v7 : j * 3 / 3 = j := by omega
          rw [← hdj] at hd9
          have hd8 := hd9.symm
          subst hd8
          have k4 := ok_kAct y
          rw [hyl] at k4
          have k5 := kh j hj3
          have F6 := And.intro F3 (And.intro @v0 (And.intro @v1 (And.intro @v2 (And.intro @v3 (And.intro @v5 (And.intro @v6 (And.intro @hy @hdr)))))))
          refine eS fun K54 hn54 hr54 he54 => ?_;refine eO fun K55 hk55 => ?_;refine tZ F6 ?_;refine hk55 _ ?_;refine hn54 (some ([1, 3, 5, 7, 32, 33, 34, 39, 40, 41], none)) _ ?_;refine eS fun K56 hn56 hr56 he56 => ?_;refine eCt ?_;refine hn56 (some ([1, 3, 5, 7, 32, 33, 34, 39, 40], none)) _ ?_;refine eS fun K57 hn57 hr57 he57 => ?_;refine eB fun K58 hn58 hx58 hr58 he58 => ?_;refine eS fun K59 hn59 hr59 he59 => ?_;refine eO fun K60 hk60 => ?_;refine tS 1 F6 ?_;refine tS 1 F6 ?_;refine ⟨_, hx0 v0 v1, ?_⟩;refine tZ F6 ?_;refine hk60 _ ?_;refine hn59 (some ([1, 3, 5, 7, 8, 9, 32, 33, 34, 39, 40], none)) _ ?_
          refine eS fun K61 hn61 hr61 he61 => ?_;refine eO fun K62 hk62 => ?_;refine tC 2 F6 ?_;refine tC 2 F6 ?_;refine tC 1 F6 ?_;refine tS 1 F6 ?_;refine Or.inl (Or.inl ⟨_, k4, ?_⟩);refine tC 5 F6 ?_;refine tL F6 ?_;refine hk62 _ ?_;refine hn61 (some ([1, 3, 5, 7, 8, 9, 10, 11, 32, 33, 34, 39, 40], none)) _ ?_;refine eS fun K63 hn63 hr63 he63 => ?_;refine eS fun K64 hn64 hr64 he64 => ?_;refine eO fun K65 hk65 => ?_;refine tL F6 ?_;refine hk65 _ ?_;refine hn64 (some ([1, 3, 5, 7, 8, 9, 10, 32, 33, 34, 39, 40, 54], none)) _ ?_;refine eCt ?_;refine he63 3 _ ?_;refine hx58 _ ?_;refine hn57 (some ([1, 3, 5, 7, 32, 33, 34, 39, 40], none)) _ ?_
          refine eO fun K66 hk66 => ?_;refine tC 1 F6 ?_;refine tL F6 ?_;refine hk66 _ ?_;refine hn34 (3 - (j + 1)) (some ([1, 3, 5, 7, 32, 33, 34, 39, 40], some ([0, 1, 2, 3], 4))) _ ?_ ?_
          all_goals try refine lp0 ?_
          · omega
          · exact ⟨j + 1, by omega, by omega, by rfl⟩
        · skip
          have v0 : (0 : Int) ≤ (j : Int) := by omega
          have v1 : (j : Int) < ((3 : Nat) : Int) := by omega
          have v2 : (j : Int) < 3 := by omega
          have v3 : IntKind.i64.wrap ((j : Int) + 1) = (j : Int) + 1 := by rw [IntKind.wrap_i64]; omega
          have v4 : (j : Int) + 1 = ((j + 1 : Nat) : Int) := by omega
          have v5 : j < w.tasks.length := by have := hZ.len; omega
          have v6 : (j : Int) < (w.tasks.length : Int) := by omega
          obtain ⟨d9, hd9, hdi, hdr⟩ := hdat j hj3
          have v7 : j * 3 / 3 = j := by omega
          rw [← hdj] at hd9
          have hd8 := hd9.symm
          subst hd8
          have k4 := ok_kAct y
          rw [hyl, hact] at k4
          have k5 := kh j hj3
          have v8 : d.kind.tmod 4 = 0 := remH hdi.kind hq
          have v9 : d.cell.tmod 2 = d.cell % 2 := remH hdi.cell rfl
          have v10 : IntKind.i64.wrap (d.cell % 2) = d.cell % 2 := by rw [IntKind.wrap_i64]; omega
          have k6 := kcel d
          have F7 := And.intro F3 (And.intro @v0 (And.intro @v1 (And.intro @v2 (And.intro @v3 (And.intro @v5 (And.intro @v6 (And.intro @hy (And.intro @hdr (And.intro @v8 (And.intro @v9 @v10))))))))))
          refine eS fun K67 hn67 hr67 he67 => ?_;refine eO fun K68 hk68 => ?_;refine tZ F7 ?_;refine hk68 _ ?_;refine hn67 (some ([1, 3, 5, 7, 32, 33, 34, 39, 40, 41], none)) _ ?_;refine eS fun K69 hn69 hr69 he69 => ?_;refine eCt ?_;refine hn69 (some ([1, 3, 5, 7, 32, 33, 34, 39, 40], none)) _ ?_;refine eS fun K70 hn70 hr70 he70 => ?_;refine eB fun K71 hn71 hx71 hr71 he71 => ?_;refine eS fun K72 hn72 hr72 he72 => ?_;refine eO fun K73 hk73 => ?_;refine tS 1 F7 ?_;refine tS 1 F7 ?_;refine ⟨_, hx0 v0 v1, ?_⟩;refine tZ F7 ?_;refine hk73 _ ?_;refine hn72 (some ([1, 3, 5, 7, 8, 9, 32, 33, 34, 39, 40], none)) _ ?_
          refine eS fun K74 hn74 hr74 he74 => ?_;refine eO fun K75 hk75 => ?_;refine tC 2 F7 ?_;refine tC 2 F7 ?_;refine tC 1 F7 ?_;refine tS 1 F7 ?_;refine Or.inl (Or.inl ⟨_, k4, ?_⟩);refine tC 5 F7 ?_;refine tL F7 ?_;refine hk75 _ ?_;refine hn74 (some ([1, 3, 5, 7, 8, 9, 10, 11, 32, 33, 34, 39, 40], none)) _ ?_;refine eS fun K76 hn76 hr76 he76 => ?_;refine eS fun K77 hn77 hr77 he77 => ?_;refine eO fun K78 hk78 => ?_;refine tL F7 ?_;refine hk78 _ ?_;refine hn77 (some ([1, 3, 5, 7, 8, 9, 10, 32, 33, 34, 39, 40, 54], none)) _ ?_;refine eCf ?_;refine hn76 (some ([1, 3, 5, 7, 8, 9, 10, 32, 33, 34, 39, 40], none)) _ ?_
          refine eS fun K79 hn79 hr79 he79 => ?_;refine eO fun K80 hk80 => ?_;refine tC 1 F7 ?_;refine tC 2 F7 ?_;refine tS 1 F7 ?_;refine Or.inl (Or.inl ⟨_, k5, ?_⟩);refine tL F7 ?_;refine hk80 _ ?_;refine hn79 (some ([1, 3, 5, 7, 9, 10, 12, 32, 33, 34, 39, 40], none)) _ ?_;refine eS fun K81 hn81 hr81 he81 => ?_;refine eO fun K82 hk82 => ?_;refine tC 2 F7 ?_;refine tC 1 F7 ?_;refine tC 3 F7 ?_;refine tC 1 F7 ?_;refine tC 4 F7 ?_;refine tC 1 F7 ?_;refine tL F7 ?_;refine hk82 _ ?_;refine hn81 (some ([1, 3, 5, 7, 9, 10, 12, 13, 32, 33, 34, 39, 40], none)) _ ?_;refine eS fun K83 hn83 hr83 he83 => ?_
          refine eO fun K84 hk84 => ?_;refine tL F7 ?_;refine hk84 _ ?_;refine hn83 (some ([1, 3, 5, 7, 9, 10, 12, 13, 14, 32, 33, 34, 39, 40], none)) _ ?_;refine eS fun K85 hn85 hr85 he85 => ?_;refine eS fun K86 hn86 hr86 he86 => ?_;refine eO fun K87 hk87 => ?_;refine tC 2 F7 ?_;refine tZ F7 ?_;refine hk87 _ ?_;refine hn86 (some ([1, 3, 5, 7, 9, 10, 12, 13, 14, 32, 33, 34, 39, 40, 74], none)) _ ?_;refine eB fun K88 hn88 hx88 hr88 he88 => ?_;refine eS fun K89 hn89 hr89 he89 => ?_;refine eO fun K90 hk90 => ?_;refine tC 1 F7 ?_;refine tL F7 ?_;refine hk90 _ ?_;refine hn89 (some ([1, 3, 5, 7, 9, 10, 12, 13, 14, 32, 33, 34, 39, 40, 74, 75], none)) _ ?_
          refine eCt ?_;refine eP ([]) [1, 3, 5, 7, 14, 32, 33, 34, 39, 40] [0, 1, 2, 3, 4, 5, 6, 7, 8, 9, 10, 11, 12, 13, 14, 15, 16, 17, 18, 19, 20, 21, 22, 23] [] (by kernel_rfl) (fun K91 hk91 => ?_);refine sp0 ?_
          have F8 := And.intro F7 @shPP
          refine evP_take 2 fun K92 hk92 => ?_;refine sh1 F8 ?_;refine sd ?_;refine hk92 _ ?_;refine evP_take 1 fun K93 hk93 => ?_;refine sh1 F8 ?_;refine sd ?_;refine hk93 _ ?_;refine evP_take 3 fun K94 hk94 => ?_;refine sh1 F8 ?_;refine sd ?_;refine hk94 _ ?_;refine evP_take 1 fun K95 hk95 => ?_;refine sh1 F8 ?_;refine sd ?_;refine hk95 _ ?_;refine evP_take 2 fun K96 hk96 => ?_;refine sh1 F8 ?_;refine sd ?_;refine hk96 _ ?_;refine evP_take 1 fun K97 hk97 => ?_;refine sh1 F8 ?_;refine sd ?_;refine hk97 _ ?_;refine evP_take 1 fun K98 hk98 => ?_;refine sh1 F8 ?_;refine hk98 _ ?_;refine evP_take 1 fun K99 hk99 => ?_
          refine sh1 F8 ?_;refine ⟨_, k6, ?_⟩;refine hk99 _ ?_;refine evP_take 1 fun K100 hk100 => ?_;refine sh1 F8 ?_;refine sd ?_;refine hk100 _ ?_;refine evP_take 6 fun K101 hk101 => ?_;refine sh1 F8 ?_;refine sd ?_;refine hk101 _ ?_;refine evP_take 2 fun K102 hk102 => ?_;refine sh1 F8 ?_;refine sd ?_;refine hk102 _ ?_;refine sh1 F8 ?_;refine hk91 _ (by rfl) (fun K103 hk103 => ?_);refine sp0 ?_;refine toKL ?_;refine tL F8 ?_;refine hk103 _ ?_;refine so0 ?_;refine hn88 _ ?_;refine hn85 (some ([1, 3, 5, 7, 14, 32, 33, 34, 39, 40], none)) _ ?_;refine eS fun K104 hn104 hr104 he104 => ?_;refine eO fun K105 hk105 => ?_
          refine tL F8 ?_;refine hk105 _ ?_;refine hn104 (some ([1, 3, 5, 7, 32, 33, 34, 39, 40, 141], none)) _ ?_;refine eCf ?_;refine hn71 _ ?_;refine hn70 (some ([1, 3, 5, 7, 32, 33, 34, 39, 40], none)) _ ?_;refine eO fun K106 hk106 => ?_;refine tC 1 F8 ?_;refine tL F8 ?_;refine hk106 _ ?_;refine hn34 (3 - (j + 1)) (some ([1, 3, 5, 7, 32, 33, 34, 39, 40], some ([0, 1, 2, 3], 4))) _ ?_ ?_
          all_goals try refine lp0 ?_
          · omega
          · exact ⟨j + 1, by omega, by omega, by rfl⟩
        · skip
          have v0 : (0 : Int) ≤ (j : Int) := by omega
          have v1 : (j : Int) < ((3 : Nat) : Int) := by omega
          have v2 : (j : Int) < 3 := by omega
          have v3 : IntKind.i64.wrap ((j : Int) + 1) = (j : Int) + 1 := by rw [IntKind.wrap_i64]; omega
          have v4 : (j : Int) + 1 = ((j + 1 : Nat) : Int) := by omega
          have v5 : j < w.tasks.length := by have := hZ.len; omega
          have v6 : (j : Int) < (w.tasks.length : Int) := by omega
          obtain ⟨d9, hd9, hdi, hdr⟩ := hdat j hj3
          have v7 : j * 3 / 3 = j := by omega
          rw [← hdj] at hd9
          have hd8 := hd9.symm
          subst hd8
          have k4 := ok_kAct y
          rw [hyl, hact] at k4
          have k5 := kh j hj3
          have v8 : d.kind.tmod 4 = 0 := remH hdi.kind hq
          have F9 := And.intro F3 (And.intro @v0 (And.intro @v1 (And.intro @v2 (And.intro @v3 (And.intro @v5 (And.intro @v6 (And.intro @hy (And.intro @hdr @v8))))))))
          refine eS fun K107 hn107 hr107 he107 => ?_;refine eO fun K108 hk108 => ?_;refine tZ F9 ?_;refine hk108 _ ?_;refine hn107 (some ([1, 3, 5, 7, 32, 33, 34, 39, 40, 41], none)) _ ?_;refine eS fun K109 hn109 hr109 he109 => ?_;refine eCt ?_;refine hn109 (some ([1, 3, 5, 7, 32, 33, 34, 39, 40], none)) _ ?_;refine eS fun K110 hn110 hr110 he110 => ?_;refine eB fun K111 hn111 hx111 hr111 he111 => ?_;refine eS fun K112 hn112 hr112 he112 => ?_;refine eO fun K113 hk113 => ?_;refine tS 1 F9 ?_;refine tS 1 F9 ?_;refine ⟨_, hx0 v0 v1, ?_⟩;refine tZ F9 ?_;refine hk113 _ ?_;refine hn112 (some ([1, 3, 5, 7, 8, 9, 32, 33, 34, 39, 40], none)) _ ?_
          refine eS fun K114 hn114 hr114 he114 => ?_;refine eO fun K115 hk115 => ?_;refine tC 2 F9 ?_;refine tC 2 F9 ?_;refine tC 1 F9 ?_;refine tS 1 F9 ?_;refine Or.inl (Or.inl ⟨_, k4, ?_⟩);refine tC 5 F9 ?_;refine tL F9 ?_;refine hk115 _ ?_;refine hn114 (some ([1, 3, 5, 7, 8, 9, 10, 11, 32, 33, 34, 39, 40], none)) _ ?_;refine eS fun K116 hn116 hr116 he116 => ?_;refine eS fun K117 hn117 hr117 he117 => ?_;refine eO fun K118 hk118 => ?_;refine tL F9 ?_;refine hk118 _ ?_;refine hn117 (some ([1, 3, 5, 7, 8, 9, 10, 32, 33, 34, 39, 40, 54], none)) _ ?_;refine eCf ?_;refine hn116 (some ([1, 3, 5, 7, 8, 9, 10, 32, 33, 34, 39, 40], none)) _ ?_
          refine eS fun K119 hn119 hr119 he119 => ?_;refine eO fun K120 hk120 => ?_;refine tC 1 F9 ?_;refine tC 2 F9 ?_;refine tS 1 F9 ?_;refine Or.inl (Or.inl ⟨_, k5, ?_⟩);refine tL F9 ?_;refine hk120 _ ?_;refine hn119 (some ([1, 3, 5, 7, 9, 10, 12, 32, 33, 34, 39, 40], none)) _ ?_;refine eS fun K121 hn121 hr121 he121 => ?_;refine eO fun K122 hk122 => ?_;refine tC 2 F9 ?_;refine tC 1 F9 ?_;refine tC 3 F9 ?_;refine tC 1 F9 ?_;refine tC 4 F9 ?_;refine tC 1 F9 ?_;refine tL F9 ?_;refine hk122 _ ?_;refine hn121 (some ([1, 3, 5, 7, 9, 10, 12, 13, 32, 33, 34, 39, 40], none)) _ ?_;refine eS fun K123 hn123 hr123 he123 => ?_
          refine eO fun K124 hk124 => ?_;refine tL F9 ?_;refine hk124 _ ?_;refine hn123 (some ([1, 3, 5, 7, 9, 10, 12, 13, 14, 32, 33, 34, 39, 40], none)) _ ?_;refine eS fun K125 hn125 hr125 he125 => ?_;refine eS fun K126 hn126 hr126 he126 => ?_;refine eO fun K127 hk127 => ?_;refine tC 2 F9 ?_;refine tZ F9 ?_;refine hk127 _ ?_;refine hn126 (some ([1, 3, 5, 7, 9, 10, 12, 13, 14, 32, 33, 34, 39, 40, 74], none)) _ ?_;refine eB fun K128 hn128 hx128 hr128 he128 => ?_;refine eS fun K129 hn129 hr129 he129 => ?_;refine eO fun K130 hk130 => ?_;refine tC 1 F9 ?_;refine tL F9 ?_;refine hk130 _ ?_;refine hn129 (some ([1, 3, 5, 7, 9, 10, 12, 13, 14, 32, 33, 34, 39, 40, 74, 75], none)) _ ?_
          refine eCt ?_;refine eP ([]) [1, 3, 5, 7, 14, 32, 33, 34, 39, 40] [0, 1, 2, 3, 4, 5, 6, 7, 8, 9, 10, 11, 12, 13, 14, 15, 16, 17, 18, 19, 20, 21, 22, 23] [] (by kernel_rfl) (fun K131 hk131 => ?_);refine sp0 ?_
          have F10 := And.intro F9 @shPP
          refine evP_take 2 fun K132 hk132 => ?_;refine sh1 F10 ?_;refine sd ?_;refine hk132 _ ?_;refine evP_take 1 fun K133 hk133 => ?_;refine sh1 F10 ?_;refine sd ?_;refine hk133 _ ?_;refine evP_take 3 fun K134 hk134 => ?_;refine sh1 F10 ?_;refine sd ?_;refine hk134 _ ?_;refine evP_take 1 fun K135 hk135 => ?_;refine sh1 F10 ?_;refine sd ?_;refine hk135 _ ?_;refine evP_take 2 fun K136 hk136 => ?_;refine sh1 F10 ?_;refine sd ?_;refine hk136 _ ?_;refine evP_take 1 fun K137 hk137 => ?_;refine sh1 F10 ?_;refine sd ?_;refine hk137 _ ?_;refine evP_take 1 fun K138 hk138 => ?_;refine sh1 F10 ?_;refine hk138 _ ?_
          refine evP_take 1 fun K139 hk139 => ?_;refine sh1 F10 ?_
          skip
          refine hk139 _ ?_;refine evP_take 1 fun K140 hk140 => ?_;refine sh1 F10 ?_;refine sd ?_;refine hk140 _ ?_;refine evP_take 6 fun K141 hk141 => ?_;refine sh1 F10 ?_;refine sd ?_;refine hk141 _ ?_;refine evP_take 2 fun K142 hk142 => ?_;refine sh1 F10 ?_;refine sd ?_;refine hk142 _ ?_;refine sh1 F10 ?_;refine hk131 _ (by rfl) (fun K143 hk143 => ?_);refine sp0 ?_;refine toKL ?_;refine tL F10 ?_;refine hk143 _ ?_;refine so0 ?_;refine hn128 _ ?_;refine hn125 (some ([1, 3, 5, 7, 14, 32, 33, 34, 39, 40], none)) _ ?_;refine eS fun K144 hn144 hr144 he144 => ?_;refine eO fun K145 hk145 => ?_;refine tL F10 ?_
          refine hk145 _ ?_;refine hn144 (some ([1, 3, 5, 7, 32, 33, 34, 39, 40, 141], none)) _ ?_;refine eCf ?_;refine hn111 _ ?_;refine hn110 (some ([1, 3, 5, 7, 32, 33, 34, 39, 40], none)) _ ?_;refine eO fun K146 hk146 => ?_;refine tC 1 F10 ?_;refine tL F10 ?_;refine hk146 _ ?_;refine hn34 (3 - (j + 1)) (some ([1, 3, 5, 7, 32, 33, 34, 39, 40], some ([0, 1, 2, 3], 4))) _ ?_ ?_
          all_goals try refine lp0 ?_
          · omega
          · exact ⟨j + 1, by omega, by omega, by rfl⟩
        · skip
          have v0 : (0 : Int) ≤ (j : Int) := by omega
          have v1 : (j : Int) < ((3 : Nat) : Int) := by omega
          have v2 : (j : Int) < 3 := by omega
          have v3 : IntKind.i64.wrap ((j : Int) + 1) = (j : Int) + 1 := by rw [IntKind.wrap_i64]; omega
          have v4 : (j : Int) + 1 = ((j + 1 : Nat) : Int) := by omega
          have v5 : j < w.tasks.length := by have := hZ.len; omega
          have v6 : (j : Int) < (w.tasks.length : Int) := by omega
          obtain ⟨d9, hd9, hdi, hdr⟩ := hdat j hj3
          have v7 : j * 3 / 3 = j := by omega
          rw [← hdj] at hd9
          have hd8 := hd9.symm
          subst hd8
          have k4 := ok_kAct y
          rw [hyl, hact] at k4
          have k5 := kh j hj3
          have v8 : d.kind.tmod 4 = 1 := remH hdi.kind hq
          have F11 := And.intro F3 (And.intro @v0 (And.intro @v1 (And.intro @v2 (And.intro @v3 (And.intro @v5 (And.intro @v6 (And.intro @hy (And.intro @hdr @v8))))))))
          refine eS fun K147 hn147 hr147 he147 => ?_;refine eO fun K148 hk148 => ?_;refine tZ F11 ?_;refine hk148 _ ?_;refine hn147 (some ([1, 3, 5, 7, 32, 33, 34, 39, 40, 41], none)) _ ?_;refine eS fun K149 hn149 hr149 he149 => ?_;refine eCt ?_;refine hn149 (some ([1, 3, 5, 7, 32, 33, 34, 39, 40], none)) _ ?_;refine eS fun K150 hn150 hr150 he150 => ?_;refine eB fun K151 hn151 hx151 hr151 he151 => ?_;refine eS fun K152 hn152 hr152 he152 => ?_;refine eO fun K153 hk153 => ?_;refine tS 1 F11 ?_;refine tS 1 F11 ?_;refine ⟨_, hx0 v0 v1, ?_⟩;refine tZ F11 ?_;refine hk153 _ ?_;refine hn152 (some ([1, 3, 5, 7, 8, 9, 32, 33, 34, 39, 40], none)) _ ?_
          refine eS fun K154 hn154 hr154 he154 => ?_;refine eO fun K155 hk155 => ?_;refine tC 2 F11 ?_;refine tC 2 F11 ?_;refine tC 1 F11 ?_;refine tS 1 F11 ?_;refine Or.inl (Or.inl ⟨_, k4, ?_⟩);refine tC 5 F11 ?_;refine tL F11 ?_;refine hk155 _ ?_;refine hn154 (some ([1, 3, 5, 7, 8, 9, 10, 11, 32, 33, 34, 39, 40], none)) _ ?_;refine eS fun K156 hn156 hr156 he156 => ?_;refine eS fun K157 hn157 hr157 he157 => ?_;refine eO fun K158 hk158 => ?_;refine tL F11 ?_;refine hk158 _ ?_;refine hn157 (some ([1, 3, 5, 7, 8, 9, 10, 32, 33, 34, 39, 40, 54], none)) _ ?_;refine eCf ?_;refine hn156 (some ([1, 3, 5, 7, 8, 9, 10, 32, 33, 34, 39, 40], none)) _ ?_
          refine eS fun K159 hn159 hr159 he159 => ?_;refine eO fun K160 hk160 => ?_;refine tC 1 F11 ?_;refine tC 2 F11 ?_;refine tS 1 F11 ?_;refine Or.inl (Or.inl ⟨_, k5, ?_⟩);refine tL F11 ?_;refine hk160 _ ?_;refine hn159 (some ([1, 3, 5, 7, 9, 10, 12, 32, 33, 34, 39, 40], none)) _ ?_;refine eS fun K161 hn161 hr161 he161 => ?_;refine eO fun K162 hk162 => ?_;refine tC 2 F11 ?_;refine tC 1 F11 ?_;refine tC 3 F11 ?_;refine tC 1 F11 ?_;refine tC 4 F11 ?_;refine tC 1 F11 ?_;refine tL F11 ?_;refine hk162 _ ?_;refine hn161 (some ([1, 3, 5, 7, 9, 10, 12, 13, 32, 33, 34, 39, 40], none)) _ ?_;refine eS fun K163 hn163 hr163 he163 => ?_
          refine eO fun K164 hk164 => ?_;refine tL F11 ?_;refine hk164 _ ?_;refine hn163 (some ([1, 3, 5, 7, 9, 10, 12, 13, 14, 32, 33, 34, 39, 40], none)) _ ?_;refine eS fun K165 hn165 hr165 he165 => ?_;refine eS fun K166 hn166 hr166 he166 => ?_;refine eO fun K167 hk167 => ?_;refine tC 2 F11 ?_;refine tZ F11 ?_;refine hk167 _ ?_;refine hn166 (some ([1, 3, 5, 7, 9, 10, 12, 13, 14, 32, 33, 34, 39, 40, 74], none)) _ ?_;refine eB fun K168 hn168 hx168 hr168 he168 => ?_;refine eS fun K169 hn169 hr169 he169 => ?_;refine eO fun K170 hk170 => ?_;refine tC 1 F11 ?_;refine tL F11 ?_;refine hk170 _ ?_;refine hn169 (some ([1, 3, 5, 7, 9, 10, 12, 13, 14, 32, 33, 34, 39, 40, 74, 75], none)) _ ?_
          refine eCf ?_;refine eS fun K171 hn171 hr171 he171 => ?_;refine eO fun K172 hk172 => ?_;refine tC 1 F11 ?_;refine tL F11 ?_;refine hk172 _ ?_;refine hn171 (some ([1, 3, 5, 7, 10, 12, 13, 14, 32, 33, 34, 39, 40, 74, 100], none)) _ ?_;refine eCt ?_;refine eO fun K173 hk173 => ?_;refine tC 2 F11 ?_;refine tC 1 F11 ?_;refine tC 6 F11 ?_;refine tC 2 F11 ?_;refine tL F11 ?_;refine hk173 _ ?_;refine hn168 _ ?_;refine hn165 (some ([1, 3, 5, 7, 14, 32, 33, 34, 39, 40], none)) _ ?_;refine eS fun K174 hn174 hr174 he174 => ?_;refine eO fun K175 hk175 => ?_;refine tL F11 ?_;refine hk175 _ ?_;refine hn174 (some ([1, 3, 5, 7, 32, 33, 34, 39, 40, 141], none)) _ ?_
          refine eCf ?_;refine hn151 _ ?_;refine hn150 (some ([1, 3, 5, 7, 32, 33, 34, 39, 40], none)) _ ?_;refine eO fun K176 hk176 => ?_;refine tC 1 F11 ?_;refine tL F11 ?_;refine hk176 _ ?_;refine hn34 (3 - (j + 1)) (some ([1, 3, 5, 7, 32, 33, 34, 39, 40], some ([0, 1, 2, 3], 4))) _ ?_ ?_
          all_goals try refine lp0 ?_
          · omega
          · exact ⟨j + 1, by omega, by omega, by rfl⟩
        · skip
          have v0 : (0 : Int) ≤ (j : Int) := by omega
          have v1 : (j : Int) < ((3 : Nat) : Int) := by omega
          have v2 : (j : Int) < 3 := by omega
          have v3 : IntKind.i64.wrap ((j : Int) + 1) = (j : Int) + 1 := by rw [IntKind.wrap_i64]; omega
          have v4 : (j : Int) + 1 = ((j + 1 : Nat) : Int) := by omega
          have v5 : j < w.tasks.length := by have := hZ.len; omega
          have v6 : (j : Int) < (w.tasks.length : Int) := by omega
          obtain ⟨d9, hd9, hdi, hdr⟩ := hdat j hj3
          have v7 : j * 3 / 3 = j := by omega
          rw [← hdj] at hd9
          have hd8 := hd9.symm
          subst hd8
          have k4 := ok_kAct y
          rw [hyl, hact] at k4
          have k5 := kh j hj3
          have v8 : d.kind.tmod 4 = 2 := remH hdi.kind hq
          have F12 := And.intro F3 (And.intro @v0 (And.intro @v1 (And.intro @v2 (And.intro @v3 (And.intro @v5 (And.intro @v6 (And.intro @hy (And.intro @hdr @v8))))))))
          refine eS fun K177 hn177 hr177 he177 => ?_;refine eO fun K178 hk178 => ?_;refine tZ F12 ?_;refine hk178 _ ?_;refine hn177 (some ([1, 3, 5, 7, 32, 33, 34, 39, 40, 41], none)) _ ?_;refine eS fun K179 hn179 hr179 he179 => ?_;refine eCt ?_;refine hn179 (some ([1, 3, 5, 7, 32, 33, 34, 39, 40], none)) _ ?_;refine eS fun K180 hn180 hr180 he180 => ?_;refine eB fun K181 hn181 hx181 hr181 he181 => ?_;refine eS fun K182 hn182 hr182 he182 => ?_;refine eO fun K183 hk183 => ?_;refine tS 1 F12 ?_;refine tS 1 F12 ?_;refine ⟨_, hx0 v0 v1, ?_⟩;refine tZ F12 ?_;refine hk183 _ ?_;refine hn182 (some ([1, 3, 5, 7, 8, 9, 32, 33, 34, 39, 40], none)) _ ?_
          refine eS fun K184 hn184 hr184 he184 => ?_;refine eO fun K185 hk185 => ?_;refine tC 2 F12 ?_;refine tC 2 F12 ?_;refine tC 1 F12 ?_;refine tS 1 F12 ?_;refine Or.inl (Or.inl ⟨_, k4, ?_⟩);refine tC 5 F12 ?_;refine tL F12 ?_;refine hk185 _ ?_;refine hn184 (some ([1, 3, 5, 7, 8, 9, 10, 11, 32, 33, 34, 39, 40], none)) _ ?_;refine eS fun K186 hn186 hr186 he186 => ?_;refine eS fun K187 hn187 hr187 he187 => ?_;refine eO fun K188 hk188 => ?_;refine tL F12 ?_;refine hk188 _ ?_;refine hn187 (some ([1, 3, 5, 7, 8, 9, 10, 32, 33, 34, 39, 40, 54], none)) _ ?_;refine eCf ?_;refine hn186 (some ([1, 3, 5, 7, 8, 9, 10, 32, 33, 34, 39, 40], none)) _ ?_
          refine eS fun K189 hn189 hr189 he189 => ?_;refine eO fun K190 hk190 => ?_;refine tC 1 F12 ?_;refine tC 2 F12 ?_;refine tS 1 F12 ?_;refine Or.inl (Or.inl ⟨_, k5, ?_⟩);refine tL F12 ?_;refine hk190 _ ?_;refine hn189 (some ([1, 3, 5, 7, 9, 10, 12, 32, 33, 34, 39, 40], none)) _ ?_;refine eS fun K191 hn191 hr191 he191 => ?_;refine eO fun K192 hk192 => ?_;refine tC 2 F12 ?_;refine tC 1 F12 ?_;refine tC 3 F12 ?_;refine tC 1 F12 ?_;refine tC 4 F12 ?_;refine tC 1 F12 ?_;refine tL F12 ?_;refine hk192 _ ?_;refine hn191 (some ([1, 3, 5, 7, 9, 10, 12, 13, 32, 33, 34, 39, 40], none)) _ ?_;refine eS fun K193 hn193 hr193 he193 => ?_
          refine eO fun K194 hk194 => ?_;refine tL F12 ?_;refine hk194 _ ?_;refine hn193 (some ([1, 3, 5, 7, 9, 10, 12, 13, 14, 32, 33, 34, 39, 40], none)) _ ?_;refine eS fun K195 hn195 hr195 he195 => ?_;refine eS fun K196 hn196 hr196 he196 => ?_;refine eO fun K197 hk197 => ?_;refine tC 2 F12 ?_;refine tZ F12 ?_;refine hk197 _ ?_;refine hn196 (some ([1, 3, 5, 7, 9, 10, 12, 13, 14, 32, 33, 34, 39, 40, 74], none)) _ ?_;refine eB fun K198 hn198 hx198 hr198 he198 => ?_;refine eS fun K199 hn199 hr199 he199 => ?_;refine eO fun K200 hk200 => ?_;refine tC 1 F12 ?_;refine tL F12 ?_;refine hk200 _ ?_;refine hn199 (some ([1, 3, 5, 7, 9, 10, 12, 13, 14, 32, 33, 34, 39, 40, 74, 75], none)) _ ?_
          refine eCf ?_;refine eS fun K201 hn201 hr201 he201 => ?_;refine eO fun K202 hk202 => ?_;refine tC 1 F12 ?_;refine tL F12 ?_;refine hk202 _ ?_;refine hn201 (some ([1, 3, 5, 7, 10, 12, 13, 14, 32, 33, 34, 39, 40, 74, 100], none)) _ ?_;refine eCf ?_;refine eS fun K203 hn203 hr203 he203 => ?_;refine eO fun K204 hk204 => ?_;refine tC 1 F12 ?_;refine tL F12 ?_;refine hk204 _ ?_;refine hn203 (some ([1, 3, 5, 7, 10, 14, 32, 33, 34, 39, 40, 114], none)) _ ?_;refine eCt ?_;refine eD [] (n := 21) fun K205 hk205 => ?_;refine sq0 ?_;refine fC 2 F12 ?_;refine fC 1 F12 ?_;refine fC 3 F12 ?_;refine fC 1 F12 ?_
          refine fS 1 F12 ?_;refine ⟨_, kh0, ?_⟩;refine fC 1 F12 ?_;refine fC 3 F12 ?_;refine fC 1 F12 ?_;refine fS 1 F12 ?_
          skip
          refine fC 1 F12 ?_;refine fC 4 F12 ?_;refine fC 1 F12 ?_;refine fL F12 ?_
          skip
          refine hk205 _ ?_;refine sr0 ?_;refine tC 1 F12 ?_;refine tL F12 ?_;refine hn198 _ ?_;refine hn195 (some ([1, 3, 5, 7, 14, 32, 33, 34, 39, 40], none)) _ ?_;refine eS fun K207 hn207 hr207 he207 => ?_;refine eO fun K208 hk208 => ?_;refine tL F12 ?_;refine hk208 _ ?_;refine hn207 (some ([1, 3, 5, 7, 32, 33, 34, 39, 40, 141], none)) _ ?_;refine eCf ?_;refine hn181 _ ?_;refine hn180 (some ([1, 3, 5, 7, 32, 33, 34, 39, 40], none)) _ ?_;refine eO fun K209 hk209 => ?_;refine tC 1 F12 ?_;refine tL F12 ?_;refine hk209 _ ?_;refine hn34 (3 - (j + 1)) (some ([1, 3, 5, 7, 32, 33, 34, 39, 40], some ([0, 1, 2, 3], 4))) _ ?_ ?_
          all_goals try refine lp0 ?_
          · omega
          · exact ⟨j + 1, by omega, by omega, by rfl⟩
        · skip
          have v0 : (0 : Int) ≤ (j : Int) := by omega
          have v1 : (j : Int) < ((3 : Nat) : Int) := by omega
          have v2 : (j : Int) < 3 := by omega
          have v3 : IntKind.i64.wrap ((j : Int) + 1) = (j : Int) + 1 := by rw [IntKind.wrap_i64]; omega
          have v4 : (j : Int) + 1 = ((j + 1 : Nat) : Int) := by omega
          have v5 : j < w.tasks.length := by have := hZ.len; omega
          have v6 : (j : Int) < (w.tasks.length : Int) := by omega
          obtain ⟨d9, hd9, hdi, hdr⟩ := hdat j hj3
          have v7 : j * 3 / 3 = j := by omega
          rw [← hdj] at hd9
          have hd8 := hd9.symm
          subst hd8
          have k4 := ok_kAct y
          rw [hyl, hact] at k4
          have k5 := kh j hj3
          have v8 : d.kind.tmod 4 = 2 := remH hdi.kind hq
          have F13 := And.intro F3 (And.intro @v0 (And.intro @v1 (And.intro @v2 (And.intro @v3 (And.intro @v5 (And.intro @v6 (And.intro @hy (And.intro @hdr (And.intro @v8 @e01)))))))))
          refine eS fun K210 hn210 hr210 he210 => ?_;refine eO fun K211 hk211 => ?_;refine tZ F13 ?_;refine hk211 _ ?_;refine hn210 (some ([1, 3, 5, 7, 32, 33, 34, 39, 40, 41], none)) _ ?_;refine eS fun K212 hn212 hr212 he212 => ?_;refine eCt ?_;refine hn212 (some ([1, 3, 5, 7, 32, 33, 34, 39, 40], none)) _ ?_;refine eS fun K213 hn213 hr213 he213 => ?_;refine eB fun K214 hn214 hx214 hr214 he214 => ?_;refine eS fun K215 hn215 hr215 he215 => ?_;refine eO fun K216 hk216 => ?_;refine tS 1 F13 ?_;refine tS 1 F13 ?_;refine ⟨_, hx0 v0 v1, ?_⟩;refine tZ F13 ?_;refine hk216 _ ?_;refine hn215 (some ([1, 3, 5, 7, 8, 9, 32, 33, 34, 39, 40], none)) _ ?_
          refine eS fun K217 hn217 hr217 he217 => ?_;refine eO fun K218 hk218 => ?_;refine tC 2 F13 ?_;refine tC 2 F13 ?_;refine tC 1 F13 ?_;refine tS 1 F13 ?_;refine Or.inl (Or.inl ⟨_, k4, ?_⟩);refine tC 5 F13 ?_;refine tL F13 ?_;refine hk218 _ ?_;refine hn217 (some ([1, 3, 5, 7, 8, 9, 10, 11, 32, 33, 34, 39, 40], none)) _ ?_;refine eS fun K219 hn219 hr219 he219 => ?_;refine eS fun K220 hn220 hr220 he220 => ?_;refine eO fun K221 hk221 => ?_;refine tL F13 ?_;refine hk221 _ ?_;refine hn220 (some ([1, 3, 5, 7, 8, 9, 10, 32, 33, 34, 39, 40, 54], none)) _ ?_;refine eCf ?_;refine hn219 (some ([1, 3, 5, 7, 8, 9, 10, 32, 33, 34, 39, 40], none)) _ ?_
          refine eS fun K222 hn222 hr222 he222 => ?_;refine eO fun K223 hk223 => ?_;refine tC 1 F13 ?_;refine tC 2 F13 ?_;refine tS 1 F13 ?_;refine Or.inl (Or.inl ⟨_, k5, ?_⟩);refine tL F13 ?_;refine hk223 _ ?_;refine hn222 (some ([1, 3, 5, 7, 9, 10, 12, 32, 33, 34, 39, 40], none)) _ ?_;refine eS fun K224 hn224 hr224 he224 => ?_;refine eO fun K225 hk225 => ?_;refine tC 2 F13 ?_;refine tC 1 F13 ?_;refine tC 3 F13 ?_;refine tC 1 F13 ?_;refine tC 4 F13 ?_;refine tC 1 F13 ?_;refine tL F13 ?_;refine hk225 _ ?_;refine hn224 (some ([1, 3, 5, 7, 9, 10, 12, 13, 32, 33, 34, 39, 40], none)) _ ?_;refine eS fun K226 hn226 hr226 he226 => ?_
          refine eO fun K227 hk227 => ?_;refine tL F13 ?_;refine hk227 _ ?_;refine hn226 (some ([1, 3, 5, 7, 9, 10, 12, 13, 14, 32, 33, 34, 39, 40], none)) _ ?_;refine eS fun K228 hn228 hr228 he228 => ?_;refine eS fun K229 hn229 hr229 he229 => ?_;refine eO fun K230 hk230 => ?_;refine tC 2 F13 ?_;refine tZ F13 ?_;refine hk230 _ ?_;refine hn229 (some ([1, 3, 5, 7, 9, 10, 12, 13, 14, 32, 33, 34, 39, 40, 74], none)) _ ?_;refine eB fun K231 hn231 hx231 hr231 he231 => ?_;refine eS fun K232 hn232 hr232 he232 => ?_;refine eO fun K233 hk233 => ?_;refine tC 1 F13 ?_;refine tL F13 ?_;refine hk233 _ ?_;refine hn232 (some ([1, 3, 5, 7, 9, 10, 12, 13, 14, 32, 33, 34, 39, 40, 74, 75], none)) _ ?_
          refine eCf ?_;refine eS fun K234 hn234 hr234 he234 => ?_;refine eO fun K235 hk235 => ?_;refine tC 1 F13 ?_;refine tL F13 ?_;refine hk235 _ ?_;refine hn234 (some ([1, 3, 5, 7, 10, 12, 13, 14, 32, 33, 34, 39, 40, 74, 100], none)) _ ?_;refine eCf ?_;refine eS fun K236 hn236 hr236 he236 => ?_;refine eO fun K237 hk237 => ?_;refine tC 1 F13 ?_;refine tL F13 ?_;refine hk237 _ ?_;refine hn236 (some ([1, 3, 5, 7, 10, 14, 32, 33, 34, 39, 40, 114], none)) _ ?_;refine eCt ?_;refine eD [] (n := 21) fun K238 hk238 => ?_;refine sq0 ?_;refine fC 2 F13 ?_;refine fC 1 F13 ?_;refine fC 3 F13 ?_;refine fC 1 F13 ?_
          refine fS 1 F13 ?_;refine ⟨_, kh0, ?_⟩;refine fC 1 F13 ?_;refine fC 3 F13 ?_;refine fC 1 F13 ?_;refine fS 1 F13 ?_;refine ⟨_, kh1, ?_⟩;refine fC 1 F13 ?_;refine fC 4 F13 ?_;refine fC 1 F13 ?_;refine fL F13 ?_
          skip
          refine hk238 _ ?_;refine sr0 ?_;refine tC 1 F13 ?_;refine tL F13 ?_;refine hn231 _ ?_;refine hn228 (some ([1, 3, 5, 7, 14, 32, 33, 34, 39, 40], none)) _ ?_;refine eS fun K240 hn240 hr240 he240 => ?_;refine eO fun K241 hk241 => ?_;refine tL F13 ?_;refine hk241 _ ?_;refine hn240 (some ([1, 3, 5, 7, 32, 33, 34, 39, 40, 141], none)) _ ?_;refine eCf ?_;refine hn214 _ ?_;refine hn213 (some ([1, 3, 5, 7, 32, 33, 34, 39, 40], none)) _ ?_;refine eO fun K242 hk242 => ?_;refine tC 1 F13 ?_;refine tL F13 ?_;refine hk242 _ ?_;refine hn34 (3 - (j + 1)) (some ([1, 3, 5, 7, 32, 33, 34, 39, 40], some ([0, 1, 2, 3], 4))) _ ?_ ?_
          all_goals try refine lp0 ?_
          · omega
          · exact ⟨j + 1, by omega, by omega, by rfl⟩
        · skip
          have v0 : (0 : Int) ≤ (j : Int) := by omega
          have v1 : (j : Int) < ((3 : Nat) : Int) := by omega
          have v2 : (j : Int) < 3 := by omega
          have v3 : IntKind.i64.wrap ((j : Int) + 1) = (j : Int) + 1 := by rw [IntKind.wrap_i64]; omega
          have v4 : (j : Int) + 1 = ((j + 1 : Nat) : Int) := by omega
          have v5 : j < w.tasks.length := by have := hZ.len; omega
          have v6 : (j : Int) < (w.tasks.length : Int) := by omega
          obtain ⟨d9, hd9, hdi, hdr⟩ := hdat j hj3
          have v7 : j * 3 / 3 = j := by omega
          rw [← hdj] at hd9
          have hd8 := hd9.symm
          subst hd8
          have k4 := ok_kAct y
          rw [hyl, hact] at k4
          have k5 := kh j hj3
          have v8 : d.kind.tmod 4 = 2 := remH hdi.kind hq
          have F14 := And.intro F3 (And.intro @v0 (And.intro @v1 (And.intro @v2 (And.intro @v3 (And.intro @v5 (And.intro @v6 (And.intro @hy (And.intro @hdr (And.intro @v8 (And.intro @e02 @e12))))))))))
          refine eS fun K243 hn243 hr243 he243 => ?_;refine eO fun K244 hk244 => ?_;refine tZ F14 ?_;refine hk244 _ ?_;refine hn243 (some ([1, 3, 5, 7, 32, 33, 34, 39, 40, 41], none)) _ ?_;refine eS fun K245 hn245 hr245 he245 => ?_;refine eCt ?_;refine hn245 (some ([1, 3, 5, 7, 32, 33, 34, 39, 40], none)) _ ?_;refine eS fun K246 hn246 hr246 he246 => ?_;refine eB fun K247 hn247 hx247 hr247 he247 => ?_;refine eS fun K248 hn248 hr248 he248 => ?_;refine eO fun K249 hk249 => ?_;refine tS 1 F14 ?_;refine tS 1 F14 ?_;refine ⟨_, hx0 v0 v1, ?_⟩;refine tZ F14 ?_;refine hk249 _ ?_;refine hn248 (some ([1, 3, 5, 7, 8, 9, 32, 33, 34, 39, 40], none)) _ ?_
          refine eS fun K250 hn250 hr250 he250 => ?_;refine eO fun K251 hk251 => ?_;refine tC 2 F14 ?_;refine tC 2 F14 ?_;refine tC 1 F14 ?_;refine tS 1 F14 ?_;refine Or.inl (Or.inl ⟨_, k4, ?_⟩);refine tC 5 F14 ?_;refine tL F14 ?_;refine hk251 _ ?_;refine hn250 (some ([1, 3, 5, 7, 8, 9, 10, 11, 32, 33, 34, 39, 40], none)) _ ?_;refine eS fun K252 hn252 hr252 he252 => ?_;refine eS fun K253 hn253 hr253 he253 => ?_;refine eO fun K254 hk254 => ?_;refine tL F14 ?_;refine hk254 _ ?_;refine hn253 (some ([1, 3, 5, 7, 8, 9, 10, 32, 33, 34, 39, 40, 54], none)) _ ?_;refine eCf ?_;refine hn252 (some ([1, 3, 5, 7, 8, 9, 10, 32, 33, 34, 39, 40], none)) _ ?_
          refine eS fun K255 hn255 hr255 he255 => ?_;refine eO fun K256 hk256 => ?_;refine tC 1 F14 ?_;refine tC 2 F14 ?_;refine tS 1 F14 ?_;refine Or.inl (Or.inl ⟨_, k5, ?_⟩);refine tL F14 ?_;refine hk256 _ ?_;refine hn255 (some ([1, 3, 5, 7, 9, 10, 12, 32, 33, 34, 39, 40], none)) _ ?_;refine eS fun K257 hn257 hr257 he257 => ?_;refine eO fun K258 hk258 => ?_;refine tC 2 F14 ?_;refine tC 1 F14 ?_;refine tC 3 F14 ?_;refine tC 1 F14 ?_;refine tC 4 F14 ?_;refine tC 1 F14 ?_;refine tL F14 ?_;refine hk258 _ ?_;refine hn257 (some ([1, 3, 5, 7, 9, 10, 12, 13, 32, 33, 34, 39, 40], none)) _ ?_;refine eS fun K259 hn259 hr259 he259 => ?_
          refine eO fun K260 hk260 => ?_;refine tL F14 ?_;refine hk260 _ ?_;refine hn259 (some ([1, 3, 5, 7, 9, 10, 12, 13, 14, 32, 33, 34, 39, 40], none)) _ ?_;refine eS fun K261 hn261 hr261 he261 => ?_;refine eS fun K262 hn262 hr262 he262 => ?_;refine eO fun K263 hk263 => ?_;refine tC 2 F14 ?_;refine tZ F14 ?_;refine hk263 _ ?_;refine hn262 (some ([1, 3, 5, 7, 9, 10, 12, 13, 14, 32, 33, 34, 39, 40, 74], none)) _ ?_;refine eB fun K264 hn264 hx264 hr264 he264 => ?_;refine eS fun K265 hn265 hr265 he265 => ?_;refine eO fun K266 hk266 => ?_;refine tC 1 F14 ?_;refine tL F14 ?_;refine hk266 _ ?_;refine hn265 (some ([1, 3, 5, 7, 9, 10, 12, 13, 14, 32, 33, 34, 39, 40, 74, 75], none)) _ ?_
          refine eCf ?_;refine eS fun K267 hn267 hr267 he267 => ?_;refine eO fun K268 hk268 => ?_;refine tC 1 F14 ?_;refine tL F14 ?_;refine hk268 _ ?_;refine hn267 (some ([1, 3, 5, 7, 10, 12, 13, 14, 32, 33, 34, 39, 40, 74, 100], none)) _ ?_;refine eCf ?_;refine eS fun K269 hn269 hr269 he269 => ?_;refine eO fun K270 hk270 => ?_;refine tC 1 F14 ?_;refine tL F14 ?_;refine hk270 _ ?_;refine hn269 (some ([1, 3, 5, 7, 10, 14, 32, 33, 34, 39, 40, 114], none)) _ ?_;refine eCt ?_;refine eD [] (n := 21) fun K271 hk271 => ?_;refine sq0 ?_;refine fC 2 F14 ?_;refine fC 1 F14 ?_;refine fC 3 F14 ?_;refine fC 1 F14 ?_
          refine fS 1 F14 ?_;refine ⟨_, kh0, ?_⟩;refine fC 1 F14 ?_;refine fC 3 F14 ?_;refine fC 1 F14 ?_;refine fS 1 F14 ?_;refine ⟨_, kh1, ?_⟩;refine fC 1 F14 ?_;refine fC 4 F14 ?_;refine fC 1 F14 ?_;refine fL F14 ?_;refine ⟨_, kh2, ?_⟩;refine hk271 _ ?_;refine sr0 ?_;refine tC 1 F14 ?_;refine tL F14 ?_;refine hn264 _ ?_;refine hn261 (some ([1, 3, 5, 7, 14, 32, 33, 34, 39, 40], none)) _ ?_;refine eS fun K273 hn273 hr273 he273 => ?_;refine eO fun K274 hk274 => ?_;refine tL F14 ?_;refine hk274 _ ?_;refine hn273 (some ([1, 3, 5, 7, 32, 33, 34, 39, 40, 141], none)) _ ?_;refine eCf ?_;refine hn247 _ ?_
          refine hn246 (some ([1, 3, 5, 7, 32, 33, 34, 39, 40], none)) _ ?_;refine eO fun K275 hk275 => ?_;refine tC 1 F14 ?_;refine tL F14 ?_;refine hk275 _ ?_;refine hn34 (3 - (j + 1)) (some ([1, 3, 5, 7, 32, 33, 34, 39, 40], some ([0, 1, 2, 3], 4))) _ ?_ ?_
          all_goals try refine lp0 ?_
          · omega
          · exact ⟨j + 1, by omega, by omega, by rfl⟩
        · skip
          have v0 : (0 : Int) ≤ (j : Int) := by omega
          have v1 : (j : Int) < ((3 : Nat) : Int) := by omega
          have v2 : (j : Int) < 3 := by omega
          have v3 : IntKind.i64.wrap ((j : Int) + 1) = (j : Int) + 1 := by rw [IntKind.wrap_i64]; omega
          have v4 : (j : Int) + 1 = ((j + 1 : Nat) : Int) := by omega
          have v5 : j < w.tasks.length := by have := hZ.len; omega
          have v6 : (j : Int) < (w.tasks.length : Int) := by omega
          obtain ⟨d9, hd9, hdi, hdr⟩ := hdat j hj3
          have v7 : j * 3 / 3 = j := by omega
          rw [← hdj] at hd9
          have hd8 := hd9.symm
          subst hd8
          have k4 := ok_kAct y
          rw [hyl, hact] at k4
          have k5 := kh j hj3
          have v8 : d.kind.tmod 4 = 3 := remH hdi.kind hq
          have F15 := And.intro F3 (And.intro @v0 (And.intro @v1 (And.intro @v2 (And.intro @v3 (And.intro @v5 (And.intro @v6 (And.intro @hy (And.intro @hdr @v8))))))))
          refine eS fun K276 hn276 hr276 he276 => ?_;refine eO fun K277 hk277 => ?_;refine tZ F15 ?_;refine hk277 _ ?_;refine hn276 (some ([1, 3, 5, 7, 32, 33, 34, 39, 40, 41], none)) _ ?_;refine eS fun K278 hn278 hr278 he278 => ?_;refine eCt ?_;refine hn278 (some ([1, 3, 5, 7, 32, 33, 34, 39, 40], none)) _ ?_;refine eS fun K279 hn279 hr279 he279 => ?_;refine eB fun K280 hn280 hx280 hr280 he280 => ?_;refine eS fun K281 hn281 hr281 he281 => ?_;refine eO fun K282 hk282 => ?_;refine tS 1 F15 ?_;refine tS 1 F15 ?_;refine ⟨_, hx0 v0 v1, ?_⟩;refine tZ F15 ?_;refine hk282 _ ?_;refine hn281 (some ([1, 3, 5, 7, 8, 9, 32, 33, 34, 39, 40], none)) _ ?_
          refine eS fun K283 hn283 hr283 he283 => ?_;refine eO fun K284 hk284 => ?_;refine tC 2 F15 ?_;refine tC 2 F15 ?_;refine tC 1 F15 ?_;refine tS 1 F15 ?_;refine Or.inl (Or.inl ⟨_, k4, ?_⟩);refine tC 5 F15 ?_;refine tL F15 ?_;refine hk284 _ ?_;refine hn283 (some ([1, 3, 5, 7, 8, 9, 10, 11, 32, 33, 34, 39, 40], none)) _ ?_;refine eS fun K285 hn285 hr285 he285 => ?_;refine eS fun K286 hn286 hr286 he286 => ?_;refine eO fun K287 hk287 => ?_;refine tL F15 ?_;refine hk287 _ ?_;refine hn286 (some ([1, 3, 5, 7, 8, 9, 10, 32, 33, 34, 39, 40, 54], none)) _ ?_;refine eCf ?_;refine hn285 (some ([1, 3, 5, 7, 8, 9, 10, 32, 33, 34, 39, 40], none)) _ ?_
          refine eS fun K288 hn288 hr288 he288 => ?_;refine eO fun K289 hk289 => ?_;refine tC 1 F15 ?_;refine tC 2 F15 ?_;refine tS 1 F15 ?_;refine Or.inl (Or.inl ⟨_, k5, ?_⟩);refine tL F15 ?_;refine hk289 _ ?_;refine hn288 (some ([1, 3, 5, 7, 9, 10, 12, 32, 33, 34, 39, 40], none)) _ ?_;refine eS fun K290 hn290 hr290 he290 => ?_;refine eO fun K291 hk291 => ?_;refine tC 2 F15 ?_;refine tC 1 F15 ?_;refine tC 3 F15 ?_;refine tC 1 F15 ?_;refine tC 4 F15 ?_;refine tC 1 F15 ?_;refine tL F15 ?_;refine hk291 _ ?_;refine hn290 (some ([1, 3, 5, 7, 9, 10, 12, 13, 32, 33, 34, 39, 40], none)) _ ?_;refine eS fun K292 hn292 hr292 he292 => ?_
          refine eO fun K293 hk293 => ?_;refine tL F15 ?_;refine hk293 _ ?_;refine hn292 (some ([1, 3, 5, 7, 9, 10, 12, 13, 14, 32, 33, 34, 39, 40], none)) _ ?_;refine eS fun K294 hn294 hr294 he294 => ?_;refine eS fun K295 hn295 hr295 he295 => ?_;refine eO fun K296 hk296 => ?_;refine tC 2 F15 ?_;refine tZ F15 ?_;refine hk296 _ ?_;refine hn295 (some ([1, 3, 5, 7, 9, 10, 12, 13, 14, 32, 33, 34, 39, 40, 74], none)) _ ?_;refine eB fun K297 hn297 hx297 hr297 he297 => ?_;refine eS fun K298 hn298 hr298 he298 => ?_;refine eO fun K299 hk299 => ?_;refine tC 1 F15 ?_;refine tL F15 ?_;refine hk299 _ ?_;refine hn298 (some ([1, 3, 5, 7, 9, 10, 12, 13, 14, 32, 33, 34, 39, 40, 74, 75], none)) _ ?_
          refine eCf ?_;refine eS fun K300 hn300 hr300 he300 => ?_;refine eO fun K301 hk301 => ?_;refine tC 1 F15 ?_;refine tL F15 ?_;refine hk301 _ ?_;refine hn300 (some ([1, 3, 5, 7, 10, 12, 13, 14, 32, 33, 34, 39, 40, 74, 100], none)) _ ?_;refine eCf ?_;refine eS fun K302 hn302 hr302 he302 => ?_;refine eO fun K303 hk303 => ?_;refine tC 1 F15 ?_;refine tL F15 ?_;refine hk303 _ ?_;refine hn302 (some ([1, 3, 5, 7, 10, 14, 32, 33, 34, 39, 40, 114], none)) _ ?_;refine eCf ?_;refine hn297 _ ?_;refine hn294 (some ([1, 3, 5, 7, 14, 32, 33, 34, 39, 40], none)) _ ?_;refine eS fun K304 hn304 hr304 he304 => ?_
          refine eO fun K305 hk305 => ?_;refine tL F15 ?_;refine hk305 _ ?_;refine hn304 (some ([1, 3, 5, 7, 32, 33, 34, 39, 40, 141], none)) _ ?_;refine eCf ?_;refine hn280 _ ?_;refine hn279 (some ([1, 3, 5, 7, 32, 33, 34, 39, 40], none)) _ ?_;refine eO fun K306 hk306 => ?_;refine tC 1 F15 ?_;refine tL F15 ?_;refine hk306 _ ?_;refine hn34 (3 - (j + 1)) (some ([1, 3, 5, 7, 32, 33, 34, 39, 40], some ([0, 1, 2, 3], 4))) _ ?_ ?_
          all_goals try refine lp0 ?_
          · omega
          · exact ⟨j + 1, by omega, by omega, by rfl⟩
        · skip
          have v0 : (0 : Int) ≤ (j : Int) := by omega
          have v1 : (j : Int) < ((3 : Nat) : Int) := by omega
          have v2 : (j : Int) < 3 := by omega
          have v3 : IntKind.i64.wrap ((j : Int) + 1) = (j : Int) + 1 := by rw [IntKind.wrap_i64]; omega
          have v4 : (j : Int) + 1 = ((j + 1 : Nat) : Int) := by omega
          have v5 : j < w.tasks.length := by have := hZ.len; omega
          have v6 : (j : Int) < (w.tasks.length : Int) := by omega
          obtain ⟨d9, hd9, hdi, hdr⟩ := hdat j hj3
          have v7 : j * 3 / 3 = j := by omega
          rw [← hdj] at hd9
          have hd8 := hd9.symm
          subst hd8
          have k4 := ok_kAct y
          rw [hyl, hact] at k4
          have k5 := kh j hj3
          have v8 : d.kind.tmod 4 = 3 := remH hdi.kind hq
          have F16 := And.intro F3 (And.intro @v0 (And.intro @v1 (And.intro @v2 (And.intro @v3 (And.intro @v5 (And.intro @v6 (And.intro @hy (And.intro @hdr @v8))))))))
          refine eS fun K307 hn307 hr307 he307 => ?_;refine eO fun K308 hk308 => ?_;refine tZ F16 ?_;refine hk308 _ ?_;refine hn307 (some ([1, 3, 5, 7, 32, 33, 34, 39, 40, 41], none)) _ ?_;refine eS fun K309 hn309 hr309 he309 => ?_;refine eCt ?_;refine hn309 (some ([1, 3, 5, 7, 32, 33, 34, 39, 40], none)) _ ?_;refine eS fun K310 hn310 hr310 he310 => ?_;refine eB fun K311 hn311 hx311 hr311 he311 => ?_;refine eS fun K312 hn312 hr312 he312 => ?_;refine eO fun K313 hk313 => ?_;refine tS 1 F16 ?_;refine tS 1 F16 ?_;refine ⟨_, hx0 v0 v1, ?_⟩;refine tZ F16 ?_;refine hk313 _ ?_;refine hn312 (some ([1, 3, 5, 7, 8, 9, 32, 33, 34, 39, 40], none)) _ ?_
          refine eS fun K314 hn314 hr314 he314 => ?_;refine eO fun K315 hk315 => ?_;refine tC 2 F16 ?_;refine tC 2 F16 ?_;refine tC 1 F16 ?_;refine tS 1 F16 ?_;refine Or.inl (Or.inl ⟨_, k4, ?_⟩);refine tC 5 F16 ?_;refine tL F16 ?_;refine hk315 _ ?_;refine hn314 (some ([1, 3, 5, 7, 8, 9, 10, 11, 32, 33, 34, 39, 40], none)) _ ?_;refine eS fun K316 hn316 hr316 he316 => ?_;refine eS fun K317 hn317 hr317 he317 => ?_;refine eO fun K318 hk318 => ?_;refine tL F16 ?_;refine hk318 _ ?_;refine hn317 (some ([1, 3, 5, 7, 8, 9, 10, 32, 33, 34, 39, 40, 54], none)) _ ?_;refine eCf ?_;refine hn316 (some ([1, 3, 5, 7, 8, 9, 10, 32, 33, 34, 39, 40], none)) _ ?_
          refine eS fun K319 hn319 hr319 he319 => ?_;refine eO fun K320 hk320 => ?_;refine tC 1 F16 ?_;refine tC 2 F16 ?_;refine tS 1 F16 ?_;refine Or.inl (Or.inl ⟨_, k5, ?_⟩);refine tL F16 ?_;refine hk320 _ ?_;refine hn319 (some ([1, 3, 5, 7, 9, 10, 12, 32, 33, 34, 39, 40], none)) _ ?_;refine eS fun K321 hn321 hr321 he321 => ?_;refine eO fun K322 hk322 => ?_;refine tC 2 F16 ?_;refine tC 1 F16 ?_;refine tC 3 F16 ?_;refine tC 1 F16 ?_;refine tC 4 F16 ?_;refine tC 1 F16 ?_;refine tL F16 ?_;refine hk322 _ ?_;refine hn321 (some ([1, 3, 5, 7, 9, 10, 12, 13, 32, 33, 34, 39, 40], none)) _ ?_;refine eS fun K323 hn323 hr323 he323 => ?_
          refine eO fun K324 hk324 => ?_;refine tL F16 ?_;refine hk324 _ ?_;refine hn323 (some ([1, 3, 5, 7, 9, 10, 12, 13, 14, 32, 33, 34, 39, 40], none)) _ ?_;refine eS fun K325 hn325 hr325 he325 => ?_;refine eS fun K326 hn326 hr326 he326 => ?_;refine eO fun K327 hk327 => ?_;refine tC 2 F16 ?_;refine tZ F16 ?_;refine hk327 _ ?_;refine hn326 (some ([1, 3, 5, 7, 9, 10, 12, 13, 14, 32, 33, 34, 39, 40, 74], none)) _ ?_;refine eB fun K328 hn328 hx328 hr328 he328 => ?_;refine eS fun K329 hn329 hr329 he329 => ?_;refine eO fun K330 hk330 => ?_;refine tC 1 F16 ?_;refine tL F16 ?_;refine hk330 _ ?_;refine hn329 (some ([1, 3, 5, 7, 9, 10, 12, 13, 14, 32, 33, 34, 39, 40, 74, 75], none)) _ ?_
          refine eCf ?_;refine eS fun K331 hn331 hr331 he331 => ?_;refine eO fun K332 hk332 => ?_;refine tC 1 F16 ?_;refine tL F16 ?_;refine hk332 _ ?_;refine hn331 (some ([1, 3, 5, 7, 10, 12, 13, 14, 32, 33, 34, 39, 40, 74, 100], none)) _ ?_;refine eCf ?_;refine eS fun K333 hn333 hr333 he333 => ?_;refine eO fun K334 hk334 => ?_;refine tC 1 F16 ?_;refine tL F16 ?_;refine hk334 _ ?_;refine hn333 (some ([1, 3, 5, 7, 10, 14, 32, 33, 34, 39, 40, 114], none)) _ ?_;refine eCf ?_;refine hn328 _ ?_;refine hn325 (some ([1, 3, 5, 7, 14, 32, 33, 34, 39, 40], none)) _ ?_;refine eS fun K335 hn335 hr335 he335 => ?_
          refine eO fun K336 hk336 => ?_;refine tL F16 ?_;refine hk336 _ ?_;refine hn335 (some ([1, 3, 5, 7, 32, 33, 34, 39, 40, 141], none)) _ ?_;refine eCf ?_;refine hn311 _ ?_;refine hn310 (some ([1, 3, 5, 7, 32, 33, 34, 39, 40], none)) _ ?_;refine eO fun K337 hk337 => ?_;refine tC 1 F16 ?_;refine tL F16 ?_;refine hk337 _ ?_;refine hn34 (3 - (j + 1)) (some ([1, 3, 5, 7, 32, 33, 34, 39, 40], some ([0, 1, 2, 3], 4))) _ ?_ ?_
          all_goals try refine lp0 ?_
          · omega
          · exact ⟨j + 1, by omega, by omega, by rfl⟩
end Go.Proofs.YtkbgdhomdbolnaaGreatDoor

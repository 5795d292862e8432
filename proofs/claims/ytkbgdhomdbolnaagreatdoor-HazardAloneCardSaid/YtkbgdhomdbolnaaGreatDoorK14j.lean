/-
  HazardAlone by shadows.
-/
import Derived.Test.YtkbgdhomdbolnaaGreatDoorK14f
import Derived.Test.YtkbgdhomdbolnaaGreatDoorK14q
import Derived.Test.YtkbgdhomdbolnaaGreatDoorArg14
import Derived.Test.YtkbgdhomdbolnaaGreatDoorK14t
import Derived.Test.YtkbgdhomdbolnaaGreatDoorScHazardAlone
import Derived.Test.YtkbgdhomdbolnaaGreatDoorMC
namespace Go.Proofs.YtkbgdhomdbolnaaGreatDoor
set_option linter.unusedSimpArgs false
set_option linter.unusedVariables false
open Go.RowKit Go.Maps

theorem hz_done {d : Nat → DoH} {w : WorldM hz} {s : Nat → HzV} (h : HzW d w s) (hf : ∀ u, u < 3 → finH (s u) = true) : doneW w = true := by
  unfold doneW
  refine List.all_eq_true.2 fun i hi => ?_
  rw [h.len] at hi
  have hi := List.mem_range.1 hi
  obtain ⟨y, hy, hT⟩ := h.get hi
  have : liveAt w i = false := by
    unfold liveAt
    rw [hy]
    show y.live = false
    rw [hT.live, hf i hi]; rfl
  rw [this]; rfl
theorem hz_zero {d : Nat → DoH} {w : WorldM hz} {s : Nat → HzV} (h : HzW d w s) {i : Nat} (hi : i < 3) (hf : finH (s i) = true) (hk : (d i).kind % 4 = 1) : (Wd w.m (hazP i)).val = 0 := by
  obtain ⟨y, hy, hT⟩ := h.get hi
  have h9 := hT.st
  generalize y.act = a9 at h9
  generalize s i = z at h9 hf
  cases h9 with
  | found k => omega
  | held k => omega
  | again k h => omega
  | pdone k h => omega
  | clr k => cases hf
  | cdone k h => exact h
  | scan k m hm => omega
  | sdone k => omega
  | look k => omega
  | swap k g t hne => omega
  | wdone k => omega
theorem hz_alone1 {d : Nat → DoH} {w : WorldM hz} {s : Nat → HzV} (h : HzW d w s) {m : Nat} (hm : m < 3) (hst : w.stopped = List.replicate 3 false) {k : Nat} (hk : 4 ≤ k) :
    ∃ s', HzW d (aloneM w ((m : Int) + 1) k).1 s' ∧ (aloneM w ((m : Int) + 1) k).1.stopped = List.replicate 3 false ∧ (∀ j, j ≠ m → s' j = s j) ∧ (aloneM w ((m : Int) + 1) k).2 = true ∧ finH (s' m) = true := by
  have hs : stoppedM w m = false := by
    unfold stoppedM
    rw [hst]
    match m, hm with
    | 0, _ => rfl
    | 1, _ => rfl
    | 2, _ => rfl
  obtain ⟨s', h1, _, h3, h4, h5, h6⟩ := hz_alone h hm hs (I := fun _ _ => True) trivial (fun _ _ _ _ _ _ _ => trivial) hk
  exact ⟨s', h1, by rw [h3, hst], h4, h5, h6⟩
theorem step_stopped {d : Nat → DoH} {w : WorldM hz} {s s' : Nat → HzV} {p : PickV} (hk : p.kind = 0) (h : HzStep w s p s') (hst : w.stopped = List.replicate 3 false) : (stepM w p).1.stopped = List.replicate 3 false := by
  cases h with
  | idle e hs ht => rw [e]; exact hst
  | halt k hs ht hm => omega
  | go m y hm k ht hy hl hp did hT hst2 hW hs => rw [hst2]; exact hst
def HlInv (d : Nat → DoH) (r : Run14) (m : Nat) (S : St) : Prop :=
  ∃ (i : Nat) (w : WorldM hz) (s : Nat → HzV), i ≤ r.picks.length ∧ HzW d w s ∧ WorldOk w (2 + i) ∧ w.stopped = List.replicate 3 false ∧ m = r.picks.length - i ∧
    S = ⟨[(1, .ptr 0 0 0), (3, .ptr 1 0 0), (27, .sl 3 2 (r.picks.map ePick)), (28, sI r.picks.length), (29, sI i)], [(0, .box 44 (cRun14 r)), (1, boxW w)], 2⟩
def Hl2Inv (d : Nat → DoH) (r : Run14) (m : Nat) (S : St) : Prop :=
  ∃ (t : Nat) (w : WorldM hz) (s : Nat → HzV), t ≤ 3 ∧ HzW d w s ∧ WorldOk w (122 + 6 * t) ∧ w.stopped = List.replicate 3 false ∧ (∀ u, u < t → finH (s u) = true) ∧ m = 3 - t ∧
    S = ⟨[(1, .ptr 0 0 0), (3, .ptr 1 0 0), (7, sI ((t + 1 : Nat) : Int))], [(0, .box 44 (cRun14 r)), (1, boxW w)], 2⟩
set_option maxRecDepth 20000 in
set_option maxHeartbeats 16000000 in
theorem ok_HazardAlone (r : Run14) (hr : Run14In r) : Ok 14 [.agg (cRun14 r)] (sB true) := by
  refine ok_of_tr Tryz.func14 tr_HazardAlone rfl ?_
  have ka := ok_l14awake
  have k0 := ok_l14Great r
  cases hg : great14 r
  case true =>
    rw [hg] at k0
    unfold evFn sc_HazardAlone rv_HazardAlone
    refine eS fun K1 hn1 hr1 he1 => ?_;refine eO fun K2 hk2 => ?_;refine tL0 ?_;refine hk2 _ ?_;refine hn1 (some ([1], none)) _ ?_;refine eS fun K3 hn3 hr3 he3 => ?_;refine eS fun K4 hn4 hr4 he4 => ?_;refine eO fun K5 hk5 => ?_;refine tC0 1 ?_;refine tL0 ?_;refine Or.inl (Or.inl ⟨_, k0, ?_⟩);refine hk5 _ ?_;refine hn4 (some ([1, 12], none)) _ ?_;refine eCt ?_;refine eS fun K6 hn6 hr6 he6 => ?_;refine eO fun K7 hk7 => ?_;refine tS0 1 ?_;refine Or.inl (Or.inl ⟨_, ka, ?_⟩);refine tL0 ?_;refine hk7 _ ?_;refine hn6 (some ([2], none)) _ ?_;refine hr3 _ ?_
    exact sf0
  rw [hg] at k0
  have hlen : r.picks.length ≤ 120 := by have := of_decide_eq_false hg; omega
  obtain ⟨a, b, h0, h1, h2, d0, d1, d2, l⟩ := r
  obtain ⟨hd0, hd1, hd2⟩ := hr
  simp only at hlen hd0 hd1 hd2
  have hK := shK hz
  have k2 := ok_l14begun a b h0 h1 h2 d0 d1 d2 hd0 hd1 hd2
  have hW0 := (worldH_ok a b (hsOf h0 h1 h2) (dOf d0 d1 d2)).1
  obtain ⟨hZ0, _, hst0⟩ := worldH_hzW a b (hsOf h0 h1 h2) (dOf d0 d1 d2)
  have kp := ok_l14plan
  have kh : ∀ i : Nat, i < 3 → Ok 33 [.agg (eLay planH), sI ((i + 1 : Nat) : Int)] (sI (hazP i)) := fun i hi => by
    have h9 := ok_layHaz planH ((i : Int) + 1)
    have h8 := haz_planH hi
    unfold hazT at h8
    rw [h8] at h9
    exact h9
  have r0 := remH hd0.kind (m := 4) rfl
  have r1 := remH hd1.kind (m := 4) rfl
  have r2 := remH hd2.kind (m := 4) rfl
  obtain ⟨d, hdd⟩ : ∃ d, d = dOf d0 d1 d2 := ⟨_, rfl⟩
  have gk0 : (d 0).kind = d0.kind := by rw [hdd]; rfl
  have gk1 : (d 1).kind = d1.kind := by rw [hdd]; rfl
  have gk2 : (d 2).kind = d2.kind := by rw [hdd]; rfl
  rw [← hdd] at k2 hW0 hZ0 hst0
  clear hdd hg
  generalize (fun i => (hzNext (codeH i (d i)) zGot).1) = s0 at hZ0
  generalize worldH a b (hsOf h0 h1 h2) d = W0 at k2 hW0 hZ0 hst0
  generalize planH = L at kp kh
  unfold evFn sc_HazardAlone rv_HazardAlone
  have F1 := @hK
  refine eS fun K1 hn1 hr1 he1 => ?_;refine eO fun K2 hk2 => ?_;refine tL F1 ?_;refine hk2 _ ?_;refine hn1 (some ([1], none)) _ ?_;refine eS fun K3 hn3 hr3 he3 => ?_;refine eS fun K4 hn4 hr4 he4 => ?_;refine eO fun K5 hk5 => ?_;refine tC 1 F1 ?_;refine tL F1 ?_;refine Or.inl (Or.inl ⟨_, k0, ?_⟩);refine hk5 _ ?_;refine hn4 (some ([1, 12], none)) _ ?_;refine eCf ?_;refine hn3 (some ([1], none)) _ ?_;refine eS fun K6 hn6 hr6 he6 => ?_;refine eO fun K7 hk7 => ?_;refine tC 2 F1 ?_;refine tC 2 F1 ?_;refine tC 2 F1 ?_;refine tS 1 F1 ?_;refine Or.inl (Or.inl ⟨_, k2, ?_⟩);refine tC 5 F1 ?_;refine tL F1 ?_
  refine hk7 _ ?_;refine hn6 (some ([1, 3, 4], none)) _ ?_;refine eS fun K8 hn8 hr8 he8 => ?_;refine eS fun K9 hn9 hr9 he9 => ?_;refine eO fun K10 hk10 => ?_;refine tL F1 ?_;refine hk10 _ ?_;refine hn9 (some ([1, 3, 25], none)) _ ?_;refine eCf ?_;refine hn8 (some ([1, 3], none)) _ ?_;refine eS fun K11 hn11 hr11 he11 => ?_;refine eS fun K12 hn12 hr12 he12 => ?_;refine eO fun K13 hk13 => ?_;refine tC 2 F1 ?_;refine tL F1 ?_;refine hk13 _ ?_;refine hn12 (some ([1, 3, 27, 28, 29], none)) _ ?_;refine eB fun K14 hn14 hx14 hr14 he14 => ?_;refine eW (HlInv d ⟨a, b, h0, h1, h2, d0, d1, d2, l⟩) (l.length) (some ([1, 3, 27, 28, 29], some ([0, 1], 2))) ([]) ?_ ?_
  · try refine lp0 ?_
    exact ⟨0, W0, s0, by omega, hZ0, hW0, hst0, rfl, by rfl⟩
  · intro k S1 hI
    obtain ⟨i, w, s, hi, hZ, hW, hst, rfl, rfl⟩ := hI
    have hi : i ≤ l.length := hi
    have hcase : i = l.length ∨ (∃ p, l[i]? = some p ∧ p.kind = 0) ∨ (∃ p, l[i]? = some p ∧ p.kind ≠ 0) := by
      rcases Nat.lt_or_ge i l.length with h | h
      · by_cases hk : (l[i]).kind = 0
        · exact .inr (.inl ⟨_, List.getElem?_eq_getElem h, hk⟩)
        · exact .inr (.inr ⟨_, List.getElem?_eq_getElem h, hk⟩)
      · exact .inl (by omega)
    intro K15 hn15 hr15 he15
    rcases hcase with hcc | ⟨p, hp1, hp2⟩ | ⟨p, hp1, hp2⟩
    · skip
      have x2 : ¬ (i : Int) < (l.length : Int) := by omega
      have F2 := And.intro F1 @x2
      refine eS fun K16 hn16 hr16 he16 => ?_;refine eO fun K17 hk17 => ?_;refine tZ F2 ?_;refine hk17 _ ?_;refine hn16 (some ([1, 3, 27, 28, 29, 30], none)) _ ?_;refine eS fun K18 hn18 hr18 he18 => ?_;refine eCf ?_;refine he18 0 _ ?_;refine he15 0 _ ?_;refine hx14 _ ?_;refine hn11 (some ([1, 3], none)) _ ?_;refine eS fun K19 hn19 hr19 he19 => ?_;refine eS fun K20 hn20 hr20 he20 => ?_;refine eO fun K21 hk21 => ?_;refine tL F2 ?_;refine hk21 _ ?_;refine hn20 (some ([1, 3, 7], none)) _ ?_;refine eB fun K22 hn22 hx22 hr22 he22 => ?_;refine eW (Hl2Inv d ⟨a, b, h0, h1, h2, d0, d1, d2, l⟩) (3) (some ([1, 3, 7], some ([0, 1], 2))) ([]) ?_ ?_
      · try refine lp0 ?_
        exact ⟨0, w, s, by omega, hZ, worldOk_up hW (by omega), hst, fun u hu => absurd hu (by omega), by omega, by rfl⟩
      · intro k S1 hI
        obtain ⟨t, w2, s2, ht, hZ2, hW2, hst2, hfin2, rfl, rfl⟩ := hI
        have hcas2 : t = 3 ∨ (t = 0 ∧ d0.kind % 4 = 0) ∨ (t = 0 ∧ d0.kind % 4 = 1) ∨ (t = 0 ∧ d0.kind % 4 = 2) ∨ (t = 0 ∧ d0.kind % 4 = 3) ∨ (t = 1 ∧ d1.kind % 4 = 0) ∨ (t = 1 ∧ d1.kind % 4 = 1) ∨ (t = 1 ∧ d1.kind % 4 = 2) ∨ (t = 1 ∧ d1.kind % 4 = 3) ∨ (t = 2 ∧ d2.kind % 4 = 0) ∨ (t = 2 ∧ d2.kind % 4 = 1) ∨ (t = 2 ∧ d2.kind % 4 = 2) ∨ (t = 2 ∧ d2.kind % 4 = 3) := by omega
        intro K23 hn23 hr23 he23
        rcases hcas2 with rfl | ⟨rfl, hq⟩ | ⟨rfl, hq⟩ | ⟨rfl, hq⟩ | ⟨rfl, hq⟩ | ⟨rfl, hq⟩ | ⟨rfl, hq⟩ | ⟨rfl, hq⟩ | ⟨rfl, hq⟩ | ⟨rfl, hq⟩ | ⟨rfl, hq⟩ | ⟨rfl, hq⟩ | ⟨rfl, hq⟩
        · skip
          have z1 : ¬ ((3 + 1 : Nat) : Int) ≤ 3 := by decide
          have k8 := ok_kWDone w2 (by have := hZ2.len; omega)
          rw [hz_done hZ2 hfin2] at k8
          have F3 := And.intro F2 @z1
          refine eS fun K24 hn24 hr24 he24 => ?_;refine eS fun K25 hn25 hr25 he25 => ?_;refine eO fun K26 hk26 => ?_;refine tZ F3 ?_;refine hk26 _ ?_;refine hn25 (some ([1, 3, 7, 44], none)) _ ?_;refine eCf ?_;refine he24 2 _ ?_;refine he23 2 _ ?_;refine hx22 _ ?_;refine hn19 (some ([3], none)) _ ?_;refine eS fun K27 hn27 hr27 he27 => ?_;refine eO fun K28 hk28 => ?_;refine tC 1 F3 ?_;refine tS 1 F3 ?_;refine Or.inl (Or.inl ⟨_, k8, ?_⟩);refine tS 1 F3 ?_;refine tS 1 F3 ?_;refine Or.inl (Or.inl ⟨_, ka, ?_⟩);refine tL F3 ?_;refine hk28 _ ?_;refine hn27 (some ([2], none)) _ ?_
          exact sf1 F3
        · skip
          have z1 : ((0 + 1 : Nat) : Int) ≤ 3 := by decide
          have z2 : IntKind.i64.wrap (((0 + 1 : Nat) : Int) - 1) = ((0 : Nat) : Int) := by decide
          have z3 : IntKind.i64.wrap (((0 + 1 : Nat) : Int) + 1) = ((0 + 1 + 1 : Nat) : Int) := by decide
          have z4 : d0.kind.tmod 4 = 0 := by rw [r0, hq]
          have k4 := ok_kAlone w2 ((0 + 1 : Nat) : Int) 6 hW2 (by omega)
          have hW3 := alone_ok hW2 ((0 + 1 : Nat) : Int) 6
          obtain ⟨s3, hZ3, hst3, ho3, hd3, hf3⟩ := hz_alone1 hZ2 (m := 0) (by decide) hst2 (k := 6) (by decide)
          change HzW d (aloneM w2 ((0 + 1 : Nat) : Int) 6).1 s3 at hZ3
          change (aloneM w2 ((0 + 1 : Nat) : Int) 6).1.stopped = _ at hst3
          change (aloneM w2 ((0 + 1 : Nat) : Int) 6).2 = true at hd3
          rw [hd3] at k4
          generalize (aloneM w2 ((0 + 1 : Nat) : Int) 6).1 = w3 at k4 hZ3 hst3 hW3
          have z5 : (w3.tasks.length : Int) = 3 := by have := hZ3.len; omega
          have F4 := And.intro F2 (And.intro @z1 (And.intro @z2 (And.intro @z3 (And.intro @z4 @z5))))
          refine eS fun K29 hn29 hr29 he29 => ?_;refine eS fun K30 hn30 hr30 he30 => ?_;refine eO fun K31 hk31 => ?_;refine tZ F4 ?_;refine hk31 _ ?_;refine hn30 (some ([1, 3, 7, 44], none)) _ ?_;refine eCt ?_;refine hn29 (some ([1, 3, 7], none)) _ ?_;refine eS fun K32 hn32 hr32 he32 => ?_;refine eB fun K33 hn33 hx33 hr33 he33 => ?_;refine eS fun K34 hn34 hr34 he34 => ?_;refine eO fun K35 hk35 => ?_;refine tC 1 F4 ?_;refine tC 2 F4 ?_;refine tC 2 F4 ?_;refine tC 2 F4 ?_;refine tC 1 F4 ?_;refine tC 1 F4 ?_;refine tC 1 F4 ?_;refine tL F4 ?_;refine hk35 _ ?_;refine hn34 (some ([1, 3, 7, 8], none)) _ ?_
          refine eS fun K36 hn36 hr36 he36 => ?_;refine eO fun K37 hk37 => ?_;refine tC 1 F4 ?_;refine tS 2 F4 ?_;refine tS 1 F4 ?_;refine Or.inl (Or.inl ⟨_, k4, ?_⟩);refine tC 5 F4 ?_;refine tL F4 ?_;refine hk37 _ ?_;refine hn36 (some ([1, 3, 7, 9, 10], none)) _ ?_;refine eS fun K38 hn38 hr38 he38 => ?_;refine eS fun K39 hn39 hr39 he39 => ?_;refine eO fun K40 hk40 => ?_;refine tC 5 F4 ?_;refine tC 2 F4 ?_;refine tL F4 ?_;refine hk40 _ ?_;refine hn39 (some ([1, 3, 7, 9, 71], none)) _ ?_;refine eCf ?_;refine hn38 (some ([1, 3, 7, 9], none)) _ ?_;refine eS fun K41 hn41 hr41 he41 => ?_;refine eO fun K42 hk42 => ?_
          refine tC 1 F4 ?_;refine tZ F4 ?_;refine hk42 _ ?_;refine hn41 (some ([1, 3, 7], none)) _ ?_;refine eS fun K43 hn43 hr43 he43 => ?_;refine eD [] (n := 13) fun K44 hk44 => ?_;refine sq0 ?_;refine fC 2 F4 ?_;refine fC 2 F4 ?_;refine fC 2 F4 ?_;refine fC 1 F4 ?_;refine fC 1 F4 ?_;refine fC 2 F4 ?_;refine fS 1 F4 ?_
          skip
          refine fS 1 F4 ?_;refine fL F4 ?_
          skip
          refine hk44 _ ?_;refine sr0 ?_;refine tS 1 F4 ?_
          skip
          refine tC 1 F4 ?_;refine tL F4 ?_;refine hn43 (some ([1, 3, 7, 88], none)) _ ?_;refine eCf ?_;refine hn33 _ ?_;refine hn32 (some ([1, 3, 7], none)) _ ?_;refine eO fun K46 hk46 => ?_;refine tC 2 F4 ?_;refine tL F4 ?_;refine hk46 _ ?_;refine hn23 (3 - (0 + 1)) (some ([1, 3, 7], some ([0, 1], 2))) _ ?_ ?_
          all_goals try refine lp0 ?_
          · omega
          · exact ⟨0 + 1, w3, s3, by omega, hZ3, worldOk_up hW3 (by show 122 + 6 * 0 + 6 ≤ 122 + 6 * (0 + 1); omega), hst3, fun u hu => (by
              by_cases e9 : u = 0
              · rw [e9]; exact hf3
              · rw [ho3 u e9]; exact hfin2 u (by omega)), by omega, by rfl⟩
        · skip
          have z1 : ((0 + 1 : Nat) : Int) ≤ 3 := by decide
          have z2 : IntKind.i64.wrap (((0 + 1 : Nat) : Int) - 1) = ((0 : Nat) : Int) := by decide
          have z3 : IntKind.i64.wrap (((0 + 1 : Nat) : Int) + 1) = ((0 + 1 + 1 : Nat) : Int) := by decide
          have z4 : d0.kind.tmod 4 = 1 := by rw [r0, hq]
          have k4 := ok_kAlone w2 ((0 + 1 : Nat) : Int) 4 hW2 (by omega)
          have hW3 := alone_ok hW2 ((0 + 1 : Nat) : Int) 4
          obtain ⟨s3, hZ3, hst3, ho3, hd3, hf3⟩ := hz_alone1 hZ2 (m := 0) (by decide) hst2 (k := 4) (by decide)
          change HzW d (aloneM w2 ((0 + 1 : Nat) : Int) 4).1 s3 at hZ3
          change (aloneM w2 ((0 + 1 : Nat) : Int) 4).1.stopped = _ at hst3
          change (aloneM w2 ((0 + 1 : Nat) : Int) 4).2 = true at hd3
          rw [hd3] at k4
          generalize (aloneM w2 ((0 + 1 : Nat) : Int) 4).1 = w3 at k4 hZ3 hst3 hW3
          have z5 : (w3.tasks.length : Int) = 3 := by have := hZ3.len; omega
          have k7 := ok_l14val w3 (hazP 0) hW3 (by omega)
          rw [hz_zero hZ3 (i := 0) (by decide) hf3 (by rw [gk0]; exact hq)] at k7
          have k6 := kh 0 (by decide)
          have F5 := And.intro F2 (And.intro @z1 (And.intro @z2 (And.intro @z3 (And.intro @z4 @z5))))
          refine eS fun K47 hn47 hr47 he47 => ?_;refine eS fun K48 hn48 hr48 he48 => ?_;refine eO fun K49 hk49 => ?_;refine tZ F5 ?_;refine hk49 _ ?_;refine hn48 (some ([1, 3, 7, 44], none)) _ ?_;refine eCt ?_;refine hn47 (some ([1, 3, 7], none)) _ ?_;refine eS fun K50 hn50 hr50 he50 => ?_;refine eB fun K51 hn51 hx51 hr51 he51 => ?_;refine eS fun K52 hn52 hr52 he52 => ?_;refine eO fun K53 hk53 => ?_;refine tC 1 F5 ?_;refine tC 2 F5 ?_;refine tC 2 F5 ?_;refine tC 2 F5 ?_;refine tC 1 F5 ?_;refine tC 1 F5 ?_;refine tC 1 F5 ?_;refine tL F5 ?_;refine hk53 _ ?_;refine hn52 (some ([1, 3, 7, 8], none)) _ ?_
          refine eS fun K54 hn54 hr54 he54 => ?_;refine eO fun K55 hk55 => ?_;refine tC 1 F5 ?_;refine tS 2 F5 ?_;refine tS 1 F5 ?_;refine Or.inl (Or.inl ⟨_, k4, ?_⟩);refine tC 5 F5 ?_;refine tL F5 ?_;refine hk55 _ ?_;refine hn54 (some ([1, 3, 7, 9, 10], none)) _ ?_;refine eS fun K56 hn56 hr56 he56 => ?_;refine eS fun K57 hn57 hr57 he57 => ?_;refine eO fun K58 hk58 => ?_;refine tC 5 F5 ?_;refine tC 2 F5 ?_;refine tL F5 ?_;refine hk58 _ ?_;refine hn57 (some ([1, 3, 7, 9, 71], none)) _ ?_;refine eCf ?_;refine hn56 (some ([1, 3, 7, 9], none)) _ ?_;refine eS fun K59 hn59 hr59 he59 => ?_;refine eO fun K60 hk60 => ?_
          refine tC 1 F5 ?_;refine tZ F5 ?_;refine hk60 _ ?_;refine hn59 (some ([1, 3, 7], none)) _ ?_;refine eS fun K61 hn61 hr61 he61 => ?_;refine eD [] (n := 13) fun K62 hk62 => ?_;refine sq0 ?_;refine fC 2 F5 ?_;refine fC 2 F5 ?_;refine fC 2 F5 ?_;refine fC 1 F5 ?_;refine fC 1 F5 ?_;refine fC 2 F5 ?_;refine fS 1 F5 ?_;refine ⟨_, kp, ?_⟩;refine fS 1 F5 ?_;refine fL F5 ?_;refine ⟨_, k6, ?_⟩;refine hk62 _ ?_;refine sr0 ?_;refine tS 1 F5 ?_;refine Or.inl (Or.inl ⟨_, k7, ?_⟩);refine tC 1 F5 ?_;refine tL F5 ?_;refine hn61 (some ([1, 3, 7, 88], none)) _ ?_;refine eCf ?_;refine hn51 _ ?_;refine hn50 (some ([1, 3, 7], none)) _ ?_
          refine eO fun K64 hk64 => ?_;refine tC 2 F5 ?_;refine tL F5 ?_;refine hk64 _ ?_;refine hn23 (3 - (0 + 1)) (some ([1, 3, 7], some ([0, 1], 2))) _ ?_ ?_
          all_goals try refine lp0 ?_
          · omega
          · exact ⟨0 + 1, w3, s3, by omega, hZ3, worldOk_up hW3 (by show 122 + 6 * 0 + 4 ≤ 122 + 6 * (0 + 1); omega), hst3, fun u hu => (by
              by_cases e9 : u = 0
              · rw [e9]; exact hf3
              · rw [ho3 u e9]; exact hfin2 u (by omega)), by omega, by rfl⟩
        · skip
          have z1 : ((0 + 1 : Nat) : Int) ≤ 3 := by decide
          have z2 : IntKind.i64.wrap (((0 + 1 : Nat) : Int) - 1) = ((0 : Nat) : Int) := by decide
          have z3 : IntKind.i64.wrap (((0 + 1 : Nat) : Int) + 1) = ((0 + 1 + 1 : Nat) : Int) := by decide
          have z4 : d0.kind.tmod 4 = 2 := by rw [r0, hq]
          have k4 := ok_kAlone w2 ((0 + 1 : Nat) : Int) 6 hW2 (by omega)
          have hW3 := alone_ok hW2 ((0 + 1 : Nat) : Int) 6
          obtain ⟨s3, hZ3, hst3, ho3, hd3, hf3⟩ := hz_alone1 hZ2 (m := 0) (by decide) hst2 (k := 6) (by decide)
          change HzW d (aloneM w2 ((0 + 1 : Nat) : Int) 6).1 s3 at hZ3
          change (aloneM w2 ((0 + 1 : Nat) : Int) 6).1.stopped = _ at hst3
          change (aloneM w2 ((0 + 1 : Nat) : Int) 6).2 = true at hd3
          rw [hd3] at k4
          generalize (aloneM w2 ((0 + 1 : Nat) : Int) 6).1 = w3 at k4 hZ3 hst3 hW3
          have z5 : (w3.tasks.length : Int) = 3 := by have := hZ3.len; omega
          have F6 := And.intro F2 (And.intro @z1 (And.intro @z2 (And.intro @z3 (And.intro @z4 @z5))))
          refine eS fun K65 hn65 hr65 he65 => ?_;refine eS fun K66 hn66 hr66 he66 => ?_;refine eO fun K67 hk67 => ?_;refine tZ F6 ?_;refine hk67 _ ?_;refine hn66 (some ([1, 3, 7, 44], none)) _ ?_;refine eCt ?_;refine hn65 (some ([1, 3, 7], none)) _ ?_;refine eS fun K68 hn68 hr68 he68 => ?_;refine eB fun K69 hn69 hx69 hr69 he69 => ?_;refine eS fun K70 hn70 hr70 he70 => ?_;refine eO fun K71 hk71 => ?_;refine tC 1 F6 ?_;refine tC 2 F6 ?_;refine tC 2 F6 ?_;refine tC 2 F6 ?_;refine tC 1 F6 ?_;refine tC 1 F6 ?_;refine tC 1 F6 ?_;refine tL F6 ?_;refine hk71 _ ?_;refine hn70 (some ([1, 3, 7, 8], none)) _ ?_
          refine eS fun K72 hn72 hr72 he72 => ?_;refine eO fun K73 hk73 => ?_;refine tC 1 F6 ?_;refine tS 2 F6 ?_;refine tS 1 F6 ?_;refine Or.inl (Or.inl ⟨_, k4, ?_⟩);refine tC 5 F6 ?_;refine tL F6 ?_;refine hk73 _ ?_;refine hn72 (some ([1, 3, 7, 9, 10], none)) _ ?_;refine eS fun K74 hn74 hr74 he74 => ?_;refine eS fun K75 hn75 hr75 he75 => ?_;refine eO fun K76 hk76 => ?_;refine tC 5 F6 ?_;refine tC 2 F6 ?_;refine tL F6 ?_;refine hk76 _ ?_;refine hn75 (some ([1, 3, 7, 9, 71], none)) _ ?_;refine eCf ?_;refine hn74 (some ([1, 3, 7, 9], none)) _ ?_;refine eS fun K77 hn77 hr77 he77 => ?_;refine eO fun K78 hk78 => ?_
          refine tC 1 F6 ?_;refine tZ F6 ?_;refine hk78 _ ?_;refine hn77 (some ([1, 3, 7], none)) _ ?_;refine eS fun K79 hn79 hr79 he79 => ?_;refine eD [] (n := 13) fun K80 hk80 => ?_;refine sq0 ?_;refine fC 2 F6 ?_;refine fC 2 F6 ?_;refine fC 2 F6 ?_;refine fC 1 F6 ?_;refine fC 1 F6 ?_;refine fC 2 F6 ?_;refine fS 1 F6 ?_
          skip
          refine fS 1 F6 ?_;refine fL F6 ?_
          skip
          refine hk80 _ ?_;refine sr0 ?_;refine tS 1 F6 ?_
          skip
          refine tC 1 F6 ?_;refine tL F6 ?_;refine hn79 (some ([1, 3, 7, 88], none)) _ ?_;refine eCf ?_;refine hn69 _ ?_;refine hn68 (some ([1, 3, 7], none)) _ ?_;refine eO fun K82 hk82 => ?_;refine tC 2 F6 ?_;refine tL F6 ?_;refine hk82 _ ?_;refine hn23 (3 - (0 + 1)) (some ([1, 3, 7], some ([0, 1], 2))) _ ?_ ?_
          all_goals try refine lp0 ?_
          · omega
          · exact ⟨0 + 1, w3, s3, by omega, hZ3, worldOk_up hW3 (by show 122 + 6 * 0 + 6 ≤ 122 + 6 * (0 + 1); omega), hst3, fun u hu => (by
              by_cases e9 : u = 0
              · rw [e9]; exact hf3
              · rw [ho3 u e9]; exact hfin2 u (by omega)), by omega, by rfl⟩
        · skip
          have z1 : ((0 + 1 : Nat) : Int) ≤ 3 := by decide
          have z2 : IntKind.i64.wrap (((0 + 1 : Nat) : Int) - 1) = ((0 : Nat) : Int) := by decide
          have z3 : IntKind.i64.wrap (((0 + 1 : Nat) : Int) + 1) = ((0 + 1 + 1 : Nat) : Int) := by decide
          have z4 : d0.kind.tmod 4 = 3 := by rw [r0, hq]
          have k4 := ok_kAlone w2 ((0 + 1 : Nat) : Int) 4 hW2 (by omega)
          have hW3 := alone_ok hW2 ((0 + 1 : Nat) : Int) 4
          obtain ⟨s3, hZ3, hst3, ho3, hd3, hf3⟩ := hz_alone1 hZ2 (m := 0) (by decide) hst2 (k := 4) (by decide)
          change HzW d (aloneM w2 ((0 + 1 : Nat) : Int) 4).1 s3 at hZ3
          change (aloneM w2 ((0 + 1 : Nat) : Int) 4).1.stopped = _ at hst3
          change (aloneM w2 ((0 + 1 : Nat) : Int) 4).2 = true at hd3
          rw [hd3] at k4
          generalize (aloneM w2 ((0 + 1 : Nat) : Int) 4).1 = w3 at k4 hZ3 hst3 hW3
          have z5 : (w3.tasks.length : Int) = 3 := by have := hZ3.len; omega
          have F7 := And.intro F2 (And.intro @z1 (And.intro @z2 (And.intro @z3 (And.intro @z4 @z5))))
          refine eS fun K83 hn83 hr83 he83 => ?_;refine eS fun K84 hn84 hr84 he84 => ?_;refine eO fun K85 hk85 => ?_;refine tZ F7 ?_;refine hk85 _ ?_;refine hn84 (some ([1, 3, 7, 44], none)) _ ?_;refine eCt ?_;refine hn83 (some ([1, 3, 7], none)) _ ?_;refine eS fun K86 hn86 hr86 he86 => ?_;refine eB fun K87 hn87 hx87 hr87 he87 => ?_;refine eS fun K88 hn88 hr88 he88 => ?_;refine eO fun K89 hk89 => ?_;refine tC 1 F7 ?_;refine tC 2 F7 ?_;refine tC 2 F7 ?_;refine tC 2 F7 ?_;refine tC 1 F7 ?_;refine tC 1 F7 ?_;refine tC 1 F7 ?_;refine tL F7 ?_;refine hk89 _ ?_;refine hn88 (some ([1, 3, 7, 8], none)) _ ?_
          refine eS fun K90 hn90 hr90 he90 => ?_;refine eO fun K91 hk91 => ?_;refine tC 1 F7 ?_;refine tS 2 F7 ?_;refine tS 1 F7 ?_;refine Or.inl (Or.inl ⟨_, k4, ?_⟩);refine tC 5 F7 ?_;refine tL F7 ?_;refine hk91 _ ?_;refine hn90 (some ([1, 3, 7, 9, 10], none)) _ ?_;refine eS fun K92 hn92 hr92 he92 => ?_;refine eS fun K93 hn93 hr93 he93 => ?_;refine eO fun K94 hk94 => ?_;refine tC 5 F7 ?_;refine tC 2 F7 ?_;refine tL F7 ?_;refine hk94 _ ?_;refine hn93 (some ([1, 3, 7, 9, 71], none)) _ ?_;refine eCf ?_;refine hn92 (some ([1, 3, 7, 9], none)) _ ?_;refine eS fun K95 hn95 hr95 he95 => ?_;refine eO fun K96 hk96 => ?_
          refine tC 1 F7 ?_;refine tZ F7 ?_;refine hk96 _ ?_;refine hn95 (some ([1, 3, 7], none)) _ ?_;refine eS fun K97 hn97 hr97 he97 => ?_;refine eD [] (n := 13) fun K98 hk98 => ?_;refine sq0 ?_;refine fC 2 F7 ?_;refine fC 2 F7 ?_;refine fC 2 F7 ?_;refine fC 1 F7 ?_;refine fC 1 F7 ?_;refine fC 2 F7 ?_;refine fS 1 F7 ?_
          skip
          refine fS 1 F7 ?_;refine fL F7 ?_
          skip
          refine hk98 _ ?_;refine sr0 ?_;refine tS 1 F7 ?_
          skip
          refine tC 1 F7 ?_;refine tL F7 ?_;refine hn97 (some ([1, 3, 7, 88], none)) _ ?_;refine eCf ?_;refine hn87 _ ?_;refine hn86 (some ([1, 3, 7], none)) _ ?_;refine eO fun K100 hk100 => ?_;refine tC 2 F7 ?_;refine tL F7 ?_;refine hk100 _ ?_;refine hn23 (3 - (0 + 1)) (some ([1, 3, 7], some ([0, 1], 2))) _ ?_ ?_
          all_goals try refine lp0 ?_
          · omega
          · exact ⟨0 + 1, w3, s3, by omega, hZ3, worldOk_up hW3 (by show 122 + 6 * 0 + 4 ≤ 122 + 6 * (0 + 1); omega), hst3, fun u hu => (by
              by_cases e9 : u = 0
              · rw [e9]; exact hf3
              · rw [ho3 u e9]; exact hfin2 u (by omega)), by omega, by rfl⟩
        · skip
          have z1 : ((1 + 1 : Nat) : Int) ≤ 3 := by decide
          have z2 : IntKind.i64.wrap (((1 + 1 : Nat) : Int) - 1) = ((1 : Nat) : Int) := by decide
          have z3 : IntKind.i64.wrap (((1 + 1 : Nat) : Int) + 1) = ((1 + 1 + 1 : Nat) : Int) := by decide
          have z4 : d1.kind.tmod 4 = 0 := by rw [r1, hq]
          have k4 := ok_kAlone w2 ((1 + 1 : Nat) : Int) 6 hW2 (by omega)
          have hW3 := alone_ok hW2 ((1 + 1 : Nat) : Int) 6
          obtain ⟨s3, hZ3, hst3, ho3, hd3, hf3⟩ := hz_alone1 hZ2 (m := 1) (by decide) hst2 (k := 6) (by decide)
          change HzW d (aloneM w2 ((1 + 1 : Nat) : Int) 6).1 s3 at hZ3
          change (aloneM w2 ((1 + 1 : Nat) : Int) 6).1.stopped = _ at hst3
          change (aloneM w2 ((1 + 1 : Nat) : Int) 6).2 = true at hd3
          rw [hd3] at k4
          generalize (aloneM w2 ((1 + 1 : Nat) : Int) 6).1 = w3 at k4 hZ3 hst3 hW3
          have z5 : (w3.tasks.length : Int) = 3 := by have := hZ3.len; omega
          have F8 := And.intro F2 (And.intro @z1 (And.intro @z2 (And.intro @z3 (And.intro @z4 @z5))))
          refine eS fun K101 hn101 hr101 he101 => ?_;refine eS fun K102 hn102 hr102 he102 => ?_;refine eO fun K103 hk103 => ?_;refine tZ F8 ?_;refine hk103 _ ?_;refine hn102 (some ([1, 3, 7, 44], none)) _ ?_;refine eCt ?_;refine hn101 (some ([1, 3, 7], none)) _ ?_;refine eS fun K104 hn104 hr104 he104 => ?_;refine eB fun K105 hn105 hx105 hr105 he105 => ?_;refine eS fun K106 hn106 hr106 he106 => ?_;refine eO fun K107 hk107 => ?_;refine tC 1 F8 ?_;refine tC 2 F8 ?_;refine tC 2 F8 ?_;refine tC 2 F8 ?_;refine tC 1 F8 ?_;refine tC 1 F8 ?_;refine tC 1 F8 ?_;refine tL F8 ?_;refine hk107 _ ?_;refine hn106 (some ([1, 3, 7, 8], none)) _ ?_
          refine eS fun K108 hn108 hr108 he108 => ?_;refine eO fun K109 hk109 => ?_;refine tC 1 F8 ?_;refine tS 2 F8 ?_;refine tS 1 F8 ?_;refine Or.inl (Or.inl ⟨_, k4, ?_⟩);refine tC 5 F8 ?_;refine tL F8 ?_;refine hk109 _ ?_;refine hn108 (some ([1, 3, 7, 9, 10], none)) _ ?_;refine eS fun K110 hn110 hr110 he110 => ?_;refine eS fun K111 hn111 hr111 he111 => ?_;refine eO fun K112 hk112 => ?_;refine tC 5 F8 ?_;refine tC 2 F8 ?_;refine tL F8 ?_;refine hk112 _ ?_;refine hn111 (some ([1, 3, 7, 9, 71], none)) _ ?_;refine eCf ?_;refine hn110 (some ([1, 3, 7, 9], none)) _ ?_;refine eS fun K113 hn113 hr113 he113 => ?_
          refine eO fun K114 hk114 => ?_;refine tC 1 F8 ?_;refine tZ F8 ?_;refine hk114 _ ?_;refine hn113 (some ([1, 3, 7], none)) _ ?_;refine eS fun K115 hn115 hr115 he115 => ?_;refine eD [] (n := 13) fun K116 hk116 => ?_;refine sq0 ?_;refine fC 2 F8 ?_;refine fC 2 F8 ?_;refine fC 2 F8 ?_;refine fC 1 F8 ?_;refine fC 1 F8 ?_;refine fC 2 F8 ?_;refine fS 1 F8 ?_
          skip
          refine fS 1 F8 ?_;refine fL F8 ?_
          skip
          refine hk116 _ ?_;refine sr0 ?_;refine tS 1 F8 ?_
          skip
          refine tC 1 F8 ?_;refine tL F8 ?_;refine hn115 (some ([1, 3, 7, 88], none)) _ ?_;refine eCf ?_;refine hn105 _ ?_;refine hn104 (some ([1, 3, 7], none)) _ ?_;refine eO fun K118 hk118 => ?_;refine tC 2 F8 ?_;refine tL F8 ?_;refine hk118 _ ?_;refine hn23 (3 - (1 + 1)) (some ([1, 3, 7], some ([0, 1], 2))) _ ?_ ?_
          all_goals try refine lp0 ?_
          · omega
          · exact ⟨1 + 1, w3, s3, by omega, hZ3, worldOk_up hW3 (by show 122 + 6 * 1 + 6 ≤ 122 + 6 * (1 + 1); omega), hst3, fun u hu => (by
              by_cases e9 : u = 1
              · rw [e9]; exact hf3
              · rw [ho3 u e9]; exact hfin2 u (by omega)), by omega, by rfl⟩
        · skip
          have z1 : ((1 + 1 : Nat) : Int) ≤ 3 := by decide
          have z2 : IntKind.i64.wrap (((1 + 1 : Nat) : Int) - 1) = ((1 : Nat) : Int) := by decide
          have z3 : IntKind.i64.wrap (((1 + 1 : Nat) : Int) + 1) = ((1 + 1 + 1 : Nat) : Int) := by decide
          have z4 : d1.kind.tmod 4 = 1 := by rw [r1, hq]
          have k4 := ok_kAlone w2 ((1 + 1 : Nat) : Int) 4 hW2 (by omega)
          have hW3 := alone_ok hW2 ((1 + 1 : Nat) : Int) 4
          obtain ⟨s3, hZ3, hst3, ho3, hd3, hf3⟩ := hz_alone1 hZ2 (m := 1) (by decide) hst2 (k := 4) (by decide)
          change HzW d (aloneM w2 ((1 + 1 : Nat) : Int) 4).1 s3 at hZ3
          change (aloneM w2 ((1 + 1 : Nat) : Int) 4).1.stopped = _ at hst3
          change (aloneM w2 ((1 + 1 : Nat) : Int) 4).2 = true at hd3
          rw [hd3] at k4
          generalize (aloneM w2 ((1 + 1 : Nat) : Int) 4).1 = w3 at k4 hZ3 hst3 hW3
          have z5 : (w3.tasks.length : Int) = 3 := by have := hZ3.len; omega
          have k7 := ok_l14val w3 (hazP 1) hW3 (by omega)
          rw [hz_zero hZ3 (i := 1) (by decide) hf3 (by rw [gk1]; exact hq)] at k7
          have k6 := kh 1 (by decide)
          have F9 := And.intro F2 (And.intro @z1 (And.intro @z2 (And.intro @z3 (And.intro @z4 @z5))))
          refine eS fun K119 hn119 hr119 he119 => ?_;refine eS fun K120 hn120 hr120 he120 => ?_;refine eO fun K121 hk121 => ?_;refine tZ F9 ?_;refine hk121 _ ?_;refine hn120 (some ([1, 3, 7, 44], none)) _ ?_;refine eCt ?_;refine hn119 (some ([1, 3, 7], none)) _ ?_;refine eS fun K122 hn122 hr122 he122 => ?_;refine eB fun K123 hn123 hx123 hr123 he123 => ?_;refine eS fun K124 hn124 hr124 he124 => ?_;refine eO fun K125 hk125 => ?_;refine tC 1 F9 ?_;refine tC 2 F9 ?_;refine tC 2 F9 ?_;refine tC 2 F9 ?_;refine tC 1 F9 ?_;refine tC 1 F9 ?_;refine tC 1 F9 ?_;refine tL F9 ?_;refine hk125 _ ?_;refine hn124 (some ([1, 3, 7, 8], none)) _ ?_
          refine eS fun K126 hn126 hr126 he126 => ?_;refine eO fun K127 hk127 => ?_;refine tC 1 F9 ?_;refine tS 2 F9 ?_;refine tS 1 F9 ?_;refine Or.inl (Or.inl ⟨_, k4, ?_⟩);refine tC 5 F9 ?_;refine tL F9 ?_;refine hk127 _ ?_;refine hn126 (some ([1, 3, 7, 9, 10], none)) _ ?_;refine eS fun K128 hn128 hr128 he128 => ?_;refine eS fun K129 hn129 hr129 he129 => ?_;refine eO fun K130 hk130 => ?_;refine tC 5 F9 ?_;refine tC 2 F9 ?_;refine tL F9 ?_;refine hk130 _ ?_;refine hn129 (some ([1, 3, 7, 9, 71], none)) _ ?_;refine eCf ?_;refine hn128 (some ([1, 3, 7, 9], none)) _ ?_;refine eS fun K131 hn131 hr131 he131 => ?_
          refine eO fun K132 hk132 => ?_;refine tC 1 F9 ?_;refine tZ F9 ?_;refine hk132 _ ?_;refine hn131 (some ([1, 3, 7], none)) _ ?_;refine eS fun K133 hn133 hr133 he133 => ?_;refine eD [] (n := 13) fun K134 hk134 => ?_;refine sq0 ?_;refine fC 2 F9 ?_;refine fC 2 F9 ?_;refine fC 2 F9 ?_;refine fC 1 F9 ?_;refine fC 1 F9 ?_;refine fC 2 F9 ?_;refine fS 1 F9 ?_;refine ⟨_, kp, ?_⟩;refine fS 1 F9 ?_;refine fL F9 ?_;refine ⟨_, k6, ?_⟩;refine hk134 _ ?_;refine sr0 ?_;refine tS 1 F9 ?_;refine Or.inl (Or.inl ⟨_, k7, ?_⟩);refine tC 1 F9 ?_;refine tL F9 ?_;refine hn133 (some ([1, 3, 7, 88], none)) _ ?_
          refine eCf ?_;refine hn123 _ ?_;refine hn122 (some ([1, 3, 7], none)) _ ?_;refine eO fun K136 hk136 => ?_;refine tC 2 F9 ?_;refine tL F9 ?_;refine hk136 _ ?_;refine hn23 (3 - (1 + 1)) (some ([1, 3, 7], some ([0, 1], 2))) _ ?_ ?_
          all_goals try refine lp0 ?_
          · omega
          · exact ⟨1 + 1, w3, s3, by omega, hZ3, worldOk_up hW3 (by show 122 + 6 * 1 + 4 ≤ 122 + 6 * (1 + 1); omega), hst3, fun u hu => (by
              by_cases e9 : u = 1
              · rw [e9]; exact hf3
              · rw [ho3 u e9]; exact hfin2 u (by omega)), by omega, by rfl⟩
        · skip
          have z1 : ((1 + 1 : Nat) : Int) ≤ 3 := by decide
          have z2 : IntKind.i64.wrap (((1 + 1 : Nat) : Int) - 1) = ((1 : Nat) : Int) := by decide
          have z3 : IntKind.i64.wrap (((1 + 1 : Nat) : Int) + 1) = ((1 + 1 + 1 : Nat) : Int) := by decide
          have z4 : d1.kind.tmod 4 = 2 := by rw [r1, hq]
          have k4 := ok_kAlone w2 ((1 + 1 : Nat) : Int) 6 hW2 (by omega)
          have hW3 := alone_ok hW2 ((1 + 1 : Nat) : Int) 6
          obtain ⟨s3, hZ3, hst3, ho3, hd3, hf3⟩ := hz_alone1 hZ2 (m := 1) (by decide) hst2 (k := 6) (by decide)
          change HzW d (aloneM w2 ((1 + 1 : Nat) : Int) 6).1 s3 at hZ3
          change (aloneM w2 ((1 + 1 : Nat) : Int) 6).1.stopped = _ at hst3
          change (aloneM w2 ((1 + 1 : Nat) : Int) 6).2 = true at hd3
          rw [hd3] at k4
          generalize (aloneM w2 ((1 + 1 : Nat) : Int) 6).1 = w3 at k4 hZ3 hst3 hW3
          have z5 : (w3.tasks.length : Int) = 3 := by have := hZ3.len; omega
          have F10 := And.intro F2 (And.intro @z1 (And.intro @z2 (And.intro @z3 (And.intro @z4 @z5))))
          refine eS fun K137 hn137 hr137 he137 => ?_;refine eS fun K138 hn138 hr138 he138 => ?_;refine eO fun K139 hk139 => ?_;refine tZ F10 ?_;refine hk139 _ ?_;refine hn138 (some ([1, 3, 7, 44], none)) _ ?_;refine eCt ?_;refine hn137 (some ([1, 3, 7], none)) _ ?_;refine eS fun K140 hn140 hr140 he140 => ?_;refine eB fun K141 hn141 hx141 hr141 he141 => ?_;refine eS fun K142 hn142 hr142 he142 => ?_;refine eO fun K143 hk143 => ?_;refine tC 1 F10 ?_;refine tC 2 F10 ?_;refine tC 2 F10 ?_;refine tC 2 F10 ?_;refine tC 1 F10 ?_;refine tC 1 F10 ?_;refine tC 1 F10 ?_;refine tL F10 ?_;refine hk143 _ ?_;refine hn142 (some ([1, 3, 7, 8], none)) _ ?_
          refine eS fun K144 hn144 hr144 he144 => ?_;refine eO fun K145 hk145 => ?_;refine tC 1 F10 ?_;refine tS 2 F10 ?_;refine tS 1 F10 ?_;refine Or.inl (Or.inl ⟨_, k4, ?_⟩);refine tC 5 F10 ?_;refine tL F10 ?_;refine hk145 _ ?_;refine hn144 (some ([1, 3, 7, 9, 10], none)) _ ?_;refine eS fun K146 hn146 hr146 he146 => ?_;refine eS fun K147 hn147 hr147 he147 => ?_;refine eO fun K148 hk148 => ?_;refine tC 5 F10 ?_;refine tC 2 F10 ?_;refine tL F10 ?_;refine hk148 _ ?_;refine hn147 (some ([1, 3, 7, 9, 71], none)) _ ?_;refine eCf ?_;refine hn146 (some ([1, 3, 7, 9], none)) _ ?_;refine eS fun K149 hn149 hr149 he149 => ?_
          refine eO fun K150 hk150 => ?_;refine tC 1 F10 ?_;refine tZ F10 ?_;refine hk150 _ ?_;refine hn149 (some ([1, 3, 7], none)) _ ?_;refine eS fun K151 hn151 hr151 he151 => ?_;refine eD [] (n := 13) fun K152 hk152 => ?_;refine sq0 ?_;refine fC 2 F10 ?_;refine fC 2 F10 ?_;refine fC 2 F10 ?_;refine fC 1 F10 ?_;refine fC 1 F10 ?_;refine fC 2 F10 ?_;refine fS 1 F10 ?_
          skip
          refine fS 1 F10 ?_;refine fL F10 ?_
          skip
          refine hk152 _ ?_;refine sr0 ?_;refine tS 1 F10 ?_
          skip
          refine tC 1 F10 ?_;refine tL F10 ?_;refine hn151 (some ([1, 3, 7, 88], none)) _ ?_;refine eCf ?_;refine hn141 _ ?_;refine hn140 (some ([1, 3, 7], none)) _ ?_;refine eO fun K154 hk154 => ?_;refine tC 2 F10 ?_;refine tL F10 ?_;refine hk154 _ ?_;refine hn23 (3 - (1 + 1)) (some ([1, 3, 7], some ([0, 1], 2))) _ ?_ ?_
          all_goals try refine lp0 ?_
          · omega
          · exact ⟨1 + 1, w3, s3, by omega, hZ3, worldOk_up hW3 (by show 122 + 6 * 1 + 6 ≤ 122 + 6 * (1 + 1); omega), hst3, fun u hu => (by
              by_cases e9 : u = 1
              · rw [e9]; exact hf3
              · rw [ho3 u e9]; exact hfin2 u (by omega)), by omega, by rfl⟩
        · skip
          have z1 : ((1 + 1 : Nat) : Int) ≤ 3 := by decide
          have z2 : IntKind.i64.wrap (((1 + 1 : Nat) : Int) - 1) = ((1 : Nat) : Int) := by decide
          have z3 : IntKind.i64.wrap (((1 + 1 : Nat) : Int) + 1) = ((1 + 1 + 1 : Nat) : Int) := by decide
          have z4 : d1.kind.tmod 4 = 3 := by rw [r1, hq]
          have k4 := ok_kAlone w2 ((1 + 1 : Nat) : Int) 4 hW2 (by omega)
          have hW3 := alone_ok hW2 ((1 + 1 : Nat) : Int) 4
          obtain ⟨s3, hZ3, hst3, ho3, hd3, hf3⟩ := hz_alone1 hZ2 (m := 1) (by decide) hst2 (k := 4) (by decide)
          change HzW d (aloneM w2 ((1 + 1 : Nat) : Int) 4).1 s3 at hZ3
          change (aloneM w2 ((1 + 1 : Nat) : Int) 4).1.stopped = _ at hst3
          change (aloneM w2 ((1 + 1 : Nat) : Int) 4).2 = true at hd3
          rw [hd3] at k4
          generalize (aloneM w2 ((1 + 1 : Nat) : Int) 4).1 = w3 at k4 hZ3 hst3 hW3
          have z5 : (w3.tasks.length : Int) = 3 := by have := hZ3.len; omega
          have F11 := And.intro F2 (And.intro @z1 (And.intro @z2 (And.intro @z3 (And.intro @z4 @z5))))
          refine eS fun K155 hn155 hr155 he155 => ?_;refine eS fun K156 hn156 hr156 he156 => ?_;refine eO fun K157 hk157 => ?_;refine tZ F11 ?_;refine hk157 _ ?_;refine hn156 (some ([1, 3, 7, 44], none)) _ ?_;refine eCt ?_;refine hn155 (some ([1, 3, 7], none)) _ ?_;refine eS fun K158 hn158 hr158 he158 => ?_;refine eB fun K159 hn159 hx159 hr159 he159 => ?_;refine eS fun K160 hn160 hr160 he160 => ?_;refine eO fun K161 hk161 => ?_;refine tC 1 F11 ?_;refine tC 2 F11 ?_;refine tC 2 F11 ?_;refine tC 2 F11 ?_;refine tC 1 F11 ?_;refine tC 1 F11 ?_;refine tC 1 F11 ?_;refine tL F11 ?_;refine hk161 _ ?_;refine hn160 (some ([1, 3, 7, 8], none)) _ ?_
          refine eS fun K162 hn162 hr162 he162 => ?_;refine eO fun K163 hk163 => ?_;refine tC 1 F11 ?_;refine tS 2 F11 ?_;refine tS 1 F11 ?_;refine Or.inl (Or.inl ⟨_, k4, ?_⟩);refine tC 5 F11 ?_;refine tL F11 ?_;refine hk163 _ ?_;refine hn162 (some ([1, 3, 7, 9, 10], none)) _ ?_;refine eS fun K164 hn164 hr164 he164 => ?_;refine eS fun K165 hn165 hr165 he165 => ?_;refine eO fun K166 hk166 => ?_;refine tC 5 F11 ?_;refine tC 2 F11 ?_;refine tL F11 ?_;refine hk166 _ ?_;refine hn165 (some ([1, 3, 7, 9, 71], none)) _ ?_;refine eCf ?_;refine hn164 (some ([1, 3, 7, 9], none)) _ ?_;refine eS fun K167 hn167 hr167 he167 => ?_
          refine eO fun K168 hk168 => ?_;refine tC 1 F11 ?_;refine tZ F11 ?_;refine hk168 _ ?_;refine hn167 (some ([1, 3, 7], none)) _ ?_;refine eS fun K169 hn169 hr169 he169 => ?_;refine eD [] (n := 13) fun K170 hk170 => ?_;refine sq0 ?_;refine fC 2 F11 ?_;refine fC 2 F11 ?_;refine fC 2 F11 ?_;refine fC 1 F11 ?_;refine fC 1 F11 ?_;refine fC 2 F11 ?_;refine fS 1 F11 ?_
          skip
          refine fS 1 F11 ?_;refine fL F11 ?_
          skip
          refine hk170 _ ?_;refine sr0 ?_;refine tS 1 F11 ?_
          skip
          refine tC 1 F11 ?_;refine tL F11 ?_;refine hn169 (some ([1, 3, 7, 88], none)) _ ?_;refine eCf ?_;refine hn159 _ ?_;refine hn158 (some ([1, 3, 7], none)) _ ?_;refine eO fun K172 hk172 => ?_;refine tC 2 F11 ?_;refine tL F11 ?_;refine hk172 _ ?_;refine hn23 (3 - (1 + 1)) (some ([1, 3, 7], some ([0, 1], 2))) _ ?_ ?_
          all_goals try refine lp0 ?_
          · omega
          · exact ⟨1 + 1, w3, s3, by omega, hZ3, worldOk_up hW3 (by show 122 + 6 * 1 + 4 ≤ 122 + 6 * (1 + 1); omega), hst3, fun u hu => (by
              by_cases e9 : u = 1
              · rw [e9]; exact hf3
              · rw [ho3 u e9]; exact hfin2 u (by omega)), by omega, by rfl⟩
        · skip
          have z1 : ((2 + 1 : Nat) : Int) ≤ 3 := by decide
          have z2 : IntKind.i64.wrap (((2 + 1 : Nat) : Int) - 1) = ((2 : Nat) : Int) := by decide
          have z3 : IntKind.i64.wrap (((2 + 1 : Nat) : Int) + 1) = ((2 + 1 + 1 : Nat) : Int) := by decide
          have z4 : d2.kind.tmod 4 = 0 := by rw [r2, hq]
          have k4 := ok_kAlone w2 ((2 + 1 : Nat) : Int) 6 hW2 (by omega)
          have hW3 := alone_ok hW2 ((2 + 1 : Nat) : Int) 6
          obtain ⟨s3, hZ3, hst3, ho3, hd3, hf3⟩ := hz_alone1 hZ2 (m := 2) (by decide) hst2 (k := 6) (by decide)
          change HzW d (aloneM w2 ((2 + 1 : Nat) : Int) 6).1 s3 at hZ3
          change (aloneM w2 ((2 + 1 : Nat) : Int) 6).1.stopped = _ at hst3
          change (aloneM w2 ((2 + 1 : Nat) : Int) 6).2 = true at hd3
          rw [hd3] at k4
          generalize (aloneM w2 ((2 + 1 : Nat) : Int) 6).1 = w3 at k4 hZ3 hst3 hW3
          have z5 : (w3.tasks.length : Int) = 3 := by have := hZ3.len; omega
          have F12 := And.intro F2 (And.intro @z1 (And.intro @z2 (And.intro @z3 (And.intro @z4 @z5))))
          refine eS fun K173 hn173 hr173 he173 => ?_;refine eS fun K174 hn174 hr174 he174 => ?_;refine eO fun K175 hk175 => ?_;refine tZ F12 ?_;refine hk175 _ ?_;refine hn174 (some ([1, 3, 7, 44], none)) _ ?_;refine eCt ?_;refine hn173 (some ([1, 3, 7], none)) _ ?_;refine eS fun K176 hn176 hr176 he176 => ?_;refine eB fun K177 hn177 hx177 hr177 he177 => ?_;refine eS fun K178 hn178 hr178 he178 => ?_;refine eO fun K179 hk179 => ?_;refine tC 1 F12 ?_;refine tC 2 F12 ?_;refine tC 2 F12 ?_;refine tC 2 F12 ?_;refine tC 1 F12 ?_;refine tC 1 F12 ?_;refine tC 1 F12 ?_;refine tL F12 ?_;refine hk179 _ ?_;refine hn178 (some ([1, 3, 7, 8], none)) _ ?_
          refine eS fun K180 hn180 hr180 he180 => ?_;refine eO fun K181 hk181 => ?_;refine tC 1 F12 ?_;refine tS 2 F12 ?_;refine tS 1 F12 ?_;refine Or.inl (Or.inl ⟨_, k4, ?_⟩);refine tC 5 F12 ?_;refine tL F12 ?_;refine hk181 _ ?_;refine hn180 (some ([1, 3, 7, 9, 10], none)) _ ?_;refine eS fun K182 hn182 hr182 he182 => ?_;refine eS fun K183 hn183 hr183 he183 => ?_;refine eO fun K184 hk184 => ?_;refine tC 5 F12 ?_;refine tC 2 F12 ?_;refine tL F12 ?_;refine hk184 _ ?_;refine hn183 (some ([1, 3, 7, 9, 71], none)) _ ?_;refine eCf ?_;refine hn182 (some ([1, 3, 7, 9], none)) _ ?_;refine eS fun K185 hn185 hr185 he185 => ?_
          refine eO fun K186 hk186 => ?_;refine tC 1 F12 ?_;refine tZ F12 ?_;refine hk186 _ ?_;refine hn185 (some ([1, 3, 7], none)) _ ?_;refine eS fun K187 hn187 hr187 he187 => ?_;refine eD [] (n := 13) fun K188 hk188 => ?_;refine sq0 ?_;refine fC 2 F12 ?_;refine fC 2 F12 ?_;refine fC 2 F12 ?_;refine fC 1 F12 ?_;refine fC 1 F12 ?_;refine fC 2 F12 ?_;refine fS 1 F12 ?_
          skip
          refine fS 1 F12 ?_;refine fL F12 ?_
          skip
          refine hk188 _ ?_;refine sr0 ?_;refine tS 1 F12 ?_
          skip
          refine tC 1 F12 ?_;refine tL F12 ?_;refine hn187 (some ([1, 3, 7, 88], none)) _ ?_;refine eCf ?_;refine hn177 _ ?_;refine hn176 (some ([1, 3, 7], none)) _ ?_;refine eO fun K190 hk190 => ?_;refine tC 2 F12 ?_;refine tL F12 ?_;refine hk190 _ ?_;refine hn23 (3 - (2 + 1)) (some ([1, 3, 7], some ([0, 1], 2))) _ ?_ ?_
          all_goals try refine lp0 ?_
          · omega
          · exact ⟨2 + 1, w3, s3, by omega, hZ3, worldOk_up hW3 (by show 122 + 6 * 2 + 6 ≤ 122 + 6 * (2 + 1); omega), hst3, fun u hu => (by
              by_cases e9 : u = 2
              · rw [e9]; exact hf3
              · rw [ho3 u e9]; exact hfin2 u (by omega)), by omega, by rfl⟩
        · skip
          have z1 : ((2 + 1 : Nat) : Int) ≤ 3 := by decide
          have z2 : IntKind.i64.wrap (((2 + 1 : Nat) : Int) - 1) = ((2 : Nat) : Int) := by decide
          have z3 : IntKind.i64.wrap (((2 + 1 : Nat) : Int) + 1) = ((2 + 1 + 1 : Nat) : Int) := by decide
          have z4 : d2.kind.tmod 4 = 1 := by rw [r2, hq]
          have k4 := ok_kAlone w2 ((2 + 1 : Nat) : Int) 4 hW2 (by omega)
          have hW3 := alone_ok hW2 ((2 + 1 : Nat) : Int) 4
          obtain ⟨s3, hZ3, hst3, ho3, hd3, hf3⟩ := hz_alone1 hZ2 (m := 2) (by decide) hst2 (k := 4) (by decide)
          change HzW d (aloneM w2 ((2 + 1 : Nat) : Int) 4).1 s3 at hZ3
          change (aloneM w2 ((2 + 1 : Nat) : Int) 4).1.stopped = _ at hst3
          change (aloneM w2 ((2 + 1 : Nat) : Int) 4).2 = true at hd3
          rw [hd3] at k4
          generalize (aloneM w2 ((2 + 1 : Nat) : Int) 4).1 = w3 at k4 hZ3 hst3 hW3
          have z5 : (w3.tasks.length : Int) = 3 := by have := hZ3.len; omega
          have k7 := ok_l14val w3 (hazP 2) hW3 (by omega)
          rw [hz_zero hZ3 (i := 2) (by decide) hf3 (by rw [gk2]; exact hq)] at k7
          have k6 := kh 2 (by decide)
          have F13 := And.intro F2 (And.intro @z1 (And.intro @z2 (And.intro @z3 (And.intro @z4 @z5))))
          refine eS fun K191 hn191 hr191 he191 => ?_;refine eS fun K192 hn192 hr192 he192 => ?_;refine eO fun K193 hk193 => ?_;refine tZ F13 ?_;refine hk193 _ ?_;refine hn192 (some ([1, 3, 7, 44], none)) _ ?_;refine eCt ?_;refine hn191 (some ([1, 3, 7], none)) _ ?_;refine eS fun K194 hn194 hr194 he194 => ?_;refine eB fun K195 hn195 hx195 hr195 he195 => ?_;refine eS fun K196 hn196 hr196 he196 => ?_;refine eO fun K197 hk197 => ?_;refine tC 1 F13 ?_;refine tC 2 F13 ?_;refine tC 2 F13 ?_;refine tC 2 F13 ?_;refine tC 1 F13 ?_;refine tC 1 F13 ?_;refine tC 1 F13 ?_;refine tL F13 ?_;refine hk197 _ ?_;refine hn196 (some ([1, 3, 7, 8], none)) _ ?_
          refine eS fun K198 hn198 hr198 he198 => ?_;refine eO fun K199 hk199 => ?_;refine tC 1 F13 ?_;refine tS 2 F13 ?_;refine tS 1 F13 ?_;refine Or.inl (Or.inl ⟨_, k4, ?_⟩);refine tC 5 F13 ?_;refine tL F13 ?_;refine hk199 _ ?_;refine hn198 (some ([1, 3, 7, 9, 10], none)) _ ?_;refine eS fun K200 hn200 hr200 he200 => ?_;refine eS fun K201 hn201 hr201 he201 => ?_;refine eO fun K202 hk202 => ?_;refine tC 5 F13 ?_;refine tC 2 F13 ?_;refine tL F13 ?_;refine hk202 _ ?_;refine hn201 (some ([1, 3, 7, 9, 71], none)) _ ?_;refine eCf ?_;refine hn200 (some ([1, 3, 7, 9], none)) _ ?_;refine eS fun K203 hn203 hr203 he203 => ?_
          refine eO fun K204 hk204 => ?_;refine tC 1 F13 ?_;refine tZ F13 ?_;refine hk204 _ ?_;refine hn203 (some ([1, 3, 7], none)) _ ?_;refine eS fun K205 hn205 hr205 he205 => ?_;refine eD [] (n := 13) fun K206 hk206 => ?_;refine sq0 ?_;refine fC 2 F13 ?_;refine fC 2 F13 ?_;refine fC 2 F13 ?_;refine fC 1 F13 ?_;refine fC 1 F13 ?_;refine fC 2 F13 ?_;refine fS 1 F13 ?_;refine ⟨_, kp, ?_⟩;refine fS 1 F13 ?_;refine fL F13 ?_;refine ⟨_, k6, ?_⟩;refine hk206 _ ?_;refine sr0 ?_;refine tS 1 F13 ?_;refine Or.inl (Or.inl ⟨_, k7, ?_⟩);refine tC 1 F13 ?_;refine tL F13 ?_;refine hn205 (some ([1, 3, 7, 88], none)) _ ?_
          refine eCf ?_;refine hn195 _ ?_;refine hn194 (some ([1, 3, 7], none)) _ ?_;refine eO fun K208 hk208 => ?_;refine tC 2 F13 ?_;refine tL F13 ?_;refine hk208 _ ?_;refine hn23 (3 - (2 + 1)) (some ([1, 3, 7], some ([0, 1], 2))) _ ?_ ?_
          all_goals try refine lp0 ?_
          · omega
          · exact ⟨2 + 1, w3, s3, by omega, hZ3, worldOk_up hW3 (by show 122 + 6 * 2 + 4 ≤ 122 + 6 * (2 + 1); omega), hst3, fun u hu => (by
              by_cases e9 : u = 2
              · rw [e9]; exact hf3
              · rw [ho3 u e9]; exact hfin2 u (by omega)), by omega, by rfl⟩
        · skip
          have z1 : ((2 + 1 : Nat) : Int) ≤ 3 := by decide
          have z2 : IntKind.i64.wrap (((2 + 1 : Nat) : Int) - 1) = ((2 : Nat) : Int) := by decide
          have z3 : IntKind.i64.wrap (((2 + 1 : Nat) : Int) + 1) = ((2 + 1 + 1 : Nat) : Int) := by decide
          have z4 : d2.kind.tmod 4 = 2 := by rw [r2, hq]
          have k4 := ok_kAlone w2 ((2 + 1 : Nat) : Int) 6 hW2 (by omega)
          have hW3 := alone_ok hW2 ((2 + 1 : Nat) : Int) 6
          obtain ⟨s3, hZ3, hst3, ho3, hd3, hf3⟩ := hz_alone1 hZ2 (m := 2) (by decide) hst2 (k := 6) (by decide)
          change HzW d (aloneM w2 ((2 + 1 : Nat) : Int) 6).1 s3 at hZ3
          change (aloneM w2 ((2 + 1 : Nat) : Int) 6).1.stopped = _ at hst3
          change (aloneM w2 ((2 + 1 : Nat) : Int) 6).2 = true at hd3
          rw [hd3] at k4
          generalize (aloneM w2 ((2 + 1 : Nat) : Int) 6).1 = w3 at k4 hZ3 hst3 hW3
          have z5 : (w3.tasks.length : Int) = 3 := by have := hZ3.len; omega
          have F14 := And.intro F2 (And.intro @z1 (And.intro @z2 (And.intro @z3 (And.intro @z4 @z5))))
          refine eS fun K209 hn209 hr209 he209 => ?_;refine eS fun K210 hn210 hr210 he210 => ?_;refine eO fun K211 hk211 => ?_;refine tZ F14 ?_;refine hk211 _ ?_;refine hn210 (some ([1, 3, 7, 44], none)) _ ?_;refine eCt ?_;refine hn209 (some ([1, 3, 7], none)) _ ?_;refine eS fun K212 hn212 hr212 he212 => ?_;refine eB fun K213 hn213 hx213 hr213 he213 => ?_;refine eS fun K214 hn214 hr214 he214 => ?_;refine eO fun K215 hk215 => ?_;refine tC 1 F14 ?_;refine tC 2 F14 ?_;refine tC 2 F14 ?_;refine tC 2 F14 ?_;refine tC 1 F14 ?_;refine tC 1 F14 ?_;refine tC 1 F14 ?_;refine tL F14 ?_;refine hk215 _ ?_;refine hn214 (some ([1, 3, 7, 8], none)) _ ?_
          refine eS fun K216 hn216 hr216 he216 => ?_;refine eO fun K217 hk217 => ?_;refine tC 1 F14 ?_;refine tS 2 F14 ?_;refine tS 1 F14 ?_;refine Or.inl (Or.inl ⟨_, k4, ?_⟩);refine tC 5 F14 ?_;refine tL F14 ?_;refine hk217 _ ?_;refine hn216 (some ([1, 3, 7, 9, 10], none)) _ ?_;refine eS fun K218 hn218 hr218 he218 => ?_;refine eS fun K219 hn219 hr219 he219 => ?_;refine eO fun K220 hk220 => ?_;refine tC 5 F14 ?_;refine tC 2 F14 ?_;refine tL F14 ?_;refine hk220 _ ?_;refine hn219 (some ([1, 3, 7, 9, 71], none)) _ ?_;refine eCf ?_;refine hn218 (some ([1, 3, 7, 9], none)) _ ?_;refine eS fun K221 hn221 hr221 he221 => ?_
          refine eO fun K222 hk222 => ?_;refine tC 1 F14 ?_;refine tZ F14 ?_;refine hk222 _ ?_;refine hn221 (some ([1, 3, 7], none)) _ ?_;refine eS fun K223 hn223 hr223 he223 => ?_;refine eD [] (n := 13) fun K224 hk224 => ?_;refine sq0 ?_;refine fC 2 F14 ?_;refine fC 2 F14 ?_;refine fC 2 F14 ?_;refine fC 1 F14 ?_;refine fC 1 F14 ?_;refine fC 2 F14 ?_;refine fS 1 F14 ?_
          skip
          refine fS 1 F14 ?_;refine fL F14 ?_
          skip
          refine hk224 _ ?_;refine sr0 ?_;refine tS 1 F14 ?_
          skip
          refine tC 1 F14 ?_;refine tL F14 ?_;refine hn223 (some ([1, 3, 7, 88], none)) _ ?_;refine eCf ?_;refine hn213 _ ?_;refine hn212 (some ([1, 3, 7], none)) _ ?_;refine eO fun K226 hk226 => ?_;refine tC 2 F14 ?_;refine tL F14 ?_;refine hk226 _ ?_;refine hn23 (3 - (2 + 1)) (some ([1, 3, 7], some ([0, 1], 2))) _ ?_ ?_
          all_goals try refine lp0 ?_
          · omega
          · exact ⟨2 + 1, w3, s3, by omega, hZ3, worldOk_up hW3 (by show 122 + 6 * 2 + 6 ≤ 122 + 6 * (2 + 1); omega), hst3, fun u hu => (by
              by_cases e9 : u = 2
              · rw [e9]; exact hf3
              · rw [ho3 u e9]; exact hfin2 u (by omega)), by omega, by rfl⟩
        · skip
          have z1 : ((2 + 1 : Nat) : Int) ≤ 3 := by decide
          have z2 : IntKind.i64.wrap (((2 + 1 : Nat) : Int) - 1) = ((2 : Nat) : Int) := by decide
          have z3 : IntKind.i64.wrap (((2 + 1 : Nat) : Int) + 1) = ((2 + 1 + 1 : Nat) : Int) := by decide
          have z4 : d2.kind.tmod 4 = 3 := by rw [r2, hq]
          have k4 := ok_kAlone w2 ((2 + 1 : Nat) : Int) 4 hW2 (by omega)
          have hW3 := alone_ok hW2 ((2 + 1 : Nat) : Int) 4
          obtain ⟨s3, hZ3, hst3, ho3, hd3, hf3⟩ := hz_alone1 hZ2 (m := 2) (by decide) hst2 (k := 4) (by decide)
          change HzW d (aloneM w2 ((2 + 1 : Nat) : Int) 4).1 s3 at hZ3
          change (aloneM w2 ((2 + 1 : Nat) : Int) 4).1.stopped = _ at hst3
          change (aloneM w2 ((2 + 1 : Nat) : Int) 4).2 = true at hd3
          rw [hd3] at k4
          generalize (aloneM w2 ((2 + 1 : Nat) : Int) 4).1 = w3 at k4 hZ3 hst3 hW3
          have z5 : (w3.tasks.length : Int) = 3 := by have := hZ3.len; omega
          have F15 := And.intro F2 (And.intro @z1 (And.intro @z2 (And.intro @z3 (And.intro @z4 @z5))))
          refine eS fun K227 hn227 hr227 he227 => ?_;refine eS fun K228 hn228 hr228 he228 => ?_;refine eO fun K229 hk229 => ?_;refine tZ F15 ?_;refine hk229 _ ?_;refine hn228 (some ([1, 3, 7, 44], none)) _ ?_;refine eCt ?_;refine hn227 (some ([1, 3, 7], none)) _ ?_;refine eS fun K230 hn230 hr230 he230 => ?_;refine eB fun K231 hn231 hx231 hr231 he231 => ?_;refine eS fun K232 hn232 hr232 he232 => ?_;refine eO fun K233 hk233 => ?_;refine tC 1 F15 ?_;refine tC 2 F15 ?_;refine tC 2 F15 ?_;refine tC 2 F15 ?_;refine tC 1 F15 ?_;refine tC 1 F15 ?_;refine tC 1 F15 ?_;refine tL F15 ?_;refine hk233 _ ?_;refine hn232 (some ([1, 3, 7, 8], none)) _ ?_
          refine eS fun K234 hn234 hr234 he234 => ?_;refine eO fun K235 hk235 => ?_;refine tC 1 F15 ?_;refine tS 2 F15 ?_;refine tS 1 F15 ?_;refine Or.inl (Or.inl ⟨_, k4, ?_⟩);refine tC 5 F15 ?_;refine tL F15 ?_;refine hk235 _ ?_;refine hn234 (some ([1, 3, 7, 9, 10], none)) _ ?_;refine eS fun K236 hn236 hr236 he236 => ?_;refine eS fun K237 hn237 hr237 he237 => ?_;refine eO fun K238 hk238 => ?_;refine tC 5 F15 ?_;refine tC 2 F15 ?_;refine tL F15 ?_;refine hk238 _ ?_;refine hn237 (some ([1, 3, 7, 9, 71], none)) _ ?_;refine eCf ?_;refine hn236 (some ([1, 3, 7, 9], none)) _ ?_;refine eS fun K239 hn239 hr239 he239 => ?_
          refine eO fun K240 hk240 => ?_;refine tC 1 F15 ?_;refine tZ F15 ?_;refine hk240 _ ?_;refine hn239 (some ([1, 3, 7], none)) _ ?_;refine eS fun K241 hn241 hr241 he241 => ?_;refine eD [] (n := 13) fun K242 hk242 => ?_;refine sq0 ?_;refine fC 2 F15 ?_;refine fC 2 F15 ?_;refine fC 2 F15 ?_;refine fC 1 F15 ?_;refine fC 1 F15 ?_;refine fC 2 F15 ?_;refine fS 1 F15 ?_
          skip
          refine fS 1 F15 ?_;refine fL F15 ?_
          skip
          refine hk242 _ ?_;refine sr0 ?_;refine tS 1 F15 ?_
          skip
          refine tC 1 F15 ?_;refine tL F15 ?_;refine hn241 (some ([1, 3, 7, 88], none)) _ ?_;refine eCf ?_;refine hn231 _ ?_;refine hn230 (some ([1, 3, 7], none)) _ ?_;refine eO fun K244 hk244 => ?_;refine tC 2 F15 ?_;refine tL F15 ?_;refine hk244 _ ?_;refine hn23 (3 - (2 + 1)) (some ([1, 3, 7], some ([0, 1], 2))) _ ?_ ?_
          all_goals try refine lp0 ?_
          · omega
          · exact ⟨2 + 1, w3, s3, by omega, hZ3, worldOk_up hW3 (by show 122 + 6 * 2 + 4 ≤ 122 + 6 * (2 + 1); omega), hst3, fun u hu => (by
              by_cases e9 : u = 2
              · rw [e9]; exact hf3
              · rw [ho3 u e9]; exact hfin2 u (by omega)), by omega, by rfl⟩
    · skip
      have hcc := (List.getElem?_eq_some_iff.1 hp1).1
      have x2 : (i : Int) < (l.length : Int) := by omega
      have x3 : IntKind.i64.wrap ((i : Int) + 1) = ((i + 1 : Nat) : Int) := by rw [IntKind.wrap_i64]; omega
      have k3 := ok_kStep w p hW (by omega)
      have hW' := stepOk hW p
      obtain ⟨s', hZ', hS'⟩ := hzW_step hZ p (by omega)
      have hst' := step_stopped (d := d) hp2 hS' hst
      generalize (stepM w p).2 = bb at k3
      generalize (stepM w p).1 = w' at k3 hZ' hW' hst'
      have x11 : (p.kind == 0) = true := by simpa using hp2
      have F16 := And.intro F1 (And.intro @x2 (And.intro @x3 (And.intro @hp1 @x11)))
      refine eS fun K245 hn245 hr245 he245 => ?_;refine eO fun K246 hk246 => ?_;refine tZ F16 ?_;refine hk246 _ ?_;refine hn245 (some ([1, 3, 27, 28, 29, 30], none)) _ ?_;refine eS fun K247 hn247 hr247 he247 => ?_;refine eCt ?_;refine hn247 (some ([1, 3, 27, 28, 29], none)) _ ?_;refine eS fun K248 hn248 hr248 he248 => ?_;refine eB fun K249 hn249 hx249 hr249 he249 => ?_;refine eS fun K250 hn250 hr250 he250 => ?_;refine eO fun K251 hk251 => ?_;refine tC 1 F16 ?_;refine tC 1 F16 ?_;refine tZ F16 ?_;refine hk251 _ ?_;refine hn250 (some ([1, 3, 6, 27, 28, 29], none)) _ ?_;refine eS fun K252 hn252 hr252 he252 => ?_
      refine eO fun K253 hk253 => ?_;refine tC 2 F16 ?_;refine tZ F16 ?_;refine hk253 _ ?_;refine hn252 (some ([1, 3, 6, 27, 28, 29, 35], none)) _ ?_;refine eCt ?_;refine eO fun K254 hk254 => ?_;refine tC 1 F16 ?_;refine tC 1 F16 ?_;refine tS 1 F16 ?_;refine Or.inl (Or.inl ⟨_, k3, ?_⟩);refine tZ F16 ?_;refine hk254 _ ?_;refine hn249 _ ?_;refine hn248 (some ([1, 3, 27, 28, 29], none)) _ ?_;refine eO fun K255 hk255 => ?_;refine tC 1 F16 ?_;refine tL F16 ?_;refine hk255 _ ?_;refine hn15 (l.length - (i + 1)) (some ([1, 3, 27, 28, 29], some ([0, 1], 2))) _ ?_ ?_
      all_goals try refine lp0 ?_
      · show l.length - (i + 1) < l.length - i; omega
      · exact ⟨i + 1, w', s', by show i + 1 ≤ l.length; omega, hZ', by have e9 : 2 + (i + 1) = 2 + i + 1 := rfl; rw [e9]; exact hW', hst', rfl, by rfl⟩
    · skip
      have hcc := (List.getElem?_eq_some_iff.1 hp1).1
      have x2 : (i : Int) < (l.length : Int) := by omega
      have x3 : IntKind.i64.wrap ((i : Int) + 1) = ((i + 1 : Nat) : Int) := by rw [IntKind.wrap_i64]; omega
      have x4 : (p.kind == 0) = false := by simpa using hp2
      have F17 := And.intro F1 (And.intro @x2 (And.intro @x3 (And.intro @hp1 @x4)))
      refine eS fun K256 hn256 hr256 he256 => ?_;refine eO fun K257 hk257 => ?_;refine tZ F17 ?_;refine hk257 _ ?_;refine hn256 (some ([1, 3, 27, 28, 29, 30], none)) _ ?_;refine eS fun K258 hn258 hr258 he258 => ?_;refine eCt ?_;refine hn258 (some ([1, 3, 27, 28, 29], none)) _ ?_;refine eS fun K259 hn259 hr259 he259 => ?_;refine eB fun K260 hn260 hx260 hr260 he260 => ?_;refine eS fun K261 hn261 hr261 he261 => ?_;refine eO fun K262 hk262 => ?_;refine tC 1 F17 ?_;refine tC 1 F17 ?_;refine tZ F17 ?_;refine hk262 _ ?_;refine hn261 (some ([1, 3, 6, 27, 28, 29], none)) _ ?_;refine eS fun K263 hn263 hr263 he263 => ?_
      refine eO fun K264 hk264 => ?_;refine tC 2 F17 ?_;refine tZ F17 ?_;refine hk264 _ ?_;refine hn263 (some ([1, 3, 6, 27, 28, 29, 35], none)) _ ?_;refine eCf ?_;refine hn260 _ ?_;refine hn259 (some ([1, 3, 27, 28, 29], none)) _ ?_;refine eO fun K265 hk265 => ?_;refine tC 1 F17 ?_;refine tL F17 ?_;refine hk265 _ ?_;refine hn15 (l.length - (i + 1)) (some ([1, 3, 27, 28, 29], some ([0, 1], 2))) _ ?_ ?_
      all_goals try refine lp0 ?_
      · show l.length - (i + 1) < l.length - i; omega
      · exact ⟨i + 1, w, s, by show i + 1 ≤ l.length; omega, hZ, worldOk_up hW (by omega), hst, rfl, by rfl⟩
end Go.Proofs.YtkbgdhomdbolnaaGreatDoor

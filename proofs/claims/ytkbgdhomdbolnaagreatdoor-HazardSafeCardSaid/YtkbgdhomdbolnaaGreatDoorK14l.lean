/-
  HazardSafe by shadows.
-/
import Derived.Test.YtkbgdhomdbolnaaGreatDoorK14f
import Derived.Test.YtkbgdhomdbolnaaGreatDoorK14k
import Derived.Test.YtkbgdhomdbolnaaGreatDoorArg14
import Derived.Test.YtkbgdhomdbolnaaGreatDoorScHazardSafe
import Derived.Test.YtkbgdhomdbolnaaGreatDoorMC
namespace Go.Proofs.YtkbgdhomdbolnaaGreatDoor
set_option linter.unusedSimpArgs false
set_option linter.unusedVariables false
open Go.RowKit Go.Maps

theorem safe_alone {v n : Int} (hv : v ≠ 0) (hvn : v ≠ n) {w : WorldM hz} {s : Nat → HzV} (h : HzW (dS n) w s) {m : Nat} (hm : m < 3) (hst : w.stopped = List.replicate 3 false) (hg : m = 2 → finH (s 1) = true) (hI : SafeI v n w s) {k : Nat} (hk : 4 ≤ k) :
    ∃ s', HzW (dS n) (aloneM w ((m : Int) + 1) k).1 s' ∧ SafeI v n (aloneM w ((m : Int) + 1) k).1 s' ∧ (aloneM w ((m : Int) + 1) k).1.stopped = List.replicate 3 false ∧ (∀ j, j ≠ m → s' j = s j) ∧ (aloneM w ((m : Int) + 1) k).2 = true ∧ finH (s' m) = true := by
  have hs : stoppedM w m = false := by
    unfold stoppedM
    rw [hst]
    match m, hm with
    | 0, _ => rfl
    | 1, _ => rfl
    | 2, _ => rfl
  obtain ⟨s', h1, ⟨h2, _⟩, h3, h4, h5, h6⟩ := hz_alone h hm hs (I := fun w' s' => SafeI v n w' s' ∧ (m = 2 → finH (s' 1) = true)) ⟨hI, hg⟩ (fun w1 s1 s2 q1 q2 q3 q4 => ⟨safe_step hv hvn q1 q2 q3 rfl (fun e => q4.2 (by
      have : (m : Int) + 1 = 3 := e
      omega)) q4.1, fun e => by
    subst e
    cases q3 with
    | idle e hs ht => subst hs; exact q4.2 rfl
    | halt k hs ht hm => cases k
    | go m' y hm' k ht hy hl hp did hT hst2 hW hs =>
      have hm2 : m' = 2 := by
        have : ((2 : Nat) : Int) + 1 = (m' : Int) + 1 := ht
        omega
      subst hm2
      rw [hs]
      exact q4.2 rfl⟩) hk
  exact ⟨s', h1, h2, by rw [h3, hst], h4, h5, h6⟩
theorem stepS_stopped {d : Nat → DoH} {w : WorldM hz} {s s' : Nat → HzV} {p : PickV} (hk : p.kind = 0) (h : HzStep w s p s') (hst : w.stopped = List.replicate 3 false) : (stepM w p).1.stopped = List.replicate 3 false := by
  cases h with
  | idle e hs ht => rw [e]; exact hst
  | halt k hs ht hm => omega
  | go m y hm k ht hy hl hp did hT hst2 hW hs => rw [hst2]; exact hst
theorem scan_fin {n : Int} {w : WorldM hz} {s : Nat → HzV} (h : HzW (dS n) w s) (hf : finH (s 2) = true) : ∃ x, s 2 = .scan x ∧ x.fin = true ∧ 2 ≤ x.nxt := by
  obtain ⟨y, hy, hT⟩ := h.get (i := 2) (by decide)
  have h9 := hT.st
  generalize y.act = a9 at h9
  generalize s 2 = z at h9 hf ⊢
  cases h9 with
  | found k => cases k
  | held k => cases k
  | again k h => cases k
  | pdone k h => cases k
  | clr k => cases k
  | cdone k h => cases k
  | scan k m hm => cases hf
  | sdone k => exact ⟨_, rfl, rfl, by show (2 : Int) ≤ 4; decide⟩
  | look k => cases k
  | swap k g t hne => cases k
  | wdone k => cases k
theorem prot_fin {n : Int} {w : WorldM hz} {s : Nat → HzV} (h : HzW (dS n) w s) (hf : finH (s 0) = true) : ∃ q, s 0 = .prot q ∧ q.fin = true := by
  obtain ⟨y, hy, hT⟩ := h.get (i := 0) (by decide)
  have h9 := hT.st
  generalize y.act = a9 at h9
  generalize s 0 = z at h9 hf ⊢
  cases h9 with
  | found k => cases hf
  | held k => cases hf
  | again k h => cases hf
  | pdone k h => exact ⟨_, rfl, rfl⟩
  | clr k => cases k
  | cdone k h => cases k
  | scan k m hm => cases k
  | sdone k => cases k
  | look k => cases k
  | swap k g t hne => cases k
  | wdone k => cases k
def SfInv (v n : Int) (l : List PickV) (m : Nat) (S : St) : Prop :=
  ∃ (i : Nat) (w : WorldM hz) (s : Nat → HzV), i ≤ l.length ∧ HzW (dS n) w s ∧ SafeI v n w s ∧ WorldOk w (2 + i) ∧ w.stopped = List.replicate 3 false ∧ m = l.length - i ∧
    S = ⟨[(0, sI v), (7, .ptr 0 0 0), (47, .sl 3 2 (l.map ePick)), (48, sI l.length), (49, sI i)], [(0, boxW w)], 1⟩
def Sf2Inv (v : Int) (w : WorldM hz) (A : List Int) (m : Nat) (S : St) : Prop :=
  ∃ i : Nat, i ≤ A.length ∧ m = A.length - i ∧
    S = ⟨[(0, sI v), (7, .ptr 0 0 0), (13, sB true), (14, sB (decide (v ∈ A.take i))), (107, .sl 1 0 (A.map eH1)), (108, sI A.length), (109, sI i)], [(0, boxW w)], 1⟩
theorem mem_take_succ {A : List Int} {i : Nat} {x v : Int} (h : A[i]? = some x) : decide (v ∈ A.take (i + 1)) = (decide (v ∈ A.take i) || (x == v)) := by
  rw [List.take_add_one, h]
  by_cases h1 : v ∈ A.take i
  · simp [h1]
  · by_cases h2 : x = v
    · subst h2; simp
    · have h3 : (x == v) = false := by simpa using h2
      rw [h3, Bool.or_false]
      rw [decide_eq_false h1]
      refine decide_eq_false fun h9 => ?_
      rcases List.mem_append.1 h9 with h9 | h9
      · exact h1 h9
      · simp at h9; exact h2 h9.symm
set_option maxRecDepth 20000 in
set_option maxHeartbeats 16000000 in
theorem ok_HazardSafe (v n : Int) (l : List PickV) : Ok 7 [sI v, sI n, .sl 3 2 (l.map ePick)] (sB true) := by
  refine ok_of_tr Tryz.func7 tr_HazardSafe rfl ?_
  have ka := ok_l14awake
  by_cases g1 : (120 : Int) < (l.length : Int)
  · skip
    unfold evFn sc_HazardSafe rv_HazardSafe
    have F1 := @g1
    refine eS fun K1 hn1 hr1 he1 => ?_;refine eO fun K2 hk2 => ?_;refine tL F1 ?_;refine hk2 _ ?_;refine hn1 (some ([0, 1, 2], none)) _ ?_;refine eS fun K3 hn3 hr3 he3 => ?_;refine eS fun K4 hn4 hr4 he4 => ?_;refine eO fun K5 hk5 => ?_;refine tC 3 F1 ?_;refine tC 3 F1 ?_;refine tC 5 F1 ?_;refine tL F1 ?_;refine hk5 _ ?_;refine hn4 (some ([0, 1, 2, 31], none)) _ ?_;refine eCt ?_;refine eS fun K6 hn6 hr6 he6 => ?_;refine eO fun K7 hk7 => ?_;refine tS 1 F1 ?_;refine Or.inl (Or.inl ⟨_, ka, ?_⟩);refine tL F1 ?_;refine hk7 _ ?_;refine hn6 (some ([6], none)) _ ?_;refine hr3 _ ?_
    exact sf1 F1
  by_cases g2 : v = 0
  · subst g2
    unfold evFn sc_HazardSafe rv_HazardSafe
    have F1 := @g1
    refine eS fun K1 hn1 hr1 he1 => ?_;refine eO fun K2 hk2 => ?_;refine tL F1 ?_;refine hk2 _ ?_;refine hn1 (some ([0, 1, 2], none)) _ ?_;refine eS fun K3 hn3 hr3 he3 => ?_;refine eS fun K4 hn4 hr4 he4 => ?_;refine eO fun K5 hk5 => ?_;refine tC 3 F1 ?_;refine tC 3 F1 ?_;refine tC 5 F1 ?_;refine tL F1 ?_;refine hk5 _ ?_;refine hn4 (some ([0, 1, 2, 31], none)) _ ?_;refine eCt ?_;refine eS fun K6 hn6 hr6 he6 => ?_;refine eO fun K7 hk7 => ?_;refine tS 1 F1 ?_;refine Or.inl (Or.inl ⟨_, ka, ?_⟩);refine tL F1 ?_;refine hk7 _ ?_;refine hn6 (some ([6], none)) _ ?_;refine hr3 _ ?_
    exact sf1 F1
  have g2' : (v == 0) = false := by simpa using g2
  by_cases g3 : v = n
  · subst g3
    unfold evFn sc_HazardSafe rv_HazardSafe
    have F1 := And.intro @g1 @g2'
    refine eS fun K1 hn1 hr1 he1 => ?_;refine eO fun K2 hk2 => ?_;refine tL F1 ?_;refine hk2 _ ?_;refine hn1 (some ([0, 1, 2], none)) _ ?_;refine eS fun K3 hn3 hr3 he3 => ?_;refine eS fun K4 hn4 hr4 he4 => ?_;refine eO fun K5 hk5 => ?_;refine tC 3 F1 ?_;refine tC 3 F1 ?_;refine tC 5 F1 ?_;refine tL F1 ?_;refine hk5 _ ?_;refine hn4 (some ([0, 1, 2, 31], none)) _ ?_;refine eCt ?_;refine eS fun K6 hn6 hr6 he6 => ?_;refine eO fun K7 hk7 => ?_;refine tS 1 F1 ?_;refine Or.inl (Or.inl ⟨_, ka, ?_⟩);refine tL F1 ?_;refine hk7 _ ?_;refine hn6 (some ([6], none)) _ ?_;refine hr3 _ ?_
    exact sf1 F1
  have g3' : (v == n) = false := by simpa using g3
  have hlen : l.length ≤ 120 := by omega
  have hK := shK hz
  have k1 := ok_l14begun v 0 0 0 0 ⟨0, 0, 0⟩ ⟨3, 0, n⟩ ⟨2, 0, 0⟩ (doIn0 0 (by decide)) ⟨by show (0 : Int) ≤ 3 ∧ (3 : Int) ≤ 255; decide, by show (0 : Int) ≤ 0 ∧ (0 : Int) ≤ 255; decide⟩ (doIn0 2 (by decide))
  have hdd : dOf ⟨0, 0, 0⟩ ⟨3, 0, n⟩ ⟨2, 0, 0⟩ = dS n := rfl
  rw [hdd] at k1
  change Ok _ [.agg [sI v, sI 0], .agg [sI 0, sI 0, sI 0], .agg [s8h 0, s8h 0, sI 0, s8h 3, s8h 0, sI n, s8h 2, s8h 0, sI 0]] _ at k1
  have hW0 := (worldH_ok v 0 (hsOf 0 0 0) (dS n)).1
  obtain ⟨hZ0, _, hst0⟩ := worldH_hzW v 0 (hsOf 0 0 0) (dS n)
  have hI0 : SafeI v n (worldH v 0 (hsOf 0 0 0) (dS n)) (fun i => (hzNext (codeH i (dS n i)) zGot).1) := by
    refine ⟨fun h => ?_, fun x hx hn => ?_, fun x q hx hn => ?_⟩
    · cases h
    · cases hx; exact absurd hn (by decide)
    · cases hx; exact absurd hn (by decide)
  generalize (fun i => (hzNext (codeH i (dS n i)) zGot).1) = s0 at hZ0 hI0
  generalize worldH v 0 (hsOf 0 0 0) (dS n) = W0 at k1 hW0 hZ0 hst0 hI0
  clear hdd
  unfold evFn sc_HazardSafe rv_HazardSafe
  have F1 := And.intro @g1 (And.intro @g2' (And.intro @g3' @hK))
  refine eS fun K1 hn1 hr1 he1 => ?_;refine eO fun K2 hk2 => ?_;refine tL F1 ?_;refine hk2 _ ?_;refine hn1 (some ([0, 1, 2], none)) _ ?_;refine eS fun K3 hn3 hr3 he3 => ?_;refine eS fun K4 hn4 hr4 he4 => ?_;refine eO fun K5 hk5 => ?_;refine tC 3 F1 ?_;refine tC 3 F1 ?_;refine tC 5 F1 ?_;refine tL F1 ?_;refine hk5 _ ?_;refine hn4 (some ([0, 1, 2, 31], none)) _ ?_;refine eCf ?_;refine hn3 (some ([0, 1, 2], none)) _ ?_;refine eS fun K6 hn6 hr6 he6 => ?_;refine eO fun K7 hk7 => ?_;refine tS 8 F1 ?_;refine tS 1 F1 ?_;refine Or.inl (Or.inl ⟨_, k1, ?_⟩);refine tC 5 F1 ?_;refine tL F1 ?_;refine hk7 _ ?_
  refine hn6 (some ([0, 2, 7, 8], none)) _ ?_;refine eS fun K8 hn8 hr8 he8 => ?_;refine eS fun K9 hn9 hr9 he9 => ?_;refine eO fun K10 hk10 => ?_;refine tL F1 ?_;refine hk10 _ ?_;refine hn9 (some ([0, 2, 7, 46], none)) _ ?_;refine eCf ?_;refine hn8 (some ([0, 2, 7], none)) _ ?_;refine eS fun K11 hn11 hr11 he11 => ?_;refine eS fun K12 hn12 hr12 he12 => ?_;refine eO fun K13 hk13 => ?_;refine tL F1 ?_;refine hk13 _ ?_;refine hn12 (some ([0, 7, 47, 48, 49], none)) _ ?_;refine eB fun K14 hn14 hx14 hr14 he14 => ?_;refine eW (SfInv v n l) (l.length) (some ([0, 7, 47, 48, 49], some ([0], 1))) ([]) ?_ ?_
  · try refine lp0 ?_
    exact ⟨0, W0, s0, by omega, hZ0, hI0, hW0, hst0, by omega, by rfl⟩
  · intro k S1 hI
    obtain ⟨i, w, s, hi, hZ, hI, hW, hst, rfl, rfl⟩ := hI
    have hcase : i = l.length ∨ (∃ p, l[i]? = some p ∧ p.kind ≠ 0) ∨ (∃ p, l[i]? = some p ∧ p.kind = 0 ∧ p.thread = 3 ∧ finH (s 1) = false) ∨ (∃ p, l[i]? = some p ∧ p.kind = 0 ∧ p.thread = 3 ∧ finH (s 1) = true) ∨ (∃ p, l[i]? = some p ∧ p.kind = 0 ∧ p.thread ≠ 3) := by
      rcases Nat.lt_or_ge i l.length with h | h
      · by_cases hk : (l[i]).kind = 0
        · by_cases ht : (l[i]).thread = 3
          · cases hf : finH (s 1)
            · exact .inr (.inr (.inl ⟨_, List.getElem?_eq_getElem h, hk, ht, rfl⟩))
            · exact .inr (.inr (.inr (.inl ⟨_, List.getElem?_eq_getElem h, hk, ht, rfl⟩)))
          · exact .inr (.inr (.inr (.inr ⟨_, List.getElem?_eq_getElem h, hk, ht⟩)))
        · exact .inr (.inl ⟨_, List.getElem?_eq_getElem h, hk⟩)
      · exact .inl (by omega)
    intro K15 hn15 hr15 he15
    rcases hcase with hcc | ⟨p, hp1, hp2⟩ | ⟨p, hp1, hp2, hp3, hf1⟩ | ⟨p, hp1, hp2, hp3, hf1⟩ | ⟨p, hp1, hp2, hp3⟩
    · skip
      have x2 : ¬ (i : Int) < (l.length : Int) := by omega
      have hW1 := worldOk_up hW (show 2 + i ≤ 122 by omega)
      have k4 := ok_kAlone w ((1 + 1 : Nat) : Int) 8 hW1 (by decide)
      have hW2 := alone_ok hW1 ((1 + 1 : Nat) : Int) 8
      obtain ⟨s2, hZ2, hI2, hst2, ho2, hd2, hf2⟩ := safe_alone g2 g3 hZ (m := 1) (by decide) hst (fun e => by cases e) hI (k := 8) (by decide)
      change HzW (dS n) (aloneM w ((1 + 1 : Nat) : Int) 8).1 s2 at hZ2
      change SafeI v n (aloneM w ((1 + 1 : Nat) : Int) 8).1 s2 at hI2
      change (aloneM w ((1 + 1 : Nat) : Int) 8).1.stopped = _ at hst2
      change (aloneM w ((1 + 1 : Nat) : Int) 8).2 = true at hd2
      rw [hd2] at k4
      generalize (aloneM w ((1 + 1 : Nat) : Int) 8).1 = w2 at k4 hZ2 hI2 hst2 hW2
      have k5 := ok_kAlone w2 ((2 + 1 : Nat) : Int) 8 hW2 (by decide)
      have hW3 := alone_ok hW2 ((2 + 1 : Nat) : Int) 8
      obtain ⟨s3, hZ3, hI3, hst3, ho3, hd3, hf3⟩ := safe_alone g2 g3 hZ2 (m := 2) (by decide) hst2 (fun _ => hf2) hI2 (k := 8) (by decide)
      change HzW (dS n) (aloneM w2 ((2 + 1 : Nat) : Int) 8).1 s3 at hZ3
      change SafeI v n (aloneM w2 ((2 + 1 : Nat) : Int) 8).1 s3 at hI3
      change (aloneM w2 ((2 + 1 : Nat) : Int) 8).1.stopped = _ at hst3
      change (aloneM w2 ((2 + 1 : Nat) : Int) 8).2 = true at hd3
      rw [hd3] at k5
      generalize (aloneM w2 ((2 + 1 : Nat) : Int) 8).1 = w3 at k5 hZ3 hI3 hst3 hW3
      obtain ⟨x, hx1, hx2, hx3⟩ := scan_fin hZ3 hf3
      obtain ⟨y3, hy3, hT3⟩ := hZ3.get (i := 2) (by decide)
      have k6 := ok_kCode y3
      rw [hT3.code, hx1] at k6
      have hgx := (hW3.task y3 (List.mem_of_getElem? hy3)).good (s3 2) hT3.code
      rw [hx1] at hgx
      have hgx2 : x.held.length ≤ 1000 := by have h9 : ScanOk _ x := hgx; have := h9.held; simp at this; omega
      have e7 : heldH (.scan x) = some x.held := if_pos hx2
      have k7 := ok_hzHeld (.scan x) (fun z hz => by cases hz; exact hgx2)
      rw [e7] at k7
      change Ok _ [eCode hz (some (.scan x))] _ at k7
      have k8 := ok_kAlone w3 ((0 + 1 : Nat) : Int) 8 hW3 (by decide)
      have hW4 := alone_ok hW3 ((0 + 1 : Nat) : Int) 8
      obtain ⟨s4, hZ4, hI4, hst4, ho4, hd4, hf4⟩ := safe_alone g2 g3 hZ3 (m := 0) (by decide) hst3 (fun e => by cases e) hI3 (k := 8) (by decide)
      change HzW (dS n) (aloneM w3 ((0 + 1 : Nat) : Int) 8).1 s4 at hZ4
      change SafeI v n (aloneM w3 ((0 + 1 : Nat) : Int) 8).1 s4 at hI4
      change (aloneM w3 ((0 + 1 : Nat) : Int) 8).2 = true at hd4
      rw [hd4] at k8
      generalize (aloneM w3 ((0 + 1 : Nat) : Int) 8).1 = w4 at k8 hZ4 hI4 hW4
      obtain ⟨q, hq1, hq2⟩ := prot_fin hZ4 hf4
      obtain ⟨y4, hy4, hT4⟩ := hZ4.get (i := 0) (by decide)
      have k9 := ok_kCode y4
      rw [hT4.code, hq1] at k9
      have hx4 : s4 2 = .scan x := by rw [ho4 2 (by decide), hx1]
      have hfound : q.word.val = v → v ∈ x.held := fun e9 => hI4.e x q hx4 hx3 hq1 hq2 e9
      obtain ⟨qloc, qown, ⟨qv, qr, qf⟩, qfin, qpos⟩ := q
      obtain rfl : qfin = true := hq2
      have k10 : Ok 28 [eCode hz (some (.prot ⟨qloc, qown, ⟨qv, qr, qf⟩, true, qpos⟩))] (.tup [.agg [sI qv, sU qr, sU qf], sB true]) := ok_hzWord (.prot ⟨qloc, qown, ⟨qv, qr, qf⟩, true, qpos⟩)
      have hfound : qv = v → v ∈ x.held := hfound
      generalize x.held = A at k7 hfound hgx2
      have u1 : (w3.tasks.length : Int) = 3 := by have := hZ3.len; omega
      have u2 : (w4.tasks.length : Int) = 3 := by have := hZ4.len; omega
      have u3 : 2 < w3.tasks.length := by omega
      have u4 : 0 < w4.tasks.length := by omega
      have u5 : (2 : Int) < 3 := by decide
      have u6 : (0 : Int) < 3 := by decide
      have F2 := And.intro F1 (And.intro @x2 (And.intro @u1 (And.intro @u2 (And.intro @u3 (And.intro @u4 (And.intro @u5 (And.intro @u6 (And.intro @hy3 @hy4))))))))
      refine eS fun K16 hn16 hr16 he16 => ?_;refine eO fun K17 hk17 => ?_;refine tZ F2 ?_;refine hk17 _ ?_;refine hn16 (some ([0, 7, 47, 48, 49, 50], none)) _ ?_;refine eS fun K18 hn18 hr18 he18 => ?_;refine eCf ?_;refine he18 0 _ ?_;refine he15 0 _ ?_;refine hx14 _ ?_;refine hn11 (some ([0, 7], none)) _ ?_;refine eS fun K19 hn19 hr19 he19 => ?_;refine eO fun K20 hk20 => ?_;refine tC 1 F2 ?_;refine tS 1 F2 ?_;refine Or.inl (Or.inl ⟨_, k4, ?_⟩);refine tZ F2 ?_;refine hk20 _ ?_;refine hn19 (some ([0, 7], none)) _ ?_;refine eS fun K21 hn21 hr21 he21 => ?_;refine eO fun K22 hk22 => ?_;refine tC 1 F2 ?_
      refine tS 1 F2 ?_;refine Or.inl (Or.inl ⟨_, k5, ?_⟩);refine tC 4 F2 ?_;refine tL F2 ?_;refine hk22 _ ?_;refine hn21 (some ([0, 7, 11], none)) _ ?_;refine eS fun K23 hn23 hr23 he23 => ?_;refine eS fun K24 hn24 hr24 he24 => ?_;refine eO fun K25 hk25 => ?_;refine tC 5 F2 ?_;refine tC 2 F2 ?_;refine tL F2 ?_;refine hk25 _ ?_;refine hn24 (some ([0, 7, 97], none)) _ ?_;refine eCf ?_;refine hn23 (some ([0, 7], none)) _ ?_;refine eS fun K26 hn26 hr26 he26 => ?_;refine eO fun K27 hk27 => ?_;refine tC 2 F2 ?_;refine tC 1 F2 ?_;refine tC 1 F2 ?_;refine tS 1 F2 ?_;refine Or.inl (Or.inl ⟨_, k6, ?_⟩);refine tS 1 F2 ?_
      refine Or.inl (Or.inl ⟨_, k7, ?_⟩);refine tL F2 ?_;refine hk27 _ ?_;refine hn26 (some ([0, 7, 12, 13], none)) _ ?_;refine eS fun K28 hn28 hr28 he28 => ?_;refine eO fun K29 hk29 => ?_;refine tL F2 ?_;refine hk29 _ ?_;refine hn28 (some ([0, 7, 12, 13, 14], none)) _ ?_;refine eS fun K30 hn30 hr30 he30 => ?_;refine eS fun K31 hn31 hr31 he31 => ?_;refine eO fun K32 hk32 => ?_;refine tL F2 ?_;refine hk32 _ ?_;refine hn31 (some ([0, 7, 13, 14, 107, 108, 109], none)) _ ?_;refine eB fun K33 hn33 hx33 hr33 he33 => ?_;refine eW (Sf2Inv v w3 A) (A.length) (some ([0, 7, 13, 14, 107, 108, 109], some ([0], 1))) ([]) ?_ ?_
      · try refine lp0 ?_
        exact ⟨0, by omega, by omega, by rfl⟩
      · intro k S1 hI
        obtain ⟨j, hj, rfl, rfl⟩ := hI
        have hcas2 : (j = A.length ∧ v ∈ A ∧ qv = v) ∨ (j = A.length ∧ v ∈ A ∧ qv ≠ v) ∨ (j = A.length ∧ ¬ v ∈ A) ∨ (∃ z, A[j]? = some z ∧ v ∈ A.take j) ∨ (∃ z, A[j]? = some z ∧ ¬ v ∈ A.take j) := by
          rcases Nat.lt_or_ge j A.length with h | h
          · by_cases h2 : v ∈ A.take j
            · exact .inr (.inr (.inr (.inl ⟨_, List.getElem?_eq_getElem h, h2⟩)))
            · exact .inr (.inr (.inr (.inr ⟨_, List.getElem?_eq_getElem h, h2⟩)))
          · by_cases h2 : v ∈ A
            · by_cases h3 : qv = v
              · exact .inl ⟨by omega, h2, h3⟩
              · exact .inr (.inl ⟨by omega, h2, h3⟩)
            · exact .inr (.inr (.inl ⟨by omega, h2⟩))
        intro K34 hn34 hr34 he34
        rcases hcas2 with ⟨hje, hin, hqv⟩ | ⟨hje, hin, hqv⟩ | ⟨hje, hin⟩ | ⟨z, hz1, hin⟩ | ⟨z, hz1, hin⟩
        · skip
          have t1 : ¬ (j : Int) < (A.length : Int) := by omega
          have t2 : decide (v ∈ A.take j) = true := by rw [hje, List.take_length]; exact decide_eq_true hin
          have t3 : (qv != v) = false := by simpa using hqv
          have F3 := And.intro F2 (And.intro @t1 (And.intro @t2 @t3))
          refine eS fun K35 hn35 hr35 he35 => ?_;refine eO fun K36 hk36 => ?_;refine tZ F3 ?_;refine hk36 _ ?_;refine hn35 (some ([0, 7, 13, 14, 107, 108, 109, 110], none)) _ ?_;refine eS fun K37 hn37 hr37 he37 => ?_;refine eCf ?_;refine he37 2 _ ?_;refine he34 2 _ ?_;refine hx33 _ ?_;refine hn30 (some ([0, 7, 13, 14], none)) _ ?_;refine eS fun K38 hn38 hr38 he38 => ?_;refine eO fun K39 hk39 => ?_;refine tC 1 F3 ?_;refine tS 1 F3 ?_;refine Or.inl (Or.inl ⟨_, k8, ?_⟩);refine tC 4 F3 ?_;refine tL F3 ?_;refine hk39 _ ?_;refine hn38 (some ([0, 7, 13, 14, 17], none)) _ ?_;refine eS fun K40 hn40 hr40 he40 => ?_
          refine eS fun K41 hn41 hr41 he41 => ?_;refine eO fun K42 hk42 => ?_;refine tC 9 F3 ?_;refine tC 2 F3 ?_;refine tL F3 ?_;refine hk42 _ ?_;refine hn41 (some ([0, 7, 14, 136], none)) _ ?_;refine eCf ?_;refine hn40 (some ([0, 7, 14], none)) _ ?_;refine eS fun K43 hn43 hr43 he43 => ?_;refine eO fun K44 hk44 => ?_;refine tC 2 F3 ?_;refine tC 1 F3 ?_;refine tC 1 F3 ?_;refine tS 1 F3 ?_;refine Or.inl (Or.inl ⟨_, k9, ?_⟩);refine tS 1 F3 ?_;refine Or.inl (Or.inl ⟨_, k10, ?_⟩);refine tC 5 F3 ?_;refine tL F3 ?_;refine hk44 _ ?_;refine hn43 (some ([0, 14, 18, 19], none)) _ ?_;refine eS fun K45 hn45 hr45 he45 => ?_
          refine eO fun K46 hk46 => ?_;refine tC 4 F3 ?_;refine tC 2 F3 ?_;refine tS 5 F3 ?_;refine tS 1 F3 ?_;refine Or.inl (Or.inl ⟨_, ka, ?_⟩);refine tL F3 ?_;refine hk46 _ ?_;refine hn45 (some ([6], none)) _ ?_
          exact sf1 F3
        · skip
          have t1 : ¬ (j : Int) < (A.length : Int) := by omega
          have t2 : decide (v ∈ A.take j) = true := by rw [hje, List.take_length]; exact decide_eq_true hin
          have t3 : (qv != v) = true := by simpa using hqv
          have F4 := And.intro F2 (And.intro @t1 (And.intro @t2 @t3))
          refine eS fun K47 hn47 hr47 he47 => ?_;refine eO fun K48 hk48 => ?_;refine tZ F4 ?_;refine hk48 _ ?_;refine hn47 (some ([0, 7, 13, 14, 107, 108, 109, 110], none)) _ ?_;refine eS fun K49 hn49 hr49 he49 => ?_;refine eCf ?_;refine he49 2 _ ?_;refine he34 2 _ ?_;refine hx33 _ ?_;refine hn30 (some ([0, 7, 13, 14], none)) _ ?_;refine eS fun K50 hn50 hr50 he50 => ?_;refine eO fun K51 hk51 => ?_;refine tC 1 F4 ?_;refine tS 1 F4 ?_;refine Or.inl (Or.inl ⟨_, k8, ?_⟩);refine tC 4 F4 ?_;refine tL F4 ?_;refine hk51 _ ?_;refine hn50 (some ([0, 7, 13, 14, 17], none)) _ ?_;refine eS fun K52 hn52 hr52 he52 => ?_
          refine eS fun K53 hn53 hr53 he53 => ?_;refine eO fun K54 hk54 => ?_;refine tC 9 F4 ?_;refine tC 2 F4 ?_;refine tL F4 ?_;refine hk54 _ ?_;refine hn53 (some ([0, 7, 14, 136], none)) _ ?_;refine eCf ?_;refine hn52 (some ([0, 7, 14], none)) _ ?_;refine eS fun K55 hn55 hr55 he55 => ?_;refine eO fun K56 hk56 => ?_;refine tC 2 F4 ?_;refine tC 1 F4 ?_;refine tC 1 F4 ?_;refine tS 1 F4 ?_;refine Or.inl (Or.inl ⟨_, k9, ?_⟩);refine tS 1 F4 ?_;refine Or.inl (Or.inl ⟨_, k10, ?_⟩);refine tC 5 F4 ?_;refine tL F4 ?_;refine hk56 _ ?_;refine hn55 (some ([0, 14, 18, 19], none)) _ ?_;refine eS fun K57 hn57 hr57 he57 => ?_
          refine eO fun K58 hk58 => ?_;refine tC 4 F4 ?_;refine tC 2 F4 ?_;refine tS 5 F4 ?_;refine tS 1 F4 ?_;refine Or.inl (Or.inl ⟨_, ka, ?_⟩);refine tL F4 ?_;refine hk58 _ ?_;refine hn57 (some ([6], none)) _ ?_
          exact sf1 F4
        · skip
          have t1 : ¬ (j : Int) < (A.length : Int) := by omega
          have t2 : decide (v ∈ A.take j) = false := by rw [hje, List.take_length]; exact decide_eq_false hin
          have t3 : (qv != v) = true := by simpa using fun e9 => hin (hfound e9)
          have F5 := And.intro F2 (And.intro @t1 (And.intro @t2 @t3))
          refine eS fun K59 hn59 hr59 he59 => ?_;refine eO fun K60 hk60 => ?_;refine tZ F5 ?_;refine hk60 _ ?_;refine hn59 (some ([0, 7, 13, 14, 107, 108, 109, 110], none)) _ ?_;refine eS fun K61 hn61 hr61 he61 => ?_;refine eCf ?_;refine he61 2 _ ?_;refine he34 2 _ ?_;refine hx33 _ ?_;refine hn30 (some ([0, 7, 13, 14], none)) _ ?_;refine eS fun K62 hn62 hr62 he62 => ?_;refine eO fun K63 hk63 => ?_;refine tC 1 F5 ?_;refine tS 1 F5 ?_;refine Or.inl (Or.inl ⟨_, k8, ?_⟩);refine tC 4 F5 ?_;refine tL F5 ?_;refine hk63 _ ?_;refine hn62 (some ([0, 7, 13, 14, 17], none)) _ ?_;refine eS fun K64 hn64 hr64 he64 => ?_
          refine eS fun K65 hn65 hr65 he65 => ?_;refine eO fun K66 hk66 => ?_;refine tC 9 F5 ?_;refine tC 2 F5 ?_;refine tL F5 ?_;refine hk66 _ ?_;refine hn65 (some ([0, 7, 14, 136], none)) _ ?_;refine eCf ?_;refine hn64 (some ([0, 7, 14], none)) _ ?_;refine eS fun K67 hn67 hr67 he67 => ?_;refine eO fun K68 hk68 => ?_;refine tC 2 F5 ?_;refine tC 1 F5 ?_;refine tC 1 F5 ?_;refine tS 1 F5 ?_;refine Or.inl (Or.inl ⟨_, k9, ?_⟩);refine tS 1 F5 ?_;refine Or.inl (Or.inl ⟨_, k10, ?_⟩);refine tC 5 F5 ?_;refine tL F5 ?_;refine hk68 _ ?_;refine hn67 (some ([0, 14, 18, 19], none)) _ ?_;refine eS fun K69 hn69 hr69 he69 => ?_
          refine eO fun K70 hk70 => ?_;refine tC 4 F5 ?_;refine tC 2 F5 ?_;refine tS 5 F5 ?_;refine tS 1 F5 ?_;refine Or.inl (Or.inl ⟨_, ka, ?_⟩);refine tL F5 ?_;refine hk70 _ ?_;refine hn69 (some ([6], none)) _ ?_
          exact sf1 F5
        · skip
          have hjl := (List.getElem?_eq_some_iff.1 hz1).1
          have t1 : (j : Int) < (A.length : Int) := by omega
          have t2 : decide (v ∈ A.take j) = true := decide_eq_true hin
          have t3 : IntKind.i64.wrap ((j : Int) + 1) = ((j + 1 : Nat) : Int) := by rw [IntKind.wrap_i64]; omega
          have t4 : decide (v ∈ A.take (j + 1)) = true := by rw [mem_take_succ hz1, t2]; rfl
          have F6 := And.intro F2 (And.intro @t1 (And.intro @t2 (And.intro @t3 @hz1)))
          refine eS fun K71 hn71 hr71 he71 => ?_;refine eO fun K72 hk72 => ?_;refine tZ F6 ?_;refine hk72 _ ?_;refine hn71 (some ([0, 7, 13, 14, 107, 108, 109, 110], none)) _ ?_;refine eS fun K73 hn73 hr73 he73 => ?_;refine eCt ?_;refine hn73 (some ([0, 7, 13, 14, 107, 108, 109], none)) _ ?_;refine eS fun K74 hn74 hr74 he74 => ?_;refine eB fun K75 hn75 hx75 hr75 he75 => ?_;refine eS fun K76 hn76 hr76 he76 => ?_;refine eO fun K77 hk77 => ?_;refine tC 1 F6 ?_;refine tC 1 F6 ?_;refine tL F6 ?_;refine hk77 _ ?_;refine hn76 (some ([0, 7, 13, 14, 16, 107, 108, 109], none)) _ ?_;refine eO fun K78 hk78 => ?_
          refine tC 5 F6 ?_;refine tL F6 ?_;refine hk78 _ ?_;refine hn75 _ ?_;refine hn74 (some ([0, 7, 13, 14, 107, 108, 109], none)) _ ?_;refine eO fun K79 hk79 => ?_;refine tC 1 F6 ?_;refine tL F6 ?_;refine hk79 _ ?_;refine hn34 (A.length - (j + 1)) (some ([0, 7, 13, 14, 107, 108, 109], some ([0], 1))) _ ?_ ?_
          all_goals try refine lp0 ?_
          · omega
          · exact ⟨j + 1, by omega, by omega, by rw [t4]⟩
        · skip
          have hjl := (List.getElem?_eq_some_iff.1 hz1).1
          have t1 : (j : Int) < (A.length : Int) := by omega
          have t2 : decide (v ∈ A.take j) = false := decide_eq_false hin
          have t3 : IntKind.i64.wrap ((j : Int) + 1) = ((j + 1 : Nat) : Int) := by rw [IntKind.wrap_i64]; omega
          have t4 : decide (v ∈ A.take (j + 1)) = (z == v) := by rw [mem_take_succ hz1, t2]; rfl
          have F7 := And.intro F2 (And.intro @t1 (And.intro @t2 (And.intro @t3 @hz1)))
          refine eS fun K80 hn80 hr80 he80 => ?_;refine eO fun K81 hk81 => ?_;refine tZ F7 ?_;refine hk81 _ ?_;refine hn80 (some ([0, 7, 13, 14, 107, 108, 109, 110], none)) _ ?_;refine eS fun K82 hn82 hr82 he82 => ?_;refine eCt ?_;refine hn82 (some ([0, 7, 13, 14, 107, 108, 109], none)) _ ?_;refine eS fun K83 hn83 hr83 he83 => ?_;refine eB fun K84 hn84 hx84 hr84 he84 => ?_;refine eS fun K85 hn85 hr85 he85 => ?_;refine eO fun K86 hk86 => ?_;refine tC 1 F7 ?_;refine tC 1 F7 ?_;refine tL F7 ?_;refine hk86 _ ?_;refine hn85 (some ([0, 7, 13, 14, 16, 107, 108, 109], none)) _ ?_;refine eO fun K87 hk87 => ?_
          refine tC 5 F7 ?_;refine tL F7 ?_;refine hk87 _ ?_;refine hn84 _ ?_;refine hn83 (some ([0, 7, 13, 14, 107, 108, 109], none)) _ ?_;refine eO fun K88 hk88 => ?_;refine tC 1 F7 ?_;refine tL F7 ?_;refine hk88 _ ?_;refine hn34 (A.length - (j + 1)) (some ([0, 7, 13, 14, 107, 108, 109], some ([0], 1))) _ ?_ ?_
          all_goals try refine lp0 ?_
          · omega
          · exact ⟨j + 1, by omega, by omega, by rw [t4]⟩
    · skip
      have hcc := (List.getElem?_eq_some_iff.1 hp1).1
      have x2 : (i : Int) < (l.length : Int) := by omega
      have x3 : IntKind.i64.wrap ((i : Int) + 1) = ((i + 1 : Nat) : Int) := by rw [IntKind.wrap_i64]; omega
      have x4 : (p.kind != 0) = true := by simpa using hp2
      have F8 := And.intro F1 (And.intro @x2 (And.intro @x3 (And.intro @hp1 @x4)))
      refine eS fun K89 hn89 hr89 he89 => ?_;refine eO fun K90 hk90 => ?_;refine tZ F8 ?_;refine hk90 _ ?_;refine hn89 (some ([0, 7, 47, 48, 49, 50], none)) _ ?_;refine eS fun K91 hn91 hr91 he91 => ?_;refine eCt ?_;refine hn91 (some ([0, 7, 47, 48, 49], none)) _ ?_;refine eS fun K92 hn92 hr92 he92 => ?_;refine eB fun K93 hn93 hx93 hr93 he93 => ?_;refine eS fun K94 hn94 hr94 he94 => ?_;refine eO fun K95 hk95 => ?_;refine tC 1 F8 ?_;refine tC 1 F8 ?_;refine tZ F8 ?_;refine hk95 _ ?_;refine hn94 (some ([0, 7, 10, 47, 48, 49], none)) _ ?_;refine eS fun K96 hn96 hr96 he96 => ?_;refine eS fun K97 hn97 hr97 he97 => ?_
      refine eO fun K98 hk98 => ?_;refine tC 2 F8 ?_;refine tC 1 F8 ?_;refine tC 3 F8 ?_;refine tC 1 F8 ?_;refine tC 3 F8 ?_;refine tC 1 F8 ?_;refine tC 1 F8 ?_;refine tS 1 F8 ?_
      skip
      refine tL F8 ?_;refine hk98 _ ?_;refine hn97 (some ([0, 7, 10, 47, 48, 49, 68], none)) _ ?_;refine eCt ?_;refine he96 1 _ ?_;refine hx93 _ ?_;refine hn92 (some ([0, 7, 47, 48, 49], none)) _ ?_;refine eO fun K99 hk99 => ?_;refine tC 1 F8 ?_;refine tL F8 ?_;refine hk99 _ ?_;refine hn15 (l.length - (i + 1)) (some ([0, 7, 47, 48, 49], some ([0], 1))) _ ?_ ?_
      all_goals try refine lp0 ?_
      · omega
      · exact ⟨i + 1, w, s, by omega, hZ, hI, worldOk_up hW (by omega), hst, by omega, by rfl⟩
    · skip
      have hcc := (List.getElem?_eq_some_iff.1 hp1).1
      have x2 : (i : Int) < (l.length : Int) := by omega
      have x3 : IntKind.i64.wrap ((i : Int) + 1) = ((i + 1 : Nat) : Int) := by rw [IntKind.wrap_i64]; omega
      have x4 : (p.kind != 0) = false := by simpa using hp2
      have x5 : (p.thread == 3) = true := by simpa using hp3
      obtain ⟨y1, hy1, hT1⟩ := hZ.get (i := 1) (by decide)
      have hl1 : y1.live = true := by rw [hT1.live, hf1]; rfl
      have k2 := ok_kDone y1
      rw [hl1] at k2
      have x6 : 1 < w.tasks.length := by have := hZ.len; omega
      have x7 : (1 : Int) < (w.tasks.length : Int) := by omega
      have F9 := And.intro F1 (And.intro @x2 (And.intro @x3 (And.intro @hp1 (And.intro @x4 (And.intro @x5 (And.intro @x6 (And.intro @x7 @hy1)))))))
      refine eS fun K100 hn100 hr100 he100 => ?_;refine eO fun K101 hk101 => ?_;refine tZ F9 ?_;refine hk101 _ ?_;refine hn100 (some ([0, 7, 47, 48, 49, 50], none)) _ ?_;refine eS fun K102 hn102 hr102 he102 => ?_;refine eCt ?_;refine hn102 (some ([0, 7, 47, 48, 49], none)) _ ?_;refine eS fun K103 hn103 hr103 he103 => ?_;refine eB fun K104 hn104 hx104 hr104 he104 => ?_;refine eS fun K105 hn105 hr105 he105 => ?_;refine eO fun K106 hk106 => ?_;refine tC 1 F9 ?_;refine tC 1 F9 ?_;refine tZ F9 ?_;refine hk106 _ ?_;refine hn105 (some ([0, 7, 10, 47, 48, 49], none)) _ ?_;refine eS fun K107 hn107 hr107 he107 => ?_
      refine eS fun K108 hn108 hr108 he108 => ?_;refine eO fun K109 hk109 => ?_;refine tC 2 F9 ?_;refine tC 1 F9 ?_;refine tC 3 F9 ?_;refine tC 1 F9 ?_;refine tC 3 F9 ?_;refine tC 1 F9 ?_;refine tC 1 F9 ?_;refine tS 1 F9 ?_;refine Or.inl (Or.inl ⟨_, k2, ?_⟩);refine tL F9 ?_;refine hk109 _ ?_;refine hn108 (some ([0, 7, 10, 47, 48, 49, 68], none)) _ ?_;refine eCt ?_;refine he107 1 _ ?_;refine hx104 _ ?_;refine hn103 (some ([0, 7, 47, 48, 49], none)) _ ?_;refine eO fun K110 hk110 => ?_;refine tC 1 F9 ?_;refine tL F9 ?_;refine hk110 _ ?_;refine hn15 (l.length - (i + 1)) (some ([0, 7, 47, 48, 49], some ([0], 1))) _ ?_ ?_
      all_goals try refine lp0 ?_
      · omega
      · exact ⟨i + 1, w, s, by omega, hZ, hI, worldOk_up hW (by omega), hst, by omega, by rfl⟩
    · skip
      have hcc := (List.getElem?_eq_some_iff.1 hp1).1
      have x2 : (i : Int) < (l.length : Int) := by omega
      have x3 : IntKind.i64.wrap ((i : Int) + 1) = ((i + 1 : Nat) : Int) := by rw [IntKind.wrap_i64]; omega
      have x4 : (p.kind != 0) = false := by simpa using hp2
      have x5 : (p.thread == 3) = true := by simpa using hp3
      obtain ⟨y1, hy1, hT1⟩ := hZ.get (i := 1) (by decide)
      have x6 : 1 < w.tasks.length := by have := hZ.len; omega
      have x7 : (1 : Int) < (w.tasks.length : Int) := by omega
      have k3 := ok_kStep w p hW (by omega)
      have hW' := stepOk hW p
      obtain ⟨s', hZ', hS'⟩ := hzW_step hZ p (by omega)
      have hI' := safe_step g2 g3 hZ hZ' hS' hp2 (fun _ => hf1) hI
      have hst' := stepS_stopped (d := dS n) hp2 hS' hst
      generalize (stepM w p).2 = bb at k3
      generalize (stepM w p).1 = w' at k3 hZ' hW' hI' hst'
      have x8 : (w'.tasks.length : Int) = 3 := by have := hZ'.len; omega
      have hl1 : y1.live = false := by rw [hT1.live, hf1]; rfl
      have k2 := ok_kDone y1
      rw [hl1] at k2
      have F10 := And.intro F1 (And.intro @x2 (And.intro @x3 (And.intro @hp1 (And.intro @x4 (And.intro @x5 (And.intro @x6 (And.intro @x7 (And.intro @x8 @hy1))))))))
      refine eS fun K111 hn111 hr111 he111 => ?_;refine eO fun K112 hk112 => ?_;refine tZ F10 ?_;refine hk112 _ ?_;refine hn111 (some ([0, 7, 47, 48, 49, 50], none)) _ ?_;refine eS fun K113 hn113 hr113 he113 => ?_;refine eCt ?_;refine hn113 (some ([0, 7, 47, 48, 49], none)) _ ?_;refine eS fun K114 hn114 hr114 he114 => ?_;refine eB fun K115 hn115 hx115 hr115 he115 => ?_;refine eS fun K116 hn116 hr116 he116 => ?_;refine eO fun K117 hk117 => ?_;refine tC 1 F10 ?_;refine tC 1 F10 ?_;refine tZ F10 ?_;refine hk117 _ ?_;refine hn116 (some ([0, 7, 10, 47, 48, 49], none)) _ ?_;refine eS fun K118 hn118 hr118 he118 => ?_
      refine eS fun K119 hn119 hr119 he119 => ?_;refine eO fun K120 hk120 => ?_;refine tC 2 F10 ?_;refine tC 1 F10 ?_;refine tC 3 F10 ?_;refine tC 1 F10 ?_;refine tC 3 F10 ?_;refine tC 1 F10 ?_;refine tC 1 F10 ?_;refine tS 1 F10 ?_;refine Or.inl (Or.inl ⟨_, k2, ?_⟩);refine tL F10 ?_;refine hk120 _ ?_;refine hn119 (some ([0, 7, 10, 47, 48, 49, 68], none)) _ ?_;refine eCf ?_;refine hn118 (some ([0, 7, 10, 47, 48, 49], none)) _ ?_;refine eS fun K121 hn121 hr121 he121 => ?_;refine eO fun K122 hk122 => ?_;refine tC 1 F10 ?_;refine tC 1 F10 ?_;refine tS 1 F10 ?_;refine Or.inl (Or.inl ⟨_, k3, ?_⟩);refine tZ F10 ?_
      refine hk122 _ ?_;refine hn121 (some ([0, 7, 47, 48, 49], none)) _ ?_;refine eS fun K123 hn123 hr123 he123 => ?_;refine eO fun K124 hk124 => ?_;refine tC 2 F10 ?_;refine tZ F10 ?_;refine hk124 _ ?_;refine hn123 (some ([0, 7, 47, 48, 49, 78], none)) _ ?_;refine eCf ?_;refine hn115 _ ?_;refine hn114 (some ([0, 7, 47, 48, 49], none)) _ ?_;refine eO fun K125 hk125 => ?_;refine tC 1 F10 ?_;refine tL F10 ?_;refine hk125 _ ?_;refine hn15 (l.length - (i + 1)) (some ([0, 7, 47, 48, 49], some ([0], 1))) _ ?_ ?_
      all_goals try refine lp0 ?_
      · omega
      · exact ⟨i + 1, w', s', by omega, hZ', hI', by have e9 : 2 + (i + 1) = 2 + i + 1 := rfl; rw [e9]; exact hW', hst', by omega, by rfl⟩
    · skip
      have hcc := (List.getElem?_eq_some_iff.1 hp1).1
      have x2 : (i : Int) < (l.length : Int) := by omega
      have x3 : IntKind.i64.wrap ((i : Int) + 1) = ((i + 1 : Nat) : Int) := by rw [IntKind.wrap_i64]; omega
      have x4 : (p.kind != 0) = false := by simpa using hp2
      have x5 : (p.thread == 3) = false := by simpa using hp3
      obtain ⟨y1, hy1, hT1⟩ := hZ.get (i := 1) (by decide)
      have x6 : 1 < w.tasks.length := by have := hZ.len; omega
      have x7 : (1 : Int) < (w.tasks.length : Int) := by omega
      have k3 := ok_kStep w p hW (by omega)
      have hW' := stepOk hW p
      obtain ⟨s', hZ', hS'⟩ := hzW_step hZ p (by omega)
      have hI' := safe_step g2 g3 hZ hZ' hS' hp2 (fun e => absurd e hp3) hI
      have hst' := stepS_stopped (d := dS n) hp2 hS' hst
      generalize (stepM w p).2 = bb at k3
      generalize (stepM w p).1 = w' at k3 hZ' hW' hI' hst'
      have x8 : (w'.tasks.length : Int) = 3 := by have := hZ'.len; omega
      have F11 := And.intro F1 (And.intro @x2 (And.intro @x3 (And.intro @hp1 (And.intro @x4 (And.intro @x5 (And.intro @x6 (And.intro @x7 (And.intro @x8 @hy1))))))))
      refine eS fun K126 hn126 hr126 he126 => ?_;refine eO fun K127 hk127 => ?_;refine tZ F11 ?_;refine hk127 _ ?_;refine hn126 (some ([0, 7, 47, 48, 49, 50], none)) _ ?_;refine eS fun K128 hn128 hr128 he128 => ?_;refine eCt ?_;refine hn128 (some ([0, 7, 47, 48, 49], none)) _ ?_;refine eS fun K129 hn129 hr129 he129 => ?_;refine eB fun K130 hn130 hx130 hr130 he130 => ?_;refine eS fun K131 hn131 hr131 he131 => ?_;refine eO fun K132 hk132 => ?_;refine tC 1 F11 ?_;refine tC 1 F11 ?_;refine tZ F11 ?_;refine hk132 _ ?_;refine hn131 (some ([0, 7, 10, 47, 48, 49], none)) _ ?_;refine eS fun K133 hn133 hr133 he133 => ?_
      refine eS fun K134 hn134 hr134 he134 => ?_;refine eO fun K135 hk135 => ?_;refine tC 2 F11 ?_;refine tC 1 F11 ?_;refine tC 3 F11 ?_;refine tC 1 F11 ?_;refine tC 3 F11 ?_;refine tC 1 F11 ?_;refine tC 1 F11 ?_;refine tS 1 F11 ?_
      skip
      refine tL F11 ?_;refine hk135 _ ?_;refine hn134 (some ([0, 7, 10, 47, 48, 49, 68], none)) _ ?_;refine eCf ?_;refine hn133 (some ([0, 7, 10, 47, 48, 49], none)) _ ?_;refine eS fun K136 hn136 hr136 he136 => ?_;refine eO fun K137 hk137 => ?_;refine tC 1 F11 ?_;refine tC 1 F11 ?_;refine tS 1 F11 ?_;refine Or.inl (Or.inl ⟨_, k3, ?_⟩);refine tZ F11 ?_;refine hk137 _ ?_;refine hn136 (some ([0, 7, 47, 48, 49], none)) _ ?_;refine eS fun K138 hn138 hr138 he138 => ?_;refine eO fun K139 hk139 => ?_;refine tC 2 F11 ?_;refine tZ F11 ?_;refine hk139 _ ?_;refine hn138 (some ([0, 7, 47, 48, 49, 78], none)) _ ?_
      refine eCf ?_;refine hn130 _ ?_;refine hn129 (some ([0, 7, 47, 48, 49], none)) _ ?_;refine eO fun K140 hk140 => ?_;refine tC 1 F11 ?_;refine tL F11 ?_;refine hk140 _ ?_;refine hn15 (l.length - (i + 1)) (some ([0, 7, 47, 48, 49], some ([0], 1))) _ ?_ ?_
      all_goals try refine lp0 ?_
      · omega
      · exact ⟨i + 1, w', s', by omega, hZ', hI', by have e9 : 2 + (i + 1) = 2 + i + 1 := rfl; rw [e9]; exact hW', hst', by omega, by rfl⟩
end Go.Proofs.YtkbgdhomdbolnaaGreatDoor

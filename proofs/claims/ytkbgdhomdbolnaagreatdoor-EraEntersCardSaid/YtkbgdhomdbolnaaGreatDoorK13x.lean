/-
  EraEnters by shadows.
-/
import Derived.Test.YtkbgdhomdbolnaaGreatDoorK13f
import Derived.Test.YtkbgdhomdbolnaaGreatDoorK13w
import Derived.Test.YtkbgdhomdbolnaaGreatDoorScEraEnters
import Derived.Test.YtkbgdhomdbolnaaGreatDoorMC
namespace Go.Proofs.YtkbgdhomdbolnaaGreatDoor
set_option linter.unusedSimpArgs false
set_option linter.unusedVariables false
open Go.RowKit Go.Maps

def dnB (k : Nat → Int) (s : Nat → EraV) (t : Nat) : Bool := decide (k t % 3 = 0) && (s t).over
theorem en_case {k : Nat → Int} {w : WorldM era} {s s' : Nat → EraV} (h : EraW k w s') (h2 : ∀ i, i < 3 → k i % 3 = 0 → (s' i).over = true → (s i).over = true ∨ (Wd w.m eraP).val = (s' i).time) (h3 : ∀ i, (s i).over = true → s' i = s i) {t : Nat} (ht : t < 3) :
    ∃ y, w.tasks[t]? = some y ∧ ((k t % 3 ≠ 0 ∧ dnB k s' t = dnB k s t) ∨ (k t % 3 = 0 ∧ y.live = true ∧ dnB k s' t = dnB k s t) ∨
      (k t % 3 = 0 ∧ y.live = false ∧ y.code = some (s' t) ∧ (s' t).over = true ∧ dnB k s' t = true ∧ (annM planL (wordsM w.m))[t]? = some (s' t).time ∧ (s' t).time ≤ (Wd w.m eraP).val ∧ (dnB k s t = true ∨ (dnB k s t = false ∧ (Wd w.m eraP).val = (s' t).time)))) := by
  have ht' : t < w.tasks.length := by rw [h.len]; exact ht
  obtain ⟨y, hy⟩ : ∃ y, w.tasks[t]? = some y := ⟨_, List.getElem?_eq_getElem ht'⟩
  refine ⟨y, hy, ?_⟩
  have hT := h.task t y hy
  by_cases hk : k t % 3 = 0
  case neg => exact .inl ⟨hk, by unfold dnB; rw [decide_eq_false hk]; rfl⟩
  cases ho : (s' t).over
  · refine .inr (.inl ⟨hk, by rw [hT.live, ho]; rfl, ?_⟩)
    have : (s t).over = false := by
      cases h9 : (s t).over
      · rfl
      · have := h3 t h9; rw [this, h9] at ho; cases ho
    unfold dnB
    rw [ho, this]
  · refine .inr (.inr ⟨hk, by rw [hT.live, ho]; rfl, hT.code, rfl, by unfold dnB; rw [decide_eq_true hk, ho]; rfl, ?_, ?_, ?_⟩)
    · rw [ann_now h.places ht]
      have h9 := hT.at'
      generalize y.act = A9 at h9
      cases h9 with
      | enter w o v u => rw [v]
      | ann w o p => rw [ho] at o; cases o
      | ann1 w o p => rw [ho] at o; cases o
      | cmp w o p v => rw [ho] at o; cases o
      | leave w o p => omega
      | left w o => omega
      | adv w o p r => omega
      | adv2 g w o p r v => omega
      | advd w o u => omega
    · have h9 := hT.at'
      generalize y.act = A9 at h9
      cases h9 with
      | enter w o v u => exact u
      | ann w o p => rw [ho] at o; cases o
      | ann1 w o p => rw [ho] at o; cases o
      | cmp w o p v => rw [ho] at o; cases o
      | leave w o p => omega
      | left w o => omega
      | adv w o p r => omega
      | adv2 g w o p r v => omega
      | advd w o u => omega
    · unfold dnB
      rw [decide_eq_true hk]
      rcases h2 t ht hk ho with h9 | h9
      · rw [h9]; exact .inl rfl
      · cases (s t).over
        · exact .inr ⟨rfl, h9⟩
        · exact .inl rfl
theorem en_nx {D D' B B' : Nat → Bool} {t : Nat} (h : ∀ u, u < 3 → B u = if u < t then D' u else D u) (hv : B' t = D' t) (ho : ∀ u, u ≠ t → B' u = B u) : ∀ u, u < 3 → B' u = if u < t + 1 then D' u else D u := fun u hu => by
  by_cases e : u = t
  · subst e
    rw [if_pos (by omega), hv]
  · rw [ho u e, h u hu]
    by_cases e2 : u < t
    · rw [if_pos e2, if_pos (by omega)]
    · rw [if_neg e2, if_neg (by omega)]
def EnInv (L : LayV) (k0 k1 k2 : Int) (l : List PickV) (m : Nat) (S : St) : Prop :=
  ∃ (i : Nat) (w : WorldM era) (s : Nat → EraV) (B : Nat → Bool), i ≤ l.length ∧ EraW (kOf k0 k1 k2) w s ∧ WorldOk w (2 + i) ∧ (∀ u, u < 3 → B u = dnB (kOf k0 k1 k2) s u) ∧ m = l.length - i ∧
    S = ⟨[(1, .sl 3 2 (l.map ePick)), (2, .ptr 0 0 0), (5, .ptr 1 0 0), (7, .ptr 2 0 0), (8, .ptr 3 0 0), (9, sI i)], [(0, .box 108 [s8 k0, s8 k1, s8 k2]), (1, boxW w), (2, .box 23 (eLay L)), (3, .box 110 [sB (B 0), sB (B 1), sB (B 2)])], 4⟩
def En2Inv (L : LayV) (k0 k1 k2 : Int) (l : List PickV) (i : Nat) (w : WorldM era) (now : WordV) (A : List Int) (s s' : Nat → EraV) (m : Nat) (S : St) : Prop :=
  ∃ (t : Nat) (B : Nat → Bool), t ≤ 3 ∧ (∀ u, u < 3 → B u = if u < t then dnB (kOf k0 k1 k2) s' u else dnB (kOf k0 k1 k2) s u) ∧ m = 3 - t ∧
    S = ⟨[(1, .sl 3 2 (l.map ePick)), (2, .ptr 0 0 0), (5, .ptr 1 0 0), (7, .ptr 2 0 0), (8, .ptr 3 0 0), (9, sI i), (10, .ptr 4 0 0), (12, .sl 1 0 (A.map eN1)), (13, sI t)], [(0, .box 108 [s8 k0, s8 k1, s8 k2]), (1, boxW w), (2, .box 23 (eLay L)), (3, .box 110 [sB (B 0), sB (B 1), sB (B 2)]), (4, .box 70 (eWord now))], 5⟩
set_option maxHeartbeats 16000000 in
theorem ok_EraEnters (k0 k1 k2 : Int) (h0 : 0 ≤ k0 ∧ k0 ≤ 255) (h1 : 0 ≤ k1 ∧ k1 ≤ 255) (h2 : 0 ≤ k2 ∧ k2 ≤ 255) (l : List PickV) : Ok 9 [.agg [s8 k0, s8 k1, s8 k2], .sl 3 2 (l.map ePick)] (sB true) := by
  refine ok_of_tr Tryz.func9 tr_EraEnters rfl ?_
  have ka := ok_l13awake
  by_cases hg : (120 : Int) < (l.length : Int)
  · skip
    unfold evFn sc_EraEnters rv_EraEnters
    have F1 := @hg
    refine eS fun K1 hn1 hr1 he1 => ?_
    refine eO fun K2 hk2 => ?_
    refine tL F1 ?_
    refine hk2 _ ?_
    refine hn1 (some ([1, 2], none)) _ ?_
    refine eS fun K3 hn3 hr3 he3 => ?_
    refine eS fun K4 hn4 hr4 he4 => ?_
    refine eO fun K5 hk5 => ?_
    refine tS 1 F1 ?_
    refine Or.inl (Or.inl ⟨_, ka, ?_⟩)
    refine tL F1 ?_
    refine hk5 _ ?_
    refine hn4 (some ([1, 2, 17], none)) _ ?_
    refine eCf ?_
    refine hn3 (some ([1, 2], none)) _ ?_
    refine eS fun K6 hn6 hr6 he6 => ?_
    refine eS fun K7 hn7 hr7 he7 => ?_
    refine eO fun K8 hk8 => ?_
    refine tZ F1 ?_
    refine hk8 _ ?_
    refine hn7 (some ([1, 2, 20], none)) _ ?_
    refine eCt ?_
    refine eS fun K9 hn9 hr9 he9 => ?_
    refine eO fun K10 hk10 => ?_
    refine tL F1 ?_
    refine hk10 _ ?_
    refine hn9 (some ([4], none)) _ ?_
    refine hr6 _ ?_
    exact sf1 F1
  have hK := shK era
  have kw := ok_l13world k0 k1 k2 h0 h1 h2
  have hW0 := (world_ok k0 k1 k2).1
  have hE0 := eraW_start k0 k1 k2
  have kp := ok_l13plan
  have ke := ok_layEra planL
  change Ok _ _ (sI eraP) at ke
  have hc : checkL planL = 0 := by unfold planL; decide
  have hf : fromL planL 7 ≤ 376 := by unfold planL; decide
  have kn := fun (w : WorldM era) (hp : w.m.mem.places.length = 376) => ok_eraAnnounced planL 0 (wordsM w.m) hc (by rw [words_len, hp]; exact hf)
  have hov : ∀ u, u < 3 → dnB (kOf k0 k1 k2) (fun i => beginE (kOf k0 k1 k2 i) i) u = false := fun u hu => by
    unfold dnB
    rw [(era_start (kOf k0 k1 k2 u) hu (fun _ => zWord)).2, Bool.and_false]
  have r0 : k0.tmod 3 = k0 % 3 := rem3 h0 rfl
  have r1 : k1.tmod 3 = k1 % 3 := rem3 h1 rfl
  have r2 : k2.tmod 3 = k2 % 3 := rem3 h2 rfl
  clear hf hc
  generalize (fun i => beginE (kOf k0 k1 k2 i) i) = s0 at hE0 hov
  generalize worldE k0 k1 k2 = W0 at kw hW0 hE0
  have eL : ∃ L, L = planL := ⟨_, rfl⟩
  obtain ⟨L, hL⟩ := eL
  have hann := fun {k : Nat → Int} {w : WorldM era} {s s' : Nat → EraV} (h : EraW k w s') h2 h3 {t : Nat} (ht : t < 3) => en_case (k := k) (w := w) (s := s) (s' := s') h h2 h3 ht
  have hAl0 := fun ws => ann_len ws
  rw [← hL] at kp ke kn hann hAl0
  clear hL
  unfold evFn sc_EraEnters rv_EraEnters
  have F1 := And.intro @hg @hK
  refine eS fun K1 hn1 hr1 he1 => ?_
  refine eO fun K2 hk2 => ?_
  refine tL F1 ?_
  refine hk2 _ ?_
  refine hn1 (some ([1, 2], none)) _ ?_
  refine eS fun K3 hn3 hr3 he3 => ?_
  refine eS fun K4 hn4 hr4 he4 => ?_
  refine eO fun K5 hk5 => ?_
  refine tS 1 F1 ?_
  refine Or.inl (Or.inl ⟨_, ka, ?_⟩)
  refine tL F1 ?_
  refine hk5 _ ?_
  refine hn4 (some ([1, 2, 17], none)) _ ?_
  refine eCf ?_
  refine hn3 (some ([1, 2], none)) _ ?_
  refine eS fun K6 hn6 hr6 he6 => ?_
  refine eS fun K7 hn7 hr7 he7 => ?_
  refine eO fun K8 hk8 => ?_
  refine tZ F1 ?_
  refine hk8 _ ?_
  refine hn7 (some ([1, 2, 20], none)) _ ?_
  refine eCf ?_
  refine hn6 (some ([1, 2], none)) _ ?_
  refine eS fun K9 hn9 hr9 he9 => ?_
  refine eO fun K10 hk10 => ?_
  refine tC 1 F1 ?_
  refine tS 1 F1 ?_
  refine Or.inl (Or.inl ⟨_, kw, ?_⟩)
  refine tC 5 F1 ?_
  refine tL F1 ?_
  refine hk10 _ ?_
  refine hn9 (some ([1, 2, 5, 6], none)) _ ?_
  refine eS fun K11 hn11 hr11 he11 => ?_
  refine eS fun K12 hn12 hr12 he12 => ?_
  refine eO fun K13 hk13 => ?_
  refine tL F1 ?_
  refine hk13 _ ?_
  refine hn12 (some ([1, 2, 5, 27], none)) _ ?_
  refine eCf ?_
  refine hn11 (some ([1, 2, 5], none)) _ ?_
  refine eS fun K14 hn14 hr14 he14 => ?_
  refine eO fun K15 hk15 => ?_
  refine tS 1 F1 ?_
  refine Or.inl (Or.inl ⟨_, kp, ?_⟩)
  refine tZ F1 ?_
  refine hk15 _ ?_
  refine hn14 (some ([1, 2, 5, 7], none)) _ ?_
  refine eS fun K16 hn16 hr16 he16 => ?_
  refine eO fun K17 hk17 => ?_
  refine tL F1 ?_
  refine hk17 _ ?_
  refine hn16 (some ([1, 2, 5, 7, 8], none)) _ ?_
  refine eS fun K18 hn18 hr18 he18 => ?_
  refine eS fun K19 hn19 hr19 he19 => ?_
  refine eO fun K20 hk20 => ?_
  refine tL F1 ?_
  refine hk20 _ ?_
  refine hn19 (some ([1, 2, 5, 7, 8, 9], none)) _ ?_
  refine eB fun K21 hn21 hx21 hr21 he21 => ?_
  refine eW (EnInv L k0 k1 k2 l) (l.length) (some ([1, 2, 5, 7, 8, 9], some ([0, 1, 2, 3], 4))) ([]) ?_ ?_
  · try refine lp0 ?_
    exact ⟨0, W0, s0, fun _ => false, by omega, hE0, hW0, fun u hu => (hov u hu).symm, by omega, rfl⟩
  · intro k S1 hI
    obtain ⟨i, w, s, B, hi, hE, hW, hB, rfl, rfl⟩ := hI
    have hcase : i = l.length ∨ (∃ p, l[i]? = some p ∧ p.kind = 2) ∨ (∃ p, l[i]? = some p ∧ p.kind ≠ 2) := by
      rcases Nat.lt_or_ge i l.length with h | h
      · by_cases hk : (l[i]).kind = 2
        · exact .inr (.inl ⟨_, List.getElem?_eq_getElem h, hk⟩)
        · exact .inr (.inr ⟨_, List.getElem?_eq_getElem h, hk⟩)
      · exact .inl (by omega)
    intro K22 hn22 hr22 he22
    rcases hcase with hcc | ⟨p, hp, hpk⟩ | ⟨p, hp, hpk⟩
    · skip
      have w2 : ¬ (i : Int) < (l.length : Int) := by omega
      have F2 := And.intro F1 @w2
      refine eS fun K23 hn23 hr23 he23 => ?_
      refine eS fun K24 hn24 hr24 he24 => ?_
      refine eO fun K25 hk25 => ?_
      refine tZ F2 ?_
      refine hk25 _ ?_
      refine hn24 (some ([1, 2, 5, 7, 8, 9, 32], none)) _ ?_
      refine eCf ?_
      refine he23 0 _ ?_
      refine he22 0 _ ?_
      refine hx21 _ ?_
      refine hn18 (some ([], none)) _ ?_
      refine eS fun K26 hn26 hr26 he26 => ?_
      refine eO fun K27 hk27 => ?_
      refine tL F2 ?_
      refine hk27 _ ?_
      refine hn26 (some ([4], none)) _ ?_
      exact sf1 F2
    · skip
      have hcc := (List.getElem?_eq_some_iff.1 hp).1
      have w2 : (i : Int) < (l.length : Int) := by omega
      have F3 := And.intro F1 (And.intro @w2 (And.intro @hp @hpk))
      refine eS fun K28 hn28 hr28 he28 => ?_
      refine eS fun K29 hn29 hr29 he29 => ?_
      refine eO fun K30 hk30 => ?_
      refine tZ F3 ?_
      refine hk30 _ ?_
      refine hn29 (some ([1, 2, 5, 7, 8, 9, 32], none)) _ ?_
      refine eCt ?_
      refine hn28 (some ([1, 2, 5, 7, 8, 9], none)) _ ?_
      refine eS fun K31 hn31 hr31 he31 => ?_
      refine eB fun K32 hn32 hx32 hr32 he32 => ?_
      refine eS fun K33 hn33 hr33 he33 => ?_
      refine eS fun K34 hn34 hr34 he34 => ?_
      refine eO fun K35 hk35 => ?_
      refine tC 3 F3 ?_
      refine tC 2 F3 ?_
      refine tZ F3 ?_
      refine hk35 _ ?_
      refine hn34 (some ([1, 2, 5, 7, 8, 9, 40], none)) _ ?_
      refine eCt ?_
      refine eS fun K36 hn36 hr36 he36 => ?_
      refine eO fun K37 hk37 => ?_
      refine tL F3 ?_
      refine hk37 _ ?_
      refine hn36 (some ([4], none)) _ ?_
      refine hr33 _ ?_
      refine hr32 _ ?_
      refine hr31 _ ?_
      refine hr22 _ ?_
      refine hr21 _ ?_
      refine hr18 _ ?_
      exact sf1 F3
    · skip
      have hcc := (List.getElem?_eq_some_iff.1 hp).1
      have w2 : (i : Int) < (l.length : Int) := by omega
      have w3 : IntKind.i64.wrap ((i : Int) + 1) = ((i + 1 : Nat) : Int) := by rw [IntKind.wrap_i64]; omega
      have w4 : (p.kind == 2) = false := by simpa using hpk
      have k3 := ok_kStep w p hW (by omega)
      obtain ⟨s', hE', hs1, hs2⟩ := eraW_step hE p hpk
      have hW' := stepOk hW p
      generalize (stepM w p).2 = bb at k3
      generalize (stepM w p).1 = w' at k3 hE' hs1 hW'
      have hT := fun {t : Nat} (ht : t < 3) => hann hE' hs1 hs2 ht
      have k5 := ok_cWord w'.m eraP hW'.mach.mem (by omega)
      have k6 := ok_cWords w'.m hW'.mach.mem (by omega)
      have k7 := kn w' hE'.places
      have hAl := hAl0 (wordsM w'.m)
      have htl : ∀ {t : Nat}, t < 3 → t < w'.tasks.length := fun {t} h => by rw [hE'.len]; exact h
      change Ok _ _ (.tup [.agg (eWord (Wd w'.m eraP)), _]) at k5
      generalize annM L (wordsM w'.m) = A at k7 hAl hT
      generalize Wd w'.m eraP = now at k5 hT hs1
      generalize decide (PlcB w'.m.mem eraP) = b5 at k5
      have w5 : (A.length : Int) = 3 := by omega
      have F4 := And.intro F1 (And.intro @w2 (And.intro @w3 (And.intro @hp (And.intro @w4 @w5))))
      refine eS fun K38 hn38 hr38 he38 => ?_
      refine eS fun K39 hn39 hr39 he39 => ?_
      refine eO fun K40 hk40 => ?_
      refine tZ F4 ?_
      refine hk40 _ ?_
      refine hn39 (some ([1, 2, 5, 7, 8, 9, 32], none)) _ ?_
      refine eCt ?_
      refine hn38 (some ([1, 2, 5, 7, 8, 9], none)) _ ?_
      refine eS fun K41 hn41 hr41 he41 => ?_
      refine eB fun K42 hn42 hx42 hr42 he42 => ?_
      refine eS fun K43 hn43 hr43 he43 => ?_
      refine eS fun K44 hn44 hr44 he44 => ?_
      refine eO fun K45 hk45 => ?_
      refine tC 3 F4 ?_
      refine tC 2 F4 ?_
      refine tZ F4 ?_
      refine hk45 _ ?_
      refine hn44 (some ([1, 2, 5, 7, 8, 9, 40], none)) _ ?_
      refine eCf ?_
      refine hn43 (some ([1, 2, 5, 7, 8, 9], none)) _ ?_
      refine eS fun K46 hn46 hr46 he46 => ?_
      refine eD [] (n := 9) fun K47 hk47 => ?_
      refine sq0 ?_
      refine fC 1 F4 ?_
      refine fC 3 F4 ?_
      refine fC 1 F4 ?_
      refine fS 1 F4 ?_
      refine ⟨_, k3, ?_⟩
      refine fL F4 ?_
      refine hk47 _ ?_
      refine sr0 ?_
      refine tZ F4 ?_
      refine hn46 (some ([1, 2, 5, 7, 8, 9], none)) _ ?_
      refine eS fun K49 hn49 hr49 he49 => ?_
      refine eD [] (n := 9) fun K50 hk50 => ?_
      refine sq0 ?_
      refine fC 2 F4 ?_
      refine fC 1 F4 ?_
      refine fS 1 F4 ?_
      refine ⟨_, ke, ?_⟩
      refine fS 1 F4 ?_
      refine ⟨_, k5, ?_⟩
      refine fL F4 ?_
      refine hk50 _ ?_
      refine sr0 ?_
      refine tC 1 F4 ?_
      refine tL F4 ?_
      refine hn49 (some ([1, 2, 5, 7, 8, 9, 10], none)) _ ?_
      refine eS fun K52 hn52 hr52 he52 => ?_
      refine eD [] (n := 4) fun K53 hk53 => ?_
      refine sq0 ?_
      refine fC 1 F4 ?_
      refine fC 2 F4 ?_
      refine fL F4 ?_
      refine ⟨_, k6, ?_⟩
      refine hk53 _ ?_
      refine sr0 ?_
      refine tS 1 F4 ?_
      refine Or.inl (Or.inl ⟨_, k7, ?_⟩)
      refine tL F4 ?_
      refine hn52 (some ([1, 2, 5, 7, 8, 9, 10, 12], none)) _ ?_
      refine eS fun K55 hn55 hr55 he55 => ?_
      refine eS fun K56 hn56 hr56 he56 => ?_
      refine eO fun K57 hk57 => ?_
      refine tZ F4 ?_
      refine hk57 _ ?_
      refine hn56 (some ([1, 2, 5, 7, 8, 9, 10, 12, 65], none)) _ ?_
      refine eCf ?_
      refine hn55 (some ([1, 2, 5, 7, 8, 9, 10, 12], none)) _ ?_
      refine eS fun K58 hn58 hr58 he58 => ?_
      refine eO fun K59 hk59 => ?_
      refine tL F4 ?_
      refine hk59 _ ?_
      refine hn58 (some ([1, 2, 5, 7, 8, 9, 10, 12, 13], none)) _ ?_
      refine eB fun K60 hn60 hx60 hr60 he60 => ?_
      refine eW (En2Inv L k0 k1 k2 l i w' now A s s') (3) (some ([1, 2, 5, 7, 8, 9, 10, 12, 13], some ([0, 1, 2, 3, 4], 5))) ([]) ?_ ?_
      · try refine lp0 ?_
        exact ⟨0, B, by omega, fun u hu => (hB u hu).trans (if_neg (by omega)).symm, by omega, by rfl⟩
      · intro k S1 hI
        obtain ⟨t, B2, ht, hB2, rfl, rfl⟩ := hI
        have hcas2 : t = 3 ∨ (t = 0 ∧ k0 % 3 ≠ 0 ∧ dnB (kOf k0 k1 k2) s' 0 = dnB (kOf k0 k1 k2) s 0) ∨ (∃ y, t = 0 ∧ w'.tasks[0]? = some y ∧ k0 % 3 = 0 ∧ y.live = true ∧ dnB (kOf k0 k1 k2) s' 0 = dnB (kOf k0 k1 k2) s 0) ∨ (∃ (y : TaskM era) (v : EraV), t = 0 ∧ w'.tasks[0]? = some y ∧ k0 % 3 = 0 ∧ y.live = false ∧ y.code = some v ∧ v.over = true ∧ dnB (kOf k0 k1 k2) s' 0 = true ∧ A[0]? = some v.time ∧ v.time ≤ now.val ∧ dnB (kOf k0 k1 k2) s 0 = true) ∨ (∃ (y : TaskM era) (v : EraV), t = 0 ∧ w'.tasks[0]? = some y ∧ k0 % 3 = 0 ∧ y.live = false ∧ y.code = some v ∧ v.over = true ∧ dnB (kOf k0 k1 k2) s' 0 = true ∧ A[0]? = some v.time ∧ v.time ≤ now.val ∧ dnB (kOf k0 k1 k2) s 0 = false ∧ now.val = v.time) ∨ (t = 1 ∧ k1 % 3 ≠ 0 ∧ dnB (kOf k0 k1 k2) s' 1 = dnB (kOf k0 k1 k2) s 1) ∨ (∃ y, t = 1 ∧ w'.tasks[1]? = some y ∧ k1 % 3 = 0 ∧ y.live = true ∧ dnB (kOf k0 k1 k2) s' 1 = dnB (kOf k0 k1 k2) s 1) ∨ (∃ (y : TaskM era) (v : EraV), t = 1 ∧ w'.tasks[1]? = some y ∧ k1 % 3 = 0 ∧ y.live = false ∧ y.code = some v ∧ v.over = true ∧ dnB (kOf k0 k1 k2) s' 1 = true ∧ A[1]? = some v.time ∧ v.time ≤ now.val ∧ dnB (kOf k0 k1 k2) s 1 = true) ∨ (∃ (y : TaskM era) (v : EraV), t = 1 ∧ w'.tasks[1]? = some y ∧ k1 % 3 = 0 ∧ y.live = false ∧ y.code = some v ∧ v.over = true ∧ dnB (kOf k0 k1 k2) s' 1 = true ∧ A[1]? = some v.time ∧ v.time ≤ now.val ∧ dnB (kOf k0 k1 k2) s 1 = false ∧ now.val = v.time) ∨ (t = 2 ∧ k2 % 3 ≠ 0 ∧ dnB (kOf k0 k1 k2) s' 2 = dnB (kOf k0 k1 k2) s 2) ∨ (∃ y, t = 2 ∧ w'.tasks[2]? = some y ∧ k2 % 3 = 0 ∧ y.live = true ∧ dnB (kOf k0 k1 k2) s' 2 = dnB (kOf k0 k1 k2) s 2) ∨ (∃ (y : TaskM era) (v : EraV), t = 2 ∧ w'.tasks[2]? = some y ∧ k2 % 3 = 0 ∧ y.live = false ∧ y.code = some v ∧ v.over = true ∧ dnB (kOf k0 k1 k2) s' 2 = true ∧ A[2]? = some v.time ∧ v.time ≤ now.val ∧ dnB (kOf k0 k1 k2) s 2 = true) ∨ (∃ (y : TaskM era) (v : EraV), t = 2 ∧ w'.tasks[2]? = some y ∧ k2 % 3 = 0 ∧ y.live = false ∧ y.code = some v ∧ v.over = true ∧ dnB (kOf k0 k1 k2) s' 2 = true ∧ A[2]? = some v.time ∧ v.time ≤ now.val ∧ dnB (kOf k0 k1 k2) s 2 = false ∧ now.val = v.time) := by
          have h9 : t = 3 ∨ t = 0 ∨ t = 1 ∨ t = 2 := by omega
          rcases h9 with rfl | rfl | rfl | rfl
          · exact .inl rfl
          · obtain ⟨y, hy, hh⟩ := hT (t := 0) (by decide)
            rcases hh with ⟨a1, a2⟩ | ⟨a1, a2, a3⟩ | ⟨a1, a2, a3, a4, a5, a6, a7, a8⟩
            · exact .inr (.inl ⟨rfl, a1, a2⟩)
            · exact .inr (.inr (.inl ⟨y, rfl, hy, a1, a2, a3⟩))
            · rcases a8 with a8 | ⟨a8, a9⟩
              · exact .inr (.inr (.inr (.inl ⟨y, _, rfl, hy, a1, a2, a3, a4, a5, a6, a7, a8⟩)))
              · exact .inr (.inr (.inr (.inr (.inl ⟨y, _, rfl, hy, a1, a2, a3, a4, a5, a6, a7, a8, a9⟩))))
          · obtain ⟨y, hy, hh⟩ := hT (t := 1) (by decide)
            rcases hh with ⟨a1, a2⟩ | ⟨a1, a2, a3⟩ | ⟨a1, a2, a3, a4, a5, a6, a7, a8⟩
            · exact .inr (.inr (.inr (.inr (.inr (.inl ⟨rfl, a1, a2⟩)))))
            · exact .inr (.inr (.inr (.inr (.inr (.inr (.inl ⟨y, rfl, hy, a1, a2, a3⟩))))))
            · rcases a8 with a8 | ⟨a8, a9⟩
              · exact .inr (.inr (.inr (.inr (.inr (.inr (.inr (.inl ⟨y, _, rfl, hy, a1, a2, a3, a4, a5, a6, a7, a8⟩)))))))
              · exact .inr (.inr (.inr (.inr (.inr (.inr (.inr (.inr (.inl ⟨y, _, rfl, hy, a1, a2, a3, a4, a5, a6, a7, a8, a9⟩))))))))
          · obtain ⟨y, hy, hh⟩ := hT (t := 2) (by decide)
            rcases hh with ⟨a1, a2⟩ | ⟨a1, a2, a3⟩ | ⟨a1, a2, a3, a4, a5, a6, a7, a8⟩
            · exact .inr (.inr (.inr (.inr (.inr (.inr (.inr (.inr (.inr (.inl ⟨rfl, a1, a2⟩)))))))))
            · exact .inr (.inr (.inr (.inr (.inr (.inr (.inr (.inr (.inr (.inr (.inl ⟨y, rfl, hy, a1, a2, a3⟩))))))))))
            · rcases a8 with a8 | ⟨a8, a9⟩
              · exact .inr (.inr (.inr (.inr (.inr (.inr (.inr (.inr (.inr (.inr (.inr (.inl ⟨y, _, rfl, hy, a1, a2, a3, a4, a5, a6, a7, a8⟩)))))))))))
              · exact .inr (.inr (.inr (.inr (.inr (.inr (.inr (.inr (.inr (.inr (.inr (.inr (⟨y, _, rfl, hy, a1, a2, a3, a4, a5, a6, a7, a8, a9⟩))))))))))))
        intro K61 hn61 hr61 he61
        rcases hcas2 with rfl | ⟨rfl, hq, hd⟩ | ⟨y, rfl, hy, hq, hyl, hd⟩ | ⟨y, v, rfl, hy, hq, hyl, hyc, hvo, hd, hA, hle, hB0⟩ | ⟨y, v, rfl, hy, hq, hyl, hyc, hvo, hd, hA, hle, hB0, hnow⟩ | ⟨rfl, hq, hd⟩ | ⟨y, rfl, hy, hq, hyl, hd⟩ | ⟨y, v, rfl, hy, hq, hyl, hyc, hvo, hd, hA, hle, hB0⟩ | ⟨y, v, rfl, hy, hq, hyl, hyc, hvo, hd, hA, hle, hB0, hnow⟩ | ⟨rfl, hq, hd⟩ | ⟨y, rfl, hy, hq, hyl, hd⟩ | ⟨y, v, rfl, hy, hq, hyl, hyc, hvo, hd, hA, hle, hB0⟩ | ⟨y, v, rfl, hy, hq, hyl, hyc, hvo, hd, hA, hle, hB0, hnow⟩
        · skip
          have F5 := And.intro F4 @w5
          refine eS fun K62 hn62 hr62 he62 => ?_
          refine eS fun K63 hn63 hr63 he63 => ?_
          refine eO fun K64 hk64 => ?_
          refine tZ F5 ?_
          refine hk64 _ ?_
          refine hn63 (some ([1, 2, 5, 7, 8, 9, 10, 12, 13, 67], none)) _ ?_
          refine eCf ?_
          refine he62 2 _ ?_
          refine he61 2 _ ?_
          refine hx60 _ ?_
          refine hn42 _ ?_
          refine hn41 (some ([1, 2, 5, 7, 8, 9], none)) _ ?_
          refine eO fun K65 hk65 => ?_
          refine tC 2 F5 ?_
          refine tL F5 ?_
          refine hk65 _ ?_
          refine hn22 (l.length - (i + 1)) (some ([1, 2, 5, 7, 8, 9], some ([0, 1, 2, 3], 4))) _ ?_ ?_
          all_goals try refine lp0 ?_
          · omega
          · exact ⟨i + 1, w', s', B2, by omega, hE', by have e9 : 2 + (i + 1) = 2 + i + 1 := rfl; rw [e9]; exact hW', fun u hu => (hB2 u hu).trans (if_pos hu), by omega, rfl⟩
        · skip
          have w6 : IntKind.i64.wrap (((0 : Nat) : Int) + 1) = ((1 : Nat) : Int) := by decide
          have w7 : 0 < w'.tasks.length := htl (by decide)
          have w8 : (0 : Int) < (w'.tasks.length : Int) := by omega
          have d1 : (k0 % 3 != 0) = true := by simpa using hq
          have F6 := And.intro F4 (And.intro @w5 (And.intro @w6 (And.intro @r0 @d1)))
          refine eS fun K66 hn66 hr66 he66 => ?_
          refine eS fun K67 hn67 hr67 he67 => ?_
          refine eO fun K68 hk68 => ?_
          refine tZ F6 ?_
          refine hk68 _ ?_
          refine hn67 (some ([1, 2, 5, 7, 8, 9, 10, 12, 13, 67], none)) _ ?_
          refine eCt ?_
          refine hn66 (some ([1, 2, 5, 7, 8, 9, 10, 12, 13], none)) _ ?_
          refine eS fun K69 hn69 hr69 he69 => ?_
          refine eB fun K70 hn70 hx70 hr70 he70 => ?_
          refine eS fun K71 hn71 hr71 he71 => ?_
          refine eS fun K72 hn72 hr72 he72 => ?_
          refine eO fun K73 hk73 => ?_
          refine tC 2 F6 ?_
          refine tC 1 F6 ?_
          refine tC 1 F6 ?_
          refine tC 1 F6 ?_
          refine tC 3 F6 ?_
          refine tC 2 F6 ?_
          refine tC 1 F6 ?_
          refine tS 1 F6 ?_
          skip
          refine tL F6 ?_
          refine hk73 _ ?_
          refine hn72 (some ([1, 2, 5, 7, 8, 9, 10, 12, 13, 83], none)) _ ?_
          refine eCt ?_
          refine he71 3 _ ?_
          refine hx70 _ ?_
          refine hn69 (some ([1, 2, 5, 7, 8, 9, 10, 12, 13], none)) _ ?_
          refine eO fun K74 hk74 => ?_
          refine tC 2 F6 ?_
          refine tL F6 ?_
          refine hk74 _ ?_
          refine hn61 (3 - (0 + 1)) (some ([1, 2, 5, 7, 8, 9, 10, 12, 13], some ([0, 1, 2, 3, 4], 5))) _ ?_ ?_
          all_goals try refine lp0 ?_
          · omega
          · exact ⟨0 + 1, B2, by omega, en_nx hB2 ((hB2 0 (by decide)).trans ((if_neg (by decide)).trans hd.symm)) (fun _ _ => rfl), by omega, by rfl⟩
        · skip
          have w6 : IntKind.i64.wrap (((0 : Nat) : Int) + 1) = ((1 : Nat) : Int) := by decide
          have w7 : 0 < w'.tasks.length := htl (by decide)
          have w8 : (0 : Int) < (w'.tasks.length : Int) := by omega
          have d1 : (k0 % 3 != 0) = false := by simpa using hq
          have k8 := ok_kDone y
          rw [hyl] at k8
          have F7 := And.intro F4 (And.intro @w5 (And.intro @w6 (And.intro @r0 (And.intro @d1 (And.intro @hy (And.intro @w7 @w8))))))
          refine eS fun K75 hn75 hr75 he75 => ?_
          refine eS fun K76 hn76 hr76 he76 => ?_
          refine eO fun K77 hk77 => ?_
          refine tZ F7 ?_
          refine hk77 _ ?_
          refine hn76 (some ([1, 2, 5, 7, 8, 9, 10, 12, 13, 67], none)) _ ?_
          refine eCt ?_
          refine hn75 (some ([1, 2, 5, 7, 8, 9, 10, 12, 13], none)) _ ?_
          refine eS fun K78 hn78 hr78 he78 => ?_
          refine eB fun K79 hn79 hx79 hr79 he79 => ?_
          refine eS fun K80 hn80 hr80 he80 => ?_
          refine eS fun K81 hn81 hr81 he81 => ?_
          refine eO fun K82 hk82 => ?_
          refine tC 2 F7 ?_
          refine tC 1 F7 ?_
          refine tC 1 F7 ?_
          refine tC 1 F7 ?_
          refine tC 3 F7 ?_
          refine tC 2 F7 ?_
          refine tC 1 F7 ?_
          refine tS 1 F7 ?_
          refine Or.inl (Or.inl ⟨_, k8, ?_⟩)
          refine tL F7 ?_
          refine hk82 _ ?_
          refine hn81 (some ([1, 2, 5, 7, 8, 9, 10, 12, 13, 83], none)) _ ?_
          refine eCt ?_
          refine he80 3 _ ?_
          refine hx79 _ ?_
          refine hn78 (some ([1, 2, 5, 7, 8, 9, 10, 12, 13], none)) _ ?_
          refine eO fun K83 hk83 => ?_
          refine tC 2 F7 ?_
          refine tL F7 ?_
          refine hk83 _ ?_
          refine hn61 (3 - (0 + 1)) (some ([1, 2, 5, 7, 8, 9, 10, 12, 13], some ([0, 1, 2, 3, 4], 5))) _ ?_ ?_
          all_goals try refine lp0 ?_
          · omega
          · exact ⟨0 + 1, B2, by omega, en_nx hB2 ((hB2 0 (by decide)).trans ((if_neg (by decide)).trans hd.symm)) (fun _ _ => rfl), by omega, by rfl⟩
        · skip
          have w6 : IntKind.i64.wrap (((0 : Nat) : Int) + 1) = ((1 : Nat) : Int) := by decide
          have w7 : 0 < w'.tasks.length := htl (by decide)
          have w8 : (0 : Int) < (w'.tasks.length : Int) := by omega
          have d1 : (k0 % 3 != 0) = false := by simpa using hq
          have k8 := ok_kDone y
          rw [hyl] at k8
          have hb9 : B2 0 = true := (hB2 0 (by decide)).trans ((if_neg (by decide)).trans hB0)
          have k9 := ok_kCode y
          rw [hyc] at k9
          change Ok _ _ (.ifc 148 (.agg (cEra v))) at k9
          have k10 := ok_eraEra v
          rw [if_pos hvo, hvo] at k10
          have q1 : ¬ now.val < v.time := by omega
          have q2 : (v.time != v.time) = false := by simp
          have F8 := And.intro F4 (And.intro @w5 (And.intro @w6 (And.intro @r0 (And.intro @d1 (And.intro @hy (And.intro @w7 (And.intro @w8 (And.intro @hb9 (And.intro @hA (And.intro @q1 @q2))))))))))
          refine eS fun K84 hn84 hr84 he84 => ?_
          refine eS fun K85 hn85 hr85 he85 => ?_
          refine eO fun K86 hk86 => ?_
          refine tZ F8 ?_
          refine hk86 _ ?_
          refine hn85 (some ([1, 2, 5, 7, 8, 9, 10, 12, 13, 67], none)) _ ?_
          refine eCt ?_
          refine hn84 (some ([1, 2, 5, 7, 8, 9, 10, 12, 13], none)) _ ?_
          refine eS fun K87 hn87 hr87 he87 => ?_
          refine eB fun K88 hn88 hx88 hr88 he88 => ?_
          refine eS fun K89 hn89 hr89 he89 => ?_
          refine eS fun K90 hn90 hr90 he90 => ?_
          refine eO fun K91 hk91 => ?_
          refine tC 2 F8 ?_
          refine tC 1 F8 ?_
          refine tC 1 F8 ?_
          refine tC 1 F8 ?_
          refine tC 3 F8 ?_
          refine tC 2 F8 ?_
          refine tC 1 F8 ?_
          refine tS 1 F8 ?_
          refine Or.inl (Or.inl ⟨_, k8, ?_⟩)
          refine tL F8 ?_
          refine hk91 _ ?_
          refine hn90 (some ([1, 2, 5, 7, 8, 9, 10, 12, 13, 83], none)) _ ?_
          refine eCf ?_
          refine hn89 (some ([1, 2, 5, 7, 8, 9, 10, 12, 13], none)) _ ?_
          refine eS fun K92 hn92 hr92 he92 => ?_
          refine eO fun K93 hk93 => ?_
          refine tC 2 F8 ?_
          refine tC 2 F8 ?_
          refine tC 1 F8 ?_
          refine tS 1 F8 ?_
          refine Or.inl (Or.inl ⟨_, k9, ?_⟩)
          refine tS 1 F8 ?_
          refine Or.inl (Or.inl ⟨_, k10, ?_⟩)
          refine tL F8 ?_
          refine hk93 _ ?_
          refine hn92 (some ([1, 2, 5, 7, 8, 9, 10, 12, 13, 14, 15], none)) _ ?_
          refine eS fun K94 hn94 hr94 he94 => ?_
          refine eS fun K95 hn95 hr95 he95 => ?_
          refine eO fun K96 hk96 => ?_
          refine tC 6 F8 ?_
          refine tC 1 F8 ?_
          refine tC 2 F8 ?_
          refine tC 4 F8 ?_
          refine tC 1 F8 ?_
          refine tC 4 F8 ?_
          refine tC 2 F8 ?_
          refine tC 5 F8 ?_
          refine tC 2 F8 ?_
          refine tL F8 ?_
          refine hk96 _ ?_
          refine hn95 (some ([1, 2, 5, 7, 8, 9, 10, 12, 13, 121], none)) _ ?_
          refine eCf ?_
          refine hn94 (some ([1, 2, 5, 7, 8, 9, 10, 12, 13], none)) _ ?_
          refine eO fun K97 hk97 => ?_
          refine tC 2 F8 ?_
          refine tZ F8 ?_
          refine hk97 _ ?_
          refine hn88 _ ?_
          refine hn87 (some ([1, 2, 5, 7, 8, 9, 10, 12, 13], none)) _ ?_
          refine eO fun K98 hk98 => ?_
          refine tC 2 F8 ?_
          refine tL F8 ?_
          refine hk98 _ ?_
          refine hn61 (3 - (0 + 1)) (some ([1, 2, 5, 7, 8, 9, 10, 12, 13], some ([0, 1, 2, 3, 4], 5))) _ ?_ ?_
          all_goals try refine lp0 ?_
          · omega
          · exact ⟨0 + 1, fun u => if u = 0 then true else B2 u, by omega, en_nx hB2 ((if_pos rfl).trans hd.symm) (fun u hu => if_neg hu), by omega, by rfl⟩
        · skip
          have w6 : IntKind.i64.wrap (((0 : Nat) : Int) + 1) = ((1 : Nat) : Int) := by decide
          have w7 : 0 < w'.tasks.length := htl (by decide)
          have w8 : (0 : Int) < (w'.tasks.length : Int) := by omega
          have d1 : (k0 % 3 != 0) = false := by simpa using hq
          have k8 := ok_kDone y
          rw [hyl] at k8
          have hb9 : B2 0 = false := (hB2 0 (by decide)).trans ((if_neg (by decide)).trans hB0)
          have k9 := ok_kCode y
          rw [hyc] at k9
          change Ok _ _ (.ifc 148 (.agg (cEra v))) at k9
          have k10 := ok_eraEra v
          rw [if_pos hvo, hvo] at k10
          have q1 : ¬ now.val < v.time := by omega
          have q2 : (v.time != v.time) = false := by simp
          have q3 : (now.val != v.time) = false := by simpa using hnow
          have F9 := And.intro F4 (And.intro @w5 (And.intro @w6 (And.intro @r0 (And.intro @d1 (And.intro @hy (And.intro @w7 (And.intro @w8 (And.intro @hb9 (And.intro @hA (And.intro @q1 (And.intro @q2 @q3)))))))))))
          refine eS fun K99 hn99 hr99 he99 => ?_
          refine eS fun K100 hn100 hr100 he100 => ?_
          refine eO fun K101 hk101 => ?_
          refine tZ F9 ?_
          refine hk101 _ ?_
          refine hn100 (some ([1, 2, 5, 7, 8, 9, 10, 12, 13, 67], none)) _ ?_
          refine eCt ?_
          refine hn99 (some ([1, 2, 5, 7, 8, 9, 10, 12, 13], none)) _ ?_
          refine eS fun K102 hn102 hr102 he102 => ?_
          refine eB fun K103 hn103 hx103 hr103 he103 => ?_
          refine eS fun K104 hn104 hr104 he104 => ?_
          refine eS fun K105 hn105 hr105 he105 => ?_
          refine eO fun K106 hk106 => ?_
          refine tC 2 F9 ?_
          refine tC 1 F9 ?_
          refine tC 1 F9 ?_
          refine tC 1 F9 ?_
          refine tC 3 F9 ?_
          refine tC 2 F9 ?_
          refine tC 1 F9 ?_
          refine tS 1 F9 ?_
          refine Or.inl (Or.inl ⟨_, k8, ?_⟩)
          refine tL F9 ?_
          refine hk106 _ ?_
          refine hn105 (some ([1, 2, 5, 7, 8, 9, 10, 12, 13, 83], none)) _ ?_
          refine eCf ?_
          refine hn104 (some ([1, 2, 5, 7, 8, 9, 10, 12, 13], none)) _ ?_
          refine eS fun K107 hn107 hr107 he107 => ?_
          refine eO fun K108 hk108 => ?_
          refine tC 2 F9 ?_
          refine tC 2 F9 ?_
          refine tC 1 F9 ?_
          refine tS 1 F9 ?_
          refine Or.inl (Or.inl ⟨_, k9, ?_⟩)
          refine tS 1 F9 ?_
          refine Or.inl (Or.inl ⟨_, k10, ?_⟩)
          refine tL F9 ?_
          refine hk108 _ ?_
          refine hn107 (some ([1, 2, 5, 7, 8, 9, 10, 12, 13, 14, 15], none)) _ ?_
          refine eS fun K109 hn109 hr109 he109 => ?_
          refine eS fun K110 hn110 hr110 he110 => ?_
          refine eO fun K111 hk111 => ?_
          refine tC 6 F9 ?_
          refine tC 1 F9 ?_
          refine tC 2 F9 ?_
          refine tC 4 F9 ?_
          refine tC 1 F9 ?_
          refine tC 4 F9 ?_
          refine tC 2 F9 ?_
          refine tC 5 F9 ?_
          refine tC 2 F9 ?_
          refine tL F9 ?_
          refine hk111 _ ?_
          refine hn110 (some ([1, 2, 5, 7, 8, 9, 10, 12, 13, 121], none)) _ ?_
          refine eCf ?_
          refine hn109 (some ([1, 2, 5, 7, 8, 9, 10, 12, 13], none)) _ ?_
          refine eO fun K112 hk112 => ?_
          refine tC 2 F9 ?_
          refine tZ F9 ?_
          refine hk112 _ ?_
          refine hn103 _ ?_
          refine hn102 (some ([1, 2, 5, 7, 8, 9, 10, 12, 13], none)) _ ?_
          refine eO fun K113 hk113 => ?_
          refine tC 2 F9 ?_
          refine tL F9 ?_
          refine hk113 _ ?_
          refine hn61 (3 - (0 + 1)) (some ([1, 2, 5, 7, 8, 9, 10, 12, 13], some ([0, 1, 2, 3, 4], 5))) _ ?_ ?_
          all_goals try refine lp0 ?_
          · omega
          · exact ⟨0 + 1, fun u => if u = 0 then true else B2 u, by omega, en_nx hB2 ((if_pos rfl).trans hd.symm) (fun u hu => if_neg hu), by omega, by rfl⟩
        · skip
          have w6 : IntKind.i64.wrap (((1 : Nat) : Int) + 1) = ((2 : Nat) : Int) := by decide
          have w7 : 1 < w'.tasks.length := htl (by decide)
          have w8 : (1 : Int) < (w'.tasks.length : Int) := by omega
          have d1 : (k1 % 3 != 0) = true := by simpa using hq
          have F10 := And.intro F4 (And.intro @w5 (And.intro @w6 (And.intro @r1 @d1)))
          refine eS fun K114 hn114 hr114 he114 => ?_
          refine eS fun K115 hn115 hr115 he115 => ?_
          refine eO fun K116 hk116 => ?_
          refine tZ F10 ?_
          refine hk116 _ ?_
          refine hn115 (some ([1, 2, 5, 7, 8, 9, 10, 12, 13, 67], none)) _ ?_
          refine eCt ?_
          refine hn114 (some ([1, 2, 5, 7, 8, 9, 10, 12, 13], none)) _ ?_
          refine eS fun K117 hn117 hr117 he117 => ?_
          refine eB fun K118 hn118 hx118 hr118 he118 => ?_
          refine eS fun K119 hn119 hr119 he119 => ?_
          refine eS fun K120 hn120 hr120 he120 => ?_
          refine eO fun K121 hk121 => ?_
          refine tC 2 F10 ?_
          refine tC 1 F10 ?_
          refine tC 1 F10 ?_
          refine tC 1 F10 ?_
          refine tC 3 F10 ?_
          refine tC 2 F10 ?_
          refine tC 1 F10 ?_
          refine tS 1 F10 ?_
          skip
          refine tL F10 ?_
          refine hk121 _ ?_
          refine hn120 (some ([1, 2, 5, 7, 8, 9, 10, 12, 13, 83], none)) _ ?_
          refine eCt ?_
          refine he119 3 _ ?_
          refine hx118 _ ?_
          refine hn117 (some ([1, 2, 5, 7, 8, 9, 10, 12, 13], none)) _ ?_
          refine eO fun K122 hk122 => ?_
          refine tC 2 F10 ?_
          refine tL F10 ?_
          refine hk122 _ ?_
          refine hn61 (3 - (1 + 1)) (some ([1, 2, 5, 7, 8, 9, 10, 12, 13], some ([0, 1, 2, 3, 4], 5))) _ ?_ ?_
          all_goals try refine lp0 ?_
          · omega
          · exact ⟨1 + 1, B2, by omega, en_nx hB2 ((hB2 1 (by decide)).trans ((if_neg (by decide)).trans hd.symm)) (fun _ _ => rfl), by omega, by rfl⟩
        · skip
          have w6 : IntKind.i64.wrap (((1 : Nat) : Int) + 1) = ((2 : Nat) : Int) := by decide
          have w7 : 1 < w'.tasks.length := htl (by decide)
          have w8 : (1 : Int) < (w'.tasks.length : Int) := by omega
          have d1 : (k1 % 3 != 0) = false := by simpa using hq
          have k8 := ok_kDone y
          rw [hyl] at k8
          have F11 := And.intro F4 (And.intro @w5 (And.intro @w6 (And.intro @r1 (And.intro @d1 (And.intro @hy (And.intro @w7 @w8))))))
          refine eS fun K123 hn123 hr123 he123 => ?_
          refine eS fun K124 hn124 hr124 he124 => ?_
          refine eO fun K125 hk125 => ?_
          refine tZ F11 ?_
          refine hk125 _ ?_
          refine hn124 (some ([1, 2, 5, 7, 8, 9, 10, 12, 13, 67], none)) _ ?_
          refine eCt ?_
          refine hn123 (some ([1, 2, 5, 7, 8, 9, 10, 12, 13], none)) _ ?_
          refine eS fun K126 hn126 hr126 he126 => ?_
          refine eB fun K127 hn127 hx127 hr127 he127 => ?_
          refine eS fun K128 hn128 hr128 he128 => ?_
          refine eS fun K129 hn129 hr129 he129 => ?_
          refine eO fun K130 hk130 => ?_
          refine tC 2 F11 ?_
          refine tC 1 F11 ?_
          refine tC 1 F11 ?_
          refine tC 1 F11 ?_
          refine tC 3 F11 ?_
          refine tC 2 F11 ?_
          refine tC 1 F11 ?_
          refine tS 1 F11 ?_
          refine Or.inl (Or.inl ⟨_, k8, ?_⟩)
          refine tL F11 ?_
          refine hk130 _ ?_
          refine hn129 (some ([1, 2, 5, 7, 8, 9, 10, 12, 13, 83], none)) _ ?_
          refine eCt ?_
          refine he128 3 _ ?_
          refine hx127 _ ?_
          refine hn126 (some ([1, 2, 5, 7, 8, 9, 10, 12, 13], none)) _ ?_
          refine eO fun K131 hk131 => ?_
          refine tC 2 F11 ?_
          refine tL F11 ?_
          refine hk131 _ ?_
          refine hn61 (3 - (1 + 1)) (some ([1, 2, 5, 7, 8, 9, 10, 12, 13], some ([0, 1, 2, 3, 4], 5))) _ ?_ ?_
          all_goals try refine lp0 ?_
          · omega
          · exact ⟨1 + 1, B2, by omega, en_nx hB2 ((hB2 1 (by decide)).trans ((if_neg (by decide)).trans hd.symm)) (fun _ _ => rfl), by omega, by rfl⟩
        · skip
          have w6 : IntKind.i64.wrap (((1 : Nat) : Int) + 1) = ((2 : Nat) : Int) := by decide
          have w7 : 1 < w'.tasks.length := htl (by decide)
          have w8 : (1 : Int) < (w'.tasks.length : Int) := by omega
          have d1 : (k1 % 3 != 0) = false := by simpa using hq
          have k8 := ok_kDone y
          rw [hyl] at k8
          have hb9 : B2 1 = true := (hB2 1 (by decide)).trans ((if_neg (by decide)).trans hB0)
          have k9 := ok_kCode y
          rw [hyc] at k9
          change Ok _ _ (.ifc 148 (.agg (cEra v))) at k9
          have k10 := ok_eraEra v
          rw [if_pos hvo, hvo] at k10
          have q1 : ¬ now.val < v.time := by omega
          have q2 : (v.time != v.time) = false := by simp
          have F12 := And.intro F4 (And.intro @w5 (And.intro @w6 (And.intro @r1 (And.intro @d1 (And.intro @hy (And.intro @w7 (And.intro @w8 (And.intro @hb9 (And.intro @hA (And.intro @q1 @q2))))))))))
          refine eS fun K132 hn132 hr132 he132 => ?_
          refine eS fun K133 hn133 hr133 he133 => ?_
          refine eO fun K134 hk134 => ?_
          refine tZ F12 ?_
          refine hk134 _ ?_
          refine hn133 (some ([1, 2, 5, 7, 8, 9, 10, 12, 13, 67], none)) _ ?_
          refine eCt ?_
          refine hn132 (some ([1, 2, 5, 7, 8, 9, 10, 12, 13], none)) _ ?_
          refine eS fun K135 hn135 hr135 he135 => ?_
          refine eB fun K136 hn136 hx136 hr136 he136 => ?_
          refine eS fun K137 hn137 hr137 he137 => ?_
          refine eS fun K138 hn138 hr138 he138 => ?_
          refine eO fun K139 hk139 => ?_
          refine tC 2 F12 ?_
          refine tC 1 F12 ?_
          refine tC 1 F12 ?_
          refine tC 1 F12 ?_
          refine tC 3 F12 ?_
          refine tC 2 F12 ?_
          refine tC 1 F12 ?_
          refine tS 1 F12 ?_
          refine Or.inl (Or.inl ⟨_, k8, ?_⟩)
          refine tL F12 ?_
          refine hk139 _ ?_
          refine hn138 (some ([1, 2, 5, 7, 8, 9, 10, 12, 13, 83], none)) _ ?_
          refine eCf ?_
          refine hn137 (some ([1, 2, 5, 7, 8, 9, 10, 12, 13], none)) _ ?_
          refine eS fun K140 hn140 hr140 he140 => ?_
          refine eO fun K141 hk141 => ?_
          refine tC 2 F12 ?_
          refine tC 2 F12 ?_
          refine tC 1 F12 ?_
          refine tS 1 F12 ?_
          refine Or.inl (Or.inl ⟨_, k9, ?_⟩)
          refine tS 1 F12 ?_
          refine Or.inl (Or.inl ⟨_, k10, ?_⟩)
          refine tL F12 ?_
          refine hk141 _ ?_
          refine hn140 (some ([1, 2, 5, 7, 8, 9, 10, 12, 13, 14, 15], none)) _ ?_
          refine eS fun K142 hn142 hr142 he142 => ?_
          refine eS fun K143 hn143 hr143 he143 => ?_
          refine eO fun K144 hk144 => ?_
          refine tC 6 F12 ?_
          refine tC 1 F12 ?_
          refine tC 2 F12 ?_
          refine tC 4 F12 ?_
          refine tC 1 F12 ?_
          refine tC 4 F12 ?_
          refine tC 2 F12 ?_
          refine tC 5 F12 ?_
          refine tC 2 F12 ?_
          refine tL F12 ?_
          refine hk144 _ ?_
          refine hn143 (some ([1, 2, 5, 7, 8, 9, 10, 12, 13, 121], none)) _ ?_
          refine eCf ?_
          refine hn142 (some ([1, 2, 5, 7, 8, 9, 10, 12, 13], none)) _ ?_
          refine eO fun K145 hk145 => ?_
          refine tC 2 F12 ?_
          refine tZ F12 ?_
          refine hk145 _ ?_
          refine hn136 _ ?_
          refine hn135 (some ([1, 2, 5, 7, 8, 9, 10, 12, 13], none)) _ ?_
          refine eO fun K146 hk146 => ?_
          refine tC 2 F12 ?_
          refine tL F12 ?_
          refine hk146 _ ?_
          refine hn61 (3 - (1 + 1)) (some ([1, 2, 5, 7, 8, 9, 10, 12, 13], some ([0, 1, 2, 3, 4], 5))) _ ?_ ?_
          all_goals try refine lp0 ?_
          · omega
          · exact ⟨1 + 1, fun u => if u = 1 then true else B2 u, by omega, en_nx hB2 ((if_pos rfl).trans hd.symm) (fun u hu => if_neg hu), by omega, by rfl⟩
        · skip
          have w6 : IntKind.i64.wrap (((1 : Nat) : Int) + 1) = ((2 : Nat) : Int) := by decide
          have w7 : 1 < w'.tasks.length := htl (by decide)
          have w8 : (1 : Int) < (w'.tasks.length : Int) := by omega
          have d1 : (k1 % 3 != 0) = false := by simpa using hq
          have k8 := ok_kDone y
          rw [hyl] at k8
          have hb9 : B2 1 = false := (hB2 1 (by decide)).trans ((if_neg (by decide)).trans hB0)
          have k9 := ok_kCode y
          rw [hyc] at k9
          change Ok _ _ (.ifc 148 (.agg (cEra v))) at k9
          have k10 := ok_eraEra v
          rw [if_pos hvo, hvo] at k10
          have q1 : ¬ now.val < v.time := by omega
          have q2 : (v.time != v.time) = false := by simp
          have q3 : (now.val != v.time) = false := by simpa using hnow
          have F13 := And.intro F4 (And.intro @w5 (And.intro @w6 (And.intro @r1 (And.intro @d1 (And.intro @hy (And.intro @w7 (And.intro @w8 (And.intro @hb9 (And.intro @hA (And.intro @q1 (And.intro @q2 @q3)))))))))))
          refine eS fun K147 hn147 hr147 he147 => ?_
          refine eS fun K148 hn148 hr148 he148 => ?_
          refine eO fun K149 hk149 => ?_
          refine tZ F13 ?_
          refine hk149 _ ?_
          refine hn148 (some ([1, 2, 5, 7, 8, 9, 10, 12, 13, 67], none)) _ ?_
          refine eCt ?_
          refine hn147 (some ([1, 2, 5, 7, 8, 9, 10, 12, 13], none)) _ ?_
          refine eS fun K150 hn150 hr150 he150 => ?_
          refine eB fun K151 hn151 hx151 hr151 he151 => ?_
          refine eS fun K152 hn152 hr152 he152 => ?_
          refine eS fun K153 hn153 hr153 he153 => ?_
          refine eO fun K154 hk154 => ?_
          refine tC 2 F13 ?_
          refine tC 1 F13 ?_
          refine tC 1 F13 ?_
          refine tC 1 F13 ?_
          refine tC 3 F13 ?_
          refine tC 2 F13 ?_
          refine tC 1 F13 ?_
          refine tS 1 F13 ?_
          refine Or.inl (Or.inl ⟨_, k8, ?_⟩)
          refine tL F13 ?_
          refine hk154 _ ?_
          refine hn153 (some ([1, 2, 5, 7, 8, 9, 10, 12, 13, 83], none)) _ ?_
          refine eCf ?_
          refine hn152 (some ([1, 2, 5, 7, 8, 9, 10, 12, 13], none)) _ ?_
          refine eS fun K155 hn155 hr155 he155 => ?_
          refine eO fun K156 hk156 => ?_
          refine tC 2 F13 ?_
          refine tC 2 F13 ?_
          refine tC 1 F13 ?_
          refine tS 1 F13 ?_
          refine Or.inl (Or.inl ⟨_, k9, ?_⟩)
          refine tS 1 F13 ?_
          refine Or.inl (Or.inl ⟨_, k10, ?_⟩)
          refine tL F13 ?_
          refine hk156 _ ?_
          refine hn155 (some ([1, 2, 5, 7, 8, 9, 10, 12, 13, 14, 15], none)) _ ?_
          refine eS fun K157 hn157 hr157 he157 => ?_
          refine eS fun K158 hn158 hr158 he158 => ?_
          refine eO fun K159 hk159 => ?_
          refine tC 6 F13 ?_
          refine tC 1 F13 ?_
          refine tC 2 F13 ?_
          refine tC 4 F13 ?_
          refine tC 1 F13 ?_
          refine tC 4 F13 ?_
          refine tC 2 F13 ?_
          refine tC 5 F13 ?_
          refine tC 2 F13 ?_
          refine tL F13 ?_
          refine hk159 _ ?_
          refine hn158 (some ([1, 2, 5, 7, 8, 9, 10, 12, 13, 121], none)) _ ?_
          refine eCf ?_
          refine hn157 (some ([1, 2, 5, 7, 8, 9, 10, 12, 13], none)) _ ?_
          refine eO fun K160 hk160 => ?_
          refine tC 2 F13 ?_
          refine tZ F13 ?_
          refine hk160 _ ?_
          refine hn151 _ ?_
          refine hn150 (some ([1, 2, 5, 7, 8, 9, 10, 12, 13], none)) _ ?_
          refine eO fun K161 hk161 => ?_
          refine tC 2 F13 ?_
          refine tL F13 ?_
          refine hk161 _ ?_
          refine hn61 (3 - (1 + 1)) (some ([1, 2, 5, 7, 8, 9, 10, 12, 13], some ([0, 1, 2, 3, 4], 5))) _ ?_ ?_
          all_goals try refine lp0 ?_
          · omega
          · exact ⟨1 + 1, fun u => if u = 1 then true else B2 u, by omega, en_nx hB2 ((if_pos rfl).trans hd.symm) (fun u hu => if_neg hu), by omega, by rfl⟩
        · skip
          have w6 : IntKind.i64.wrap (((2 : Nat) : Int) + 1) = ((3 : Nat) : Int) := by decide
          have w7 : 2 < w'.tasks.length := htl (by decide)
          have w8 : (2 : Int) < (w'.tasks.length : Int) := by omega
          have d1 : (k2 % 3 != 0) = true := by simpa using hq
          have F14 := And.intro F4 (And.intro @w5 (And.intro @w6 (And.intro @r2 @d1)))
          refine eS fun K162 hn162 hr162 he162 => ?_
          refine eS fun K163 hn163 hr163 he163 => ?_
          refine eO fun K164 hk164 => ?_
          refine tZ F14 ?_
          refine hk164 _ ?_
          refine hn163 (some ([1, 2, 5, 7, 8, 9, 10, 12, 13, 67], none)) _ ?_
          refine eCt ?_
          refine hn162 (some ([1, 2, 5, 7, 8, 9, 10, 12, 13], none)) _ ?_
          refine eS fun K165 hn165 hr165 he165 => ?_
          refine eB fun K166 hn166 hx166 hr166 he166 => ?_
          refine eS fun K167 hn167 hr167 he167 => ?_
          refine eS fun K168 hn168 hr168 he168 => ?_
          refine eO fun K169 hk169 => ?_
          refine tC 2 F14 ?_
          refine tC 1 F14 ?_
          refine tC 1 F14 ?_
          refine tC 1 F14 ?_
          refine tC 3 F14 ?_
          refine tC 2 F14 ?_
          refine tC 1 F14 ?_
          refine tS 1 F14 ?_
          skip
          refine tL F14 ?_
          refine hk169 _ ?_
          refine hn168 (some ([1, 2, 5, 7, 8, 9, 10, 12, 13, 83], none)) _ ?_
          refine eCt ?_
          refine he167 3 _ ?_
          refine hx166 _ ?_
          refine hn165 (some ([1, 2, 5, 7, 8, 9, 10, 12, 13], none)) _ ?_
          refine eO fun K170 hk170 => ?_
          refine tC 2 F14 ?_
          refine tL F14 ?_
          refine hk170 _ ?_
          refine hn61 (3 - (2 + 1)) (some ([1, 2, 5, 7, 8, 9, 10, 12, 13], some ([0, 1, 2, 3, 4], 5))) _ ?_ ?_
          all_goals try refine lp0 ?_
          · omega
          · exact ⟨2 + 1, B2, by omega, en_nx hB2 ((hB2 2 (by decide)).trans ((if_neg (by decide)).trans hd.symm)) (fun _ _ => rfl), by omega, by rfl⟩
        · skip
          have w6 : IntKind.i64.wrap (((2 : Nat) : Int) + 1) = ((3 : Nat) : Int) := by decide
          have w7 : 2 < w'.tasks.length := htl (by decide)
          have w8 : (2 : Int) < (w'.tasks.length : Int) := by omega
          have d1 : (k2 % 3 != 0) = false := by simpa using hq
          have k8 := ok_kDone y
          rw [hyl] at k8
          have F15 := And.intro F4 (And.intro @w5 (And.intro @w6 (And.intro @r2 (And.intro @d1 (And.intro @hy (And.intro @w7 @w8))))))
          refine eS fun K171 hn171 hr171 he171 => ?_
          refine eS fun K172 hn172 hr172 he172 => ?_
          refine eO fun K173 hk173 => ?_
          refine tZ F15 ?_
          refine hk173 _ ?_
          refine hn172 (some ([1, 2, 5, 7, 8, 9, 10, 12, 13, 67], none)) _ ?_
          refine eCt ?_
          refine hn171 (some ([1, 2, 5, 7, 8, 9, 10, 12, 13], none)) _ ?_
          refine eS fun K174 hn174 hr174 he174 => ?_
          refine eB fun K175 hn175 hx175 hr175 he175 => ?_
          refine eS fun K176 hn176 hr176 he176 => ?_
          refine eS fun K177 hn177 hr177 he177 => ?_
          refine eO fun K178 hk178 => ?_
          refine tC 2 F15 ?_
          refine tC 1 F15 ?_
          refine tC 1 F15 ?_
          refine tC 1 F15 ?_
          refine tC 3 F15 ?_
          refine tC 2 F15 ?_
          refine tC 1 F15 ?_
          refine tS 1 F15 ?_
          refine Or.inl (Or.inl ⟨_, k8, ?_⟩)
          refine tL F15 ?_
          refine hk178 _ ?_
          refine hn177 (some ([1, 2, 5, 7, 8, 9, 10, 12, 13, 83], none)) _ ?_
          refine eCt ?_
          refine he176 3 _ ?_
          refine hx175 _ ?_
          refine hn174 (some ([1, 2, 5, 7, 8, 9, 10, 12, 13], none)) _ ?_
          refine eO fun K179 hk179 => ?_
          refine tC 2 F15 ?_
          refine tL F15 ?_
          refine hk179 _ ?_
          refine hn61 (3 - (2 + 1)) (some ([1, 2, 5, 7, 8, 9, 10, 12, 13], some ([0, 1, 2, 3, 4], 5))) _ ?_ ?_
          all_goals try refine lp0 ?_
          · omega
          · exact ⟨2 + 1, B2, by omega, en_nx hB2 ((hB2 2 (by decide)).trans ((if_neg (by decide)).trans hd.symm)) (fun _ _ => rfl), by omega, by rfl⟩
        · skip
          have w6 : IntKind.i64.wrap (((2 : Nat) : Int) + 1) = ((3 : Nat) : Int) := by decide
          have w7 : 2 < w'.tasks.length := htl (by decide)
          have w8 : (2 : Int) < (w'.tasks.length : Int) := by omega
          have d1 : (k2 % 3 != 0) = false := by simpa using hq
          have k8 := ok_kDone y
          rw [hyl] at k8
          have hb9 : B2 2 = true := (hB2 2 (by decide)).trans ((if_neg (by decide)).trans hB0)
          have k9 := ok_kCode y
          rw [hyc] at k9
          change Ok _ _ (.ifc 148 (.agg (cEra v))) at k9
          have k10 := ok_eraEra v
          rw [if_pos hvo, hvo] at k10
          have q1 : ¬ now.val < v.time := by omega
          have q2 : (v.time != v.time) = false := by simp
          have F16 := And.intro F4 (And.intro @w5 (And.intro @w6 (And.intro @r2 (And.intro @d1 (And.intro @hy (And.intro @w7 (And.intro @w8 (And.intro @hb9 (And.intro @hA (And.intro @q1 @q2))))))))))
          refine eS fun K180 hn180 hr180 he180 => ?_
          refine eS fun K181 hn181 hr181 he181 => ?_
          refine eO fun K182 hk182 => ?_
          refine tZ F16 ?_
          refine hk182 _ ?_
          refine hn181 (some ([1, 2, 5, 7, 8, 9, 10, 12, 13, 67], none)) _ ?_
          refine eCt ?_
          refine hn180 (some ([1, 2, 5, 7, 8, 9, 10, 12, 13], none)) _ ?_
          refine eS fun K183 hn183 hr183 he183 => ?_
          refine eB fun K184 hn184 hx184 hr184 he184 => ?_
          refine eS fun K185 hn185 hr185 he185 => ?_
          refine eS fun K186 hn186 hr186 he186 => ?_
          refine eO fun K187 hk187 => ?_
          refine tC 2 F16 ?_
          refine tC 1 F16 ?_
          refine tC 1 F16 ?_
          refine tC 1 F16 ?_
          refine tC 3 F16 ?_
          refine tC 2 F16 ?_
          refine tC 1 F16 ?_
          refine tS 1 F16 ?_
          refine Or.inl (Or.inl ⟨_, k8, ?_⟩)
          refine tL F16 ?_
          refine hk187 _ ?_
          refine hn186 (some ([1, 2, 5, 7, 8, 9, 10, 12, 13, 83], none)) _ ?_
          refine eCf ?_
          refine hn185 (some ([1, 2, 5, 7, 8, 9, 10, 12, 13], none)) _ ?_
          refine eS fun K188 hn188 hr188 he188 => ?_
          refine eO fun K189 hk189 => ?_
          refine tC 2 F16 ?_
          refine tC 2 F16 ?_
          refine tC 1 F16 ?_
          refine tS 1 F16 ?_
          refine Or.inl (Or.inl ⟨_, k9, ?_⟩)
          refine tS 1 F16 ?_
          refine Or.inl (Or.inl ⟨_, k10, ?_⟩)
          refine tL F16 ?_
          refine hk189 _ ?_
          refine hn188 (some ([1, 2, 5, 7, 8, 9, 10, 12, 13, 14, 15], none)) _ ?_
          refine eS fun K190 hn190 hr190 he190 => ?_
          refine eS fun K191 hn191 hr191 he191 => ?_
          refine eO fun K192 hk192 => ?_
          refine tC 6 F16 ?_
          refine tC 1 F16 ?_
          refine tC 2 F16 ?_
          refine tC 4 F16 ?_
          refine tC 1 F16 ?_
          refine tC 4 F16 ?_
          refine tC 2 F16 ?_
          refine tC 5 F16 ?_
          refine tC 2 F16 ?_
          refine tL F16 ?_
          refine hk192 _ ?_
          refine hn191 (some ([1, 2, 5, 7, 8, 9, 10, 12, 13, 121], none)) _ ?_
          refine eCf ?_
          refine hn190 (some ([1, 2, 5, 7, 8, 9, 10, 12, 13], none)) _ ?_
          refine eO fun K193 hk193 => ?_
          refine tC 2 F16 ?_
          refine tZ F16 ?_
          refine hk193 _ ?_
          refine hn184 _ ?_
          refine hn183 (some ([1, 2, 5, 7, 8, 9, 10, 12, 13], none)) _ ?_
          refine eO fun K194 hk194 => ?_
          refine tC 2 F16 ?_
          refine tL F16 ?_
          refine hk194 _ ?_
          refine hn61 (3 - (2 + 1)) (some ([1, 2, 5, 7, 8, 9, 10, 12, 13], some ([0, 1, 2, 3, 4], 5))) _ ?_ ?_
          all_goals try refine lp0 ?_
          · omega
          · exact ⟨2 + 1, fun u => if u = 2 then true else B2 u, by omega, en_nx hB2 ((if_pos rfl).trans hd.symm) (fun u hu => if_neg hu), by omega, by rfl⟩
        · skip
          have w6 : IntKind.i64.wrap (((2 : Nat) : Int) + 1) = ((3 : Nat) : Int) := by decide
          have w7 : 2 < w'.tasks.length := htl (by decide)
          have w8 : (2 : Int) < (w'.tasks.length : Int) := by omega
          have d1 : (k2 % 3 != 0) = false := by simpa using hq
          have k8 := ok_kDone y
          rw [hyl] at k8
          have hb9 : B2 2 = false := (hB2 2 (by decide)).trans ((if_neg (by decide)).trans hB0)
          have k9 := ok_kCode y
          rw [hyc] at k9
          change Ok _ _ (.ifc 148 (.agg (cEra v))) at k9
          have k10 := ok_eraEra v
          rw [if_pos hvo, hvo] at k10
          have q1 : ¬ now.val < v.time := by omega
          have q2 : (v.time != v.time) = false := by simp
          have q3 : (now.val != v.time) = false := by simpa using hnow
          have F17 := And.intro F4 (And.intro @w5 (And.intro @w6 (And.intro @r2 (And.intro @d1 (And.intro @hy (And.intro @w7 (And.intro @w8 (And.intro @hb9 (And.intro @hA (And.intro @q1 (And.intro @q2 @q3)))))))))))
          refine eS fun K195 hn195 hr195 he195 => ?_
          refine eS fun K196 hn196 hr196 he196 => ?_
          refine eO fun K197 hk197 => ?_
          refine tZ F17 ?_
          refine hk197 _ ?_
          refine hn196 (some ([1, 2, 5, 7, 8, 9, 10, 12, 13, 67], none)) _ ?_
          refine eCt ?_
          refine hn195 (some ([1, 2, 5, 7, 8, 9, 10, 12, 13], none)) _ ?_
          refine eS fun K198 hn198 hr198 he198 => ?_
          refine eB fun K199 hn199 hx199 hr199 he199 => ?_
          refine eS fun K200 hn200 hr200 he200 => ?_
          refine eS fun K201 hn201 hr201 he201 => ?_
          refine eO fun K202 hk202 => ?_
          refine tC 2 F17 ?_
          refine tC 1 F17 ?_
          refine tC 1 F17 ?_
          refine tC 1 F17 ?_
          refine tC 3 F17 ?_
          refine tC 2 F17 ?_
          refine tC 1 F17 ?_
          refine tS 1 F17 ?_
          refine Or.inl (Or.inl ⟨_, k8, ?_⟩)
          refine tL F17 ?_
          refine hk202 _ ?_
          refine hn201 (some ([1, 2, 5, 7, 8, 9, 10, 12, 13, 83], none)) _ ?_
          refine eCf ?_
          refine hn200 (some ([1, 2, 5, 7, 8, 9, 10, 12, 13], none)) _ ?_
          refine eS fun K203 hn203 hr203 he203 => ?_
          refine eO fun K204 hk204 => ?_
          refine tC 2 F17 ?_
          refine tC 2 F17 ?_
          refine tC 1 F17 ?_
          refine tS 1 F17 ?_
          refine Or.inl (Or.inl ⟨_, k9, ?_⟩)
          refine tS 1 F17 ?_
          refine Or.inl (Or.inl ⟨_, k10, ?_⟩)
          refine tL F17 ?_
          refine hk204 _ ?_
          refine hn203 (some ([1, 2, 5, 7, 8, 9, 10, 12, 13, 14, 15], none)) _ ?_
          refine eS fun K205 hn205 hr205 he205 => ?_
          refine eS fun K206 hn206 hr206 he206 => ?_
          refine eO fun K207 hk207 => ?_
          refine tC 6 F17 ?_
          refine tC 1 F17 ?_
          refine tC 2 F17 ?_
          refine tC 4 F17 ?_
          refine tC 1 F17 ?_
          refine tC 4 F17 ?_
          refine tC 2 F17 ?_
          refine tC 5 F17 ?_
          refine tC 2 F17 ?_
          refine tL F17 ?_
          refine hk207 _ ?_
          refine hn206 (some ([1, 2, 5, 7, 8, 9, 10, 12, 13, 121], none)) _ ?_
          refine eCf ?_
          refine hn205 (some ([1, 2, 5, 7, 8, 9, 10, 12, 13], none)) _ ?_
          refine eO fun K208 hk208 => ?_
          refine tC 2 F17 ?_
          refine tZ F17 ?_
          refine hk208 _ ?_
          refine hn199 _ ?_
          refine hn198 (some ([1, 2, 5, 7, 8, 9, 10, 12, 13], none)) _ ?_
          refine eO fun K209 hk209 => ?_
          refine tC 2 F17 ?_
          refine tL F17 ?_
          refine hk209 _ ?_
          refine hn61 (3 - (2 + 1)) (some ([1, 2, 5, 7, 8, 9, 10, 12, 13], some ([0, 1, 2, 3, 4], 5))) _ ?_ ?_
          all_goals try refine lp0 ?_
          · omega
          · exact ⟨2 + 1, fun u => if u = 2 then true else B2 u, by omega, en_nx hB2 ((if_pos rfl).trans hd.symm) (fun u hu => if_neg hu), by omega, by rfl⟩
end Go.Proofs.YtkbgdhomdbolnaaGreatDoor

/-
  EraAdvances by shadows.
-/
import Derived.Test.YtkbgdhomdbolnaaGreatDoorK13f
import Derived.Test.YtkbgdhomdbolnaaGreatDoorK13w
import Derived.Test.YtkbgdhomdbolnaaGreatDoorScEraAdvances
import Derived.Test.YtkbgdhomdbolnaaGreatDoorMC
namespace Go.Proofs.YtkbgdhomdbolnaaGreatDoor
set_option linter.unusedSimpArgs false
set_option linter.unusedVariables false
open Go.RowKit Go.Maps

theorem len_le_of_sub : ∀ {l l' : List Int}, l.Nodup → (∀ x ∈ l, x ∈ l') → l.length ≤ l'.length
  | [], _, _, _ => Nat.zero_le _
  | a :: l, l', hn, hs => by
    have h1 := List.nodup_cons.1 hn
    have ha := hs a (List.mem_cons_self ..)
    have h2 := len_le_of_sub (l := l) (l' := l'.erase a) h1.2 fun x hx => (List.mem_erase_of_ne (fun e => h1.1 (by rw [← e]; exact hx))).2 (hs x (List.mem_cons_of_mem _ hx))
    rw [List.length_erase_of_mem ha] at h2
    have h3 := List.length_pos_of_mem ha
    simp only [List.length_cons]
    omega
def cntE (k : Nat → Int) (s : Nat → EraV) : Nat → Int
  | 0 => 0
  | t + 1 => cntE k s t + dnE k s t
/-- The eras that the first t threads' codes returned, as a map. -/
structure MetE (k : Nat → Int) (s : Nat → EraV) (t : Nat) (f : Int → Option Sh) (l : List Int) : Prop where
  f : ∀ j, f j = if j ∈ l then some (sB true) else none
  nd : l.Nodup
  len : (l.length : Int) = cntE k s t
  mem : ∀ x ∈ l, ∃ u, u < t ∧ k u % 3 = 2 ∧ (s u).over = true ∧ (s u).time = x
theorem metE_zero (k : Nat → Int) (s : Nat → EraV) : MetE k s 0 (fun _ => none) [] := ⟨fun j => rfl, List.nodup_nil, rfl, fun x hx => by cases hx⟩
theorem metE_skip {k : Nat → Int} {s : Nat → EraV} {t : Nat} {f : Int → Option Sh} {l : List Int} (h : MetE k s t f l) (hn : ¬ (k t % 3 = 2 ∧ (s t).over = true)) : MetE k s (t + 1) f l :=
  ⟨h.f, h.nd, by rw [h.len]; show cntE k s t = cntE k s t + dnE k s t; unfold dnE; rw [if_neg hn]; omega, fun x hx => by
    obtain ⟨u, h1, h2⟩ := h.mem x hx
    exact ⟨u, by omega, h2⟩⟩
theorem metE_new {k : Nat → Int} {w : WorldM era} {s : Nat → EraV} (hE : EraW k w s) {t : Nat} (ht : t < 3) {f : Int → Option Sh} {l : List Int} (h : MetE k s t f l) (hk : k t % 3 = 2) (ho : (s t).over = true) : (s t).time ∉ l := fun hx => by
  obtain ⟨u, h1, h2, h3, h4⟩ := h.mem _ hx
  exact hE.apart u t (by omega) ht (by omega) h2 hk h3 ho h4
theorem metE_add {k : Nat → Int} {w : WorldM era} {s : Nat → EraV} (hE : EraW k w s) {t : Nat} (ht : t < 3) {f : Int → Option Sh} {l : List Int} (h : MetE k s t f l) (hk : k t % 3 = 2) (ho : (s t).over = true) :
    MetE k s (t + 1) (fun j => if j = (s t).time then some (sB true) else f j) ((s t).time :: l) :=
  ⟨fun j => by
    simp only [List.mem_cons]
    by_cases e : j = (s t).time
    · rw [if_pos e, if_pos (.inl e)]
    · rw [if_neg e, h.f j]
      by_cases e2 : j ∈ l
      · rw [if_pos e2, if_pos (.inr e2)]
      · rw [if_neg e2, if_neg (fun h9 => h9.elim e e2)],
   List.nodup_cons.2 ⟨metE_new hE ht h hk ho, h.nd⟩,
   by
    show ((l.length + 1 : Nat) : Int) = cntE k s t + dnE k s t
    unfold dnE
    rw [if_pos ⟨hk, ho⟩, ← h.len]
    omega,
   fun x hx => by
    rcases List.mem_cons.1 hx with rfl | hx
    · exact ⟨t, by omega, hk, ho, rfl⟩
    · obtain ⟨u, h1, h2⟩ := h.mem x hx
      exact ⟨u, by omega, h2⟩⟩
theorem metE_count {k : Nat → Int} {s : Nat → EraV} {t n : Nat} {f : Int → Option Sh} {l : List Int} (h : MetE k s t f l) (hn : ∃ l : List Int, l.Nodup ∧ l.length = n ∧ ∀ j, f j ≠ none ↔ j ∈ l) : (n : Int) = cntE k s t := by
  obtain ⟨l', h1, h2, h3⟩ := hn
  have hm : ∀ j, j ∈ l' ↔ j ∈ l := fun j => by
    rw [← h3 j, h.f j]
    by_cases e : j ∈ l
    · rw [if_pos e]; exact ⟨fun _ => e, fun _ => by simp⟩
    · rw [if_neg e]; exact ⟨fun h9 => absurd rfl h9, fun h9 => absurd h9 e⟩
  have a := len_le_of_sub h1 fun x hx => (hm x).1 hx
  have b := len_le_of_sub h.nd fun x hx => (hm x).2 hx
  rw [← h.len]
  omega
theorem adv_case {k : Nat → Int} {w : WorldM era} {s : Nat → EraV} (h : EraW k w s) {t : Nat} (ht : t < 3) : ∃ y, w.tasks[t]? = some y ∧ y.code = some (s t) ∧ (k t % 3 = 2 → (s t).over = true → 2 ≤ (s t).time ∧ (s t).time ≤ (Wd w.m eraP).val) := by
  have ht' : t < w.tasks.length := by rw [h.len]; exact ht
  obtain ⟨y, hy⟩ : ∃ y, w.tasks[t]? = some y := ⟨_, List.getElem?_eq_getElem ht'⟩
  have hT := h.task t y hy
  refine ⟨y, hy, hT.code, fun hk ho => ?_⟩
  have h9 := hT.at'
  generalize y.act = a9 at h9
  cases h9 with
  | advd w o u => exact u
  | ann w o p => omega
  | ann1 w o p => omega
  | cmp w o p v => omega
  | enter w o v u => omega
  | leave w o p => omega
  | left w o => omega
  | adv w o p r => rw [ho] at o; cases o
  | adv2 g w o p r v => rw [ho] at o; cases o
def EvInv (n : Int) (l : List PickV) (m : Nat) (S : St) : Prop :=
  ∃ (i : Nat) (w : WorldM era) (s : Nat → EraV), i ≤ l.length ∧ EraW (kOf 2 2 n) w s ∧ WorldOk w (2 + i) ∧ m = l.length - i ∧
    S = ⟨[(0, .sl 3 2 (l.map ePick)), (1, s8 n), (5, .ptr 0 0 0), (7, .own 1), (8, sI i)], [(0, boxW w), (1, .map 2 0 fun _ => none)], 2⟩
def Ev2Inv (n : Int) (w : WorldM era) (s : Nat → EraV) (now : WordV) (m : Nat) (S : St) : Prop :=
  ∃ (t M : Nat) (f : Int → Option Sh) (l : List Int), t ≤ 3 ∧ M ≤ 11 ∧ MetE (kOf 2 2 n) s t f l ∧ m = 3 - t ∧
    S = ⟨[(1, s8 n), (5, .ptr 0 0 0), (7, .own 1), (9, .ptr 2 0 0), (11, sI t)], [(0, boxW w), (1, .map 2 M f), (2, .box 70 (eWord now))], 3⟩
set_option maxRecDepth 20000 in
set_option maxHeartbeats 16000000 in
theorem ok_EraAdvances (l : List PickV) (n : Int) (hn : 0 ≤ n ∧ n ≤ 255) : Ok 10 [.sl 3 2 (l.map ePick), s8 n] (sB true) := by
  refine ok_of_tr Tryz.func10 tr_EraAdvances rfl ?_
  have ka := ok_l13awake
  by_cases hg : (120 : Int) < (l.length : Int)
  · skip
    unfold evFn sc_EraAdvances rv_EraAdvances
    have F1 := @hg
    refine eS fun K1 hn1 hr1 he1 => ?_;refine eO fun K2 hk2 => ?_;refine tL F1 ?_;refine hk2 _ ?_;refine hn1 (some ([0, 1], none)) _ ?_;refine eS fun K3 hn3 hr3 he3 => ?_;refine eS fun K4 hn4 hr4 he4 => ?_;refine eO fun K5 hk5 => ?_;refine tS 1 F1 ?_;refine Or.inl (Or.inl ⟨_, ka, ?_⟩);refine tL F1 ?_;refine hk5 _ ?_;refine hn4 (some ([0, 1, 15], none)) _ ?_;refine eCf ?_;refine hn3 (some ([0, 1], none)) _ ?_;refine eS fun K6 hn6 hr6 he6 => ?_;refine eS fun K7 hn7 hr7 he7 => ?_;refine eO fun K8 hk8 => ?_;refine tZ F1 ?_;refine hk8 _ ?_;refine hn7 (some ([0, 1, 18], none)) _ ?_;refine eCt ?_;refine eS fun K9 hn9 hr9 he9 => ?_
    refine eO fun K10 hk10 => ?_;refine tL F1 ?_;refine hk10 _ ?_;refine hn9 (some ([4], none)) _ ?_;refine hr6 _ ?_
    exact sf1 F1
  have hK := shK era
  have kw := ok_l13world 2 2 n (by decide) (by decide) hn
  have hW0 := (world_ok 2 2 n).1
  have hE0 := eraW_start 2 2 n
  have kp := ok_l13plan
  have ke := ok_layEra planL
  change Ok _ _ (sI eraP) at ke
  have r0 : n.tmod 3 = n % 3 := rem3 hn rfl
  generalize (fun i => beginE (kOf 2 2 n i) i) = s0 at hE0
  generalize worldE 2 2 n = W0 at kw hW0 hE0
  generalize planL = L at kp ke
  unfold evFn sc_EraAdvances rv_EraAdvances
  have F1 := And.intro @hg @hK
  refine eS fun K1 hn1 hr1 he1 => ?_;refine eO fun K2 hk2 => ?_;refine tL F1 ?_;refine hk2 _ ?_;refine hn1 (some ([0, 1], none)) _ ?_;refine eS fun K3 hn3 hr3 he3 => ?_;refine eS fun K4 hn4 hr4 he4 => ?_;refine eO fun K5 hk5 => ?_;refine tS 1 F1 ?_;refine Or.inl (Or.inl ⟨_, ka, ?_⟩);refine tL F1 ?_;refine hk5 _ ?_;refine hn4 (some ([0, 1, 15], none)) _ ?_;refine eCf ?_;refine hn3 (some ([0, 1], none)) _ ?_;refine eS fun K6 hn6 hr6 he6 => ?_;refine eS fun K7 hn7 hr7 he7 => ?_;refine eO fun K8 hk8 => ?_;refine tZ F1 ?_;refine hk8 _ ?_;refine hn7 (some ([0, 1, 18], none)) _ ?_;refine eCf ?_;refine hn6 (some ([0, 1], none)) _ ?_
  refine eS fun K9 hn9 hr9 he9 => ?_;refine eO fun K10 hk10 => ?_;refine tS 2 F1 ?_;refine tS 1 F1 ?_;refine Or.inl (Or.inl ⟨_, kw, ?_⟩);refine tC 5 F1 ?_;refine tL F1 ?_;refine hk10 _ ?_;refine hn9 (some ([0, 1, 5, 6], none)) _ ?_;refine eS fun K11 hn11 hr11 he11 => ?_;refine eS fun K12 hn12 hr12 he12 => ?_;refine eO fun K13 hk13 => ?_;refine tL F1 ?_;refine hk13 _ ?_;refine hn12 (some ([0, 1, 5, 26], none)) _ ?_;refine eCf ?_;refine hn11 (some ([0, 1, 5], none)) _ ?_;refine eS fun K14 hn14 hr14 he14 => ?_;refine eO fun K15 hk15 => ?_;refine tL F1 ?_;refine hk15 _ ?_;refine hn14 (some ([0, 1, 5, 7], none)) _ ?_
  refine eS fun K16 hn16 hr16 he16 => ?_;refine eS fun K17 hn17 hr17 he17 => ?_;refine eO fun K18 hk18 => ?_;refine tL F1 ?_;refine hk18 _ ?_;refine hn17 (some ([0, 1, 5, 7, 8], none)) _ ?_;refine eB fun K19 hn19 hx19 hr19 he19 => ?_;refine eW (EvInv n l) (l.length) (some ([0, 1, 5, 7, 8], some ([0, 1], 2))) ([]) ?_ ?_
  · try refine lp0 ?_
    exact ⟨0, W0, s0, by omega, hE0, hW0, by omega, by rfl⟩
  · intro k S1 hI
    obtain ⟨i, w, s, hi, hE, hW, rfl, rfl⟩ := hI
    have hcase : i = l.length ∨ (∃ p, l[i]? = some p ∧ p.kind = 2) ∨ (∃ p, l[i]? = some p ∧ p.kind ≠ 2) := by
      rcases Nat.lt_or_ge i l.length with h | h
      · by_cases hk : (l[i]).kind = 2
        · exact .inr (.inl ⟨_, List.getElem?_eq_getElem h, hk⟩)
        · exact .inr (.inr ⟨_, List.getElem?_eq_getElem h, hk⟩)
      · exact .inl (by omega)
    intro K20 hn20 hr20 he20
    rcases hcase with hcc | ⟨p, hp, hpk⟩ | ⟨p, hp, hpk⟩
    · skip
      have w2 : ¬ (i : Int) < (l.length : Int) := by omega
      have k5 := ok_cWord w.m eraP hW.mach.mem (by omega)
      change Ok _ _ (.tup [.agg (eWord (Wd w.m eraP)), _]) at k5
      have hT := fun {t : Nat} (ht : t < 3) => adv_case hE ht
      have hera := hE.era
      have hlow := hE.low
      have htl : ∀ {t : Nat}, t < 3 → t < w.tasks.length := fun {t} h => by rw [hE.len]; exact h
      generalize Wd w.m eraP = now at k5 hT hera hlow
      generalize decide (PlcB w.m.mem eraP) = b5 at k5
      have F2 := And.intro F1 @w2
      refine eS fun K21 hn21 hr21 he21 => ?_;refine eS fun K22 hn22 hr22 he22 => ?_;refine eO fun K23 hk23 => ?_;refine tZ F2 ?_;refine hk23 _ ?_;refine hn22 (some ([0, 1, 5, 7, 8, 31], none)) _ ?_;refine eCf ?_;refine he21 0 _ ?_;refine he20 0 _ ?_;refine hx19 _ ?_;refine hn16 (some ([1, 5, 7], none)) _ ?_;refine eS fun K24 hn24 hr24 he24 => ?_;refine eD [] (n := 9) fun K25 hk25 => ?_;refine sq0 ?_;refine fC 2 F2 ?_;refine fS 1 F2 ?_;refine ⟨_, kp, ?_⟩;refine fS 1 F2 ?_;refine ⟨_, ke, ?_⟩;refine fS 1 F2 ?_;refine ⟨_, k5, ?_⟩;refine fL F2 ?_;refine hk25 _ ?_;refine sr0 ?_;refine tC 1 F2 ?_;refine tL F2 ?_
      refine hn24 (some ([1, 5, 7, 9], none)) _ ?_;refine eS fun K27 hn27 hr27 he27 => ?_;refine eS fun K28 hn28 hr28 he28 => ?_;refine eO fun K29 hk29 => ?_;refine tL F2 ?_;refine hk29 _ ?_;refine hn28 (some ([1, 5, 7, 9, 11], none)) _ ?_;refine eB fun K30 hn30 hx30 hr30 he30 => ?_;refine eW (Ev2Inv n w s now) (3) (some ([1, 5, 7, 9, 11], some ([0, 1, 2], 3))) ([]) ?_ ?_
      · try refine lp0 ?_
        exact ⟨0, 0, _, [], by omega, by omega, metE_zero _ _, by omega, by rfl⟩
      · intro k S1 hI
        obtain ⟨t, M, f, ml, ht, hM, hMet, rfl, rfl⟩ := hI
        have hcas2 : t = 3 ∨ (t = 0 ∧ (s 0).over = false) ∨ (t = 0 ∧ (s 0).over = true) ∨ (t = 1 ∧ (s 1).over = false) ∨ (t = 1 ∧ (s 1).over = true) ∨ (t = 2 ∧ n % 3 ≠ 2) ∨ (t = 2 ∧ n % 3 = 2 ∧ (s 2).over = false) ∨ (t = 2 ∧ n % 3 = 2 ∧ (s 2).over = true) := by
          have h9 : t = 3 ∨ t = 0 ∨ t = 1 ∨ t = 2 := by omega
          rcases h9 with rfl | rfl | rfl | rfl
          · exact .inl rfl
          · cases h8 : (s 0).over
            · exact .inr (.inl ⟨rfl, rfl⟩)
            · exact .inr (.inr (.inl ⟨rfl, rfl⟩))
          · cases h8 : (s 1).over
            · exact .inr (.inr (.inr (.inl ⟨rfl, rfl⟩)))
            · exact .inr (.inr (.inr (.inr (.inl ⟨rfl, rfl⟩))))
          · by_cases h7 : n % 3 = 2
            · cases h8 : (s 2).over
              · exact .inr (.inr (.inr (.inr (.inr (.inr (.inl ⟨rfl, h7, rfl⟩))))))
              · exact .inr (.inr (.inr (.inr (.inr (.inr (.inr (⟨rfl, h7, rfl⟩)))))))
            · exact .inr (.inr (.inr (.inr (.inr (.inl ⟨rfl, h7⟩)))))
        intro K31 hn31 hr31 he31
        rcases hcas2 with rfl | ⟨rfl, ho⟩ | ⟨rfl, ho⟩ | ⟨rfl, ho⟩ | ⟨rfl, ho⟩ | ⟨rfl, hq⟩ | ⟨rfl, hq, ho⟩ | ⟨rfl, hq, ho⟩
        · skip
          have z1 : ¬ ((3 : Nat) : Int) < 3 := by decide
          have F3 := And.intro F2 @z1
          refine eS fun K32 hn32 hr32 he32 => ?_;refine eS fun K33 hn33 hr33 he33 => ?_;refine eO fun K34 hk34 => ?_;refine tZ F3 ?_;refine hk34 _ ?_;refine hn33 (some ([1, 5, 7, 9, 11, 58], none)) _ ?_;refine eCf ?_;refine he32 2 _ ?_;refine he31 2 _ ?_;refine hx30 _ ?_;refine hn27 (some ([7, 9], none)) _ ?_;refine eS fun K35 hn35 hr35 he35 => ?_;refine eO fun K36 hk36 => ?_;refine tC 2 F3 ?_;refine tS 1 F3 ?_;refine tS 1 F3 ?_;refine fun nl0 hl0 => ?_
          have hc9 := metE_count hMet hl0
          have q9 : IntKind.i64.wrap (1 + (nl0 : Int)) = now.val := by
            have e3 : cntE (kOf 2 2 n) s 3 = 0 + dnE (kOf 2 2 n) s 0 + dnE (kOf 2 2 n) s 1 + dnE (kOf 2 2 n) s 2 := rfl
            rw [IntKind.wrap_i64]
            omega
          refine tC 1 F3 ?_;refine tC 1 F3 ?_;refine tL F3 ?_;refine hk36 _ ?_;refine hn35 (some ([4], none)) _ ?_;refine sg1 F3 ?_
          rw [q9]; simp
        · skip
          have z1 : ((0 : Nat) : Int) < 3 := by decide
          have z2 : IntKind.i64.wrap (((0 : Nat) : Int) + 1) = ((1 : Nat) : Int) := by decide
          have z3 : 0 < w.tasks.length := htl (by decide)
          have z4 : (0 : Int) < (w.tasks.length : Int) := by omega
          obtain ⟨y, hy, hyc, hb9⟩ := hT (t := 0) (by decide)
          have k6 := ok_kCode y
          rw [hyc] at k6
          change Ok _ _ (.ifc 148 (.agg (cEra (s 0)))) at k6
          have k7 := ok_eraEra (s 0)
          have z5 : (((0 : Nat) : Int) == 2) = false := by decide
          rw [if_neg (by rw [ho]; decide), ho] at k7
          have F4 := And.intro F2 (And.intro @z1 (And.intro @z2 (And.intro @z3 (And.intro @z4 (And.intro @z5 @hy)))))
          refine eS fun K37 hn37 hr37 he37 => ?_;refine eS fun K38 hn38 hr38 he38 => ?_;refine eO fun K39 hk39 => ?_;refine tZ F4 ?_;refine hk39 _ ?_;refine hn38 (some ([1, 5, 7, 9, 11, 58], none)) _ ?_;refine eCt ?_;refine hn37 (some ([1, 5, 7, 9, 11], none)) _ ?_;refine eS fun K40 hn40 hr40 he40 => ?_;refine eB fun K41 hn41 hx41 hr41 he41 => ?_;refine eS fun K42 hn42 hr42 he42 => ?_;refine eO fun K43 hk43 => ?_;refine tC 2 F4 ?_;refine tC 2 F4 ?_;refine tC 1 F4 ?_;refine tS 1 F4 ?_;refine Or.inl (Or.inl ⟨_, k6, ?_⟩);refine tS 1 F4 ?_;refine Or.inl (Or.inl ⟨_, k7, ?_⟩);refine tL F4 ?_;refine hk43 _ ?_
          refine hn42 (some ([1, 5, 7, 9, 11, 12, 13], none)) _ ?_;refine eS fun K44 hn44 hr44 he44 => ?_;refine eS fun K45 hn45 hr45 he45 => ?_;refine eO fun K46 hk46 => ?_;refine tC 2 F4 ?_;refine tC 3 F4 ?_;refine tC 1 F4 ?_;refine tL F4 ?_;refine hk46 _ ?_;refine hn45 (some ([1, 5, 7, 9, 11, 12, 81], none)) _ ?_;refine eCt ?_;refine he44 3 _ ?_;refine hx41 _ ?_;refine hn40 (some ([1, 5, 7, 9, 11], none)) _ ?_;refine eO fun K47 hk47 => ?_;refine tC 2 F4 ?_;refine tL F4 ?_;refine hk47 _ ?_;refine hn31 (3 - (0 + 1)) (some ([1, 5, 7, 9, 11], some ([0, 1, 2], 3))) _ ?_ ?_
          all_goals try refine lp0 ?_
          · omega
          · exact ⟨0 + 1, M, f, ml, by omega, hM, metE_skip hMet (fun h9 => by rw [ho] at h9; cases h9.2), by omega, by rfl⟩
        · skip
          have z1 : ((0 : Nat) : Int) < 3 := by decide
          have z2 : IntKind.i64.wrap (((0 : Nat) : Int) + 1) = ((1 : Nat) : Int) := by decide
          have z3 : 0 < w.tasks.length := htl (by decide)
          have z4 : (0 : Int) < (w.tasks.length : Int) := by omega
          obtain ⟨y, hy, hyc, hb9⟩ := hT (t := 0) (by decide)
          have k6 := ok_kCode y
          rw [hyc] at k6
          change Ok _ _ (.ifc 148 (.agg (cEra (s 0)))) at k6
          have k7 := ok_eraEra (s 0)
          have z5 : (((0 : Nat) : Int) == 2) = false := by decide
          rw [if_pos ho, ho] at k7
          obtain ⟨b1, b2⟩ := hb9 rfl ho
          have q1 : ¬ (s 0).time < 2 := by omega
          have q2 : ¬ now.val < (s 0).time := by omega
          have q3 : f (s 0).time = none := by rw [hMet.f, if_neg (metE_new hE (by decide) hMet rfl ho)]
          have q4 : -9223372036854775808 ≤ (s 0).time := by omega
          have q5 : (s 0).time ≤ 9223372036854775807 := by omega
          have q6 : (none : Option Sh).getD (.v (.bool false)) = .v (.bool false) := rfl
          have hMet' := metE_add hE (t := 0) (by decide) hMet rfl ho
          have hbd : ∀ j, (if j = (s 0).time then some (sB true) else f j) ≠ none → 0 ≤ j ∧ j < ((11 : Nat) : Int) := fun j hj => (by
            rw [hMet'.f j] at hj
            by_cases e9 : j ∈ (s 0).time :: ml
            · obtain ⟨u, u1, u2, u3, u4⟩ := hMet'.mem j e9
              obtain ⟨y9, _, _, v9⟩ := hT (t := u) (by omega)
              have := v9 u2 u3
              omega
            · rw [if_neg e9] at hj; exact absurd rfl hj)
          have F5 := And.intro F2 (And.intro @z1 (And.intro @z2 (And.intro @z3 (And.intro @z4 (And.intro @z5 (And.intro @hy (And.intro @q1 (And.intro @q2 (And.intro @q3 (And.intro @q4 (And.intro @q5 @q6)))))))))))
          refine eS fun K48 hn48 hr48 he48 => ?_;refine eS fun K49 hn49 hr49 he49 => ?_;refine eO fun K50 hk50 => ?_;refine tZ F5 ?_;refine hk50 _ ?_;refine hn49 (some ([1, 5, 7, 9, 11, 58], none)) _ ?_;refine eCt ?_;refine hn48 (some ([1, 5, 7, 9, 11], none)) _ ?_;refine eS fun K51 hn51 hr51 he51 => ?_;refine eB fun K52 hn52 hx52 hr52 he52 => ?_;refine eS fun K53 hn53 hr53 he53 => ?_;refine eO fun K54 hk54 => ?_;refine tC 2 F5 ?_;refine tC 2 F5 ?_;refine tC 1 F5 ?_;refine tS 1 F5 ?_;refine Or.inl (Or.inl ⟨_, k6, ?_⟩);refine tS 1 F5 ?_;refine Or.inl (Or.inl ⟨_, k7, ?_⟩);refine tL F5 ?_;refine hk54 _ ?_
          refine hn53 (some ([1, 5, 7, 9, 11, 12, 13], none)) _ ?_;refine eS fun K55 hn55 hr55 he55 => ?_;refine eS fun K56 hn56 hr56 he56 => ?_;refine eO fun K57 hk57 => ?_;refine tC 2 F5 ?_;refine tC 3 F5 ?_;refine tC 1 F5 ?_;refine tL F5 ?_;refine hk57 _ ?_;refine hn56 (some ([1, 5, 7, 9, 11, 12, 81], none)) _ ?_;refine eCf ?_;refine hn55 (some ([1, 5, 7, 9, 11, 12], none)) _ ?_;refine eS fun K58 hn58 hr58 he58 => ?_;refine eS fun K59 hn59 hr59 he59 => ?_;refine eO fun K60 hk60 => ?_;refine tC 3 F5 ?_;refine tC 3 F5 ?_;refine tC 5 F5 ?_;refine tC 1 F5 ?_;refine tL F5 ?_;refine hk60 _ ?_;refine hn59 (some ([1, 5, 7, 9, 11, 12, 94], none)) _ ?_
          refine eCf ?_;refine hn58 (some ([1, 5, 7, 9, 11, 12], none)) _ ?_;refine eO fun K61 hk61 => ?_;refine tZ F5 ?_;refine Or.inr ⟨11, ⟨by decide, hbd⟩, ?_⟩
          refine hk61 _ ?_;refine hn52 _ ?_;refine hn51 (some ([1, 5, 7, 9, 11], none)) _ ?_;refine eO fun K62 hk62 => ?_;refine tC 2 F5 ?_;refine tL F5 ?_;refine hk62 _ ?_;refine hn31 (3 - (0 + 1)) (some ([1, 5, 7, 9, 11], some ([0, 1, 2], 3))) _ ?_ ?_
          all_goals try refine lp0 ?_
          · omega
          · exact ⟨0 + 1, 11, _, _, by omega, by omega, hMet', by omega, by rfl⟩
        · skip
          have z1 : ((1 : Nat) : Int) < 3 := by decide
          have z2 : IntKind.i64.wrap (((1 : Nat) : Int) + 1) = ((2 : Nat) : Int) := by decide
          have z3 : 1 < w.tasks.length := htl (by decide)
          have z4 : (1 : Int) < (w.tasks.length : Int) := by omega
          obtain ⟨y, hy, hyc, hb9⟩ := hT (t := 1) (by decide)
          have k6 := ok_kCode y
          rw [hyc] at k6
          change Ok _ _ (.ifc 148 (.agg (cEra (s 1)))) at k6
          have k7 := ok_eraEra (s 1)
          have z5 : (((1 : Nat) : Int) == 2) = false := by decide
          rw [if_neg (by rw [ho]; decide), ho] at k7
          have F6 := And.intro F2 (And.intro @z1 (And.intro @z2 (And.intro @z3 (And.intro @z4 (And.intro @z5 @hy)))))
          refine eS fun K63 hn63 hr63 he63 => ?_;refine eS fun K64 hn64 hr64 he64 => ?_;refine eO fun K65 hk65 => ?_;refine tZ F6 ?_;refine hk65 _ ?_;refine hn64 (some ([1, 5, 7, 9, 11, 58], none)) _ ?_;refine eCt ?_;refine hn63 (some ([1, 5, 7, 9, 11], none)) _ ?_;refine eS fun K66 hn66 hr66 he66 => ?_;refine eB fun K67 hn67 hx67 hr67 he67 => ?_;refine eS fun K68 hn68 hr68 he68 => ?_;refine eO fun K69 hk69 => ?_;refine tC 2 F6 ?_;refine tC 2 F6 ?_;refine tC 1 F6 ?_;refine tS 1 F6 ?_;refine Or.inl (Or.inl ⟨_, k6, ?_⟩);refine tS 1 F6 ?_;refine Or.inl (Or.inl ⟨_, k7, ?_⟩);refine tL F6 ?_;refine hk69 _ ?_
          refine hn68 (some ([1, 5, 7, 9, 11, 12, 13], none)) _ ?_;refine eS fun K70 hn70 hr70 he70 => ?_;refine eS fun K71 hn71 hr71 he71 => ?_;refine eO fun K72 hk72 => ?_;refine tC 2 F6 ?_;refine tC 3 F6 ?_;refine tC 1 F6 ?_;refine tL F6 ?_;refine hk72 _ ?_;refine hn71 (some ([1, 5, 7, 9, 11, 12, 81], none)) _ ?_;refine eCt ?_;refine he70 3 _ ?_;refine hx67 _ ?_;refine hn66 (some ([1, 5, 7, 9, 11], none)) _ ?_;refine eO fun K73 hk73 => ?_;refine tC 2 F6 ?_;refine tL F6 ?_;refine hk73 _ ?_;refine hn31 (3 - (1 + 1)) (some ([1, 5, 7, 9, 11], some ([0, 1, 2], 3))) _ ?_ ?_
          all_goals try refine lp0 ?_
          · omega
          · exact ⟨1 + 1, M, f, ml, by omega, hM, metE_skip hMet (fun h9 => by rw [ho] at h9; cases h9.2), by omega, by rfl⟩
        · skip
          have z1 : ((1 : Nat) : Int) < 3 := by decide
          have z2 : IntKind.i64.wrap (((1 : Nat) : Int) + 1) = ((2 : Nat) : Int) := by decide
          have z3 : 1 < w.tasks.length := htl (by decide)
          have z4 : (1 : Int) < (w.tasks.length : Int) := by omega
          obtain ⟨y, hy, hyc, hb9⟩ := hT (t := 1) (by decide)
          have k6 := ok_kCode y
          rw [hyc] at k6
          change Ok _ _ (.ifc 148 (.agg (cEra (s 1)))) at k6
          have k7 := ok_eraEra (s 1)
          have z5 : (((1 : Nat) : Int) == 2) = false := by decide
          rw [if_pos ho, ho] at k7
          obtain ⟨b1, b2⟩ := hb9 rfl ho
          have q1 : ¬ (s 1).time < 2 := by omega
          have q2 : ¬ now.val < (s 1).time := by omega
          have q3 : f (s 1).time = none := by rw [hMet.f, if_neg (metE_new hE (by decide) hMet rfl ho)]
          have q4 : -9223372036854775808 ≤ (s 1).time := by omega
          have q5 : (s 1).time ≤ 9223372036854775807 := by omega
          have q6 : (none : Option Sh).getD (.v (.bool false)) = .v (.bool false) := rfl
          have hMet' := metE_add hE (t := 1) (by decide) hMet rfl ho
          have hbd : ∀ j, (if j = (s 1).time then some (sB true) else f j) ≠ none → 0 ≤ j ∧ j < ((11 : Nat) : Int) := fun j hj => (by
            rw [hMet'.f j] at hj
            by_cases e9 : j ∈ (s 1).time :: ml
            · obtain ⟨u, u1, u2, u3, u4⟩ := hMet'.mem j e9
              obtain ⟨y9, _, _, v9⟩ := hT (t := u) (by omega)
              have := v9 u2 u3
              omega
            · rw [if_neg e9] at hj; exact absurd rfl hj)
          have F7 := And.intro F2 (And.intro @z1 (And.intro @z2 (And.intro @z3 (And.intro @z4 (And.intro @z5 (And.intro @hy (And.intro @q1 (And.intro @q2 (And.intro @q3 (And.intro @q4 (And.intro @q5 @q6)))))))))))
          refine eS fun K74 hn74 hr74 he74 => ?_;refine eS fun K75 hn75 hr75 he75 => ?_;refine eO fun K76 hk76 => ?_;refine tZ F7 ?_;refine hk76 _ ?_;refine hn75 (some ([1, 5, 7, 9, 11, 58], none)) _ ?_;refine eCt ?_;refine hn74 (some ([1, 5, 7, 9, 11], none)) _ ?_;refine eS fun K77 hn77 hr77 he77 => ?_;refine eB fun K78 hn78 hx78 hr78 he78 => ?_;refine eS fun K79 hn79 hr79 he79 => ?_;refine eO fun K80 hk80 => ?_;refine tC 2 F7 ?_;refine tC 2 F7 ?_;refine tC 1 F7 ?_;refine tS 1 F7 ?_;refine Or.inl (Or.inl ⟨_, k6, ?_⟩);refine tS 1 F7 ?_;refine Or.inl (Or.inl ⟨_, k7, ?_⟩);refine tL F7 ?_;refine hk80 _ ?_
          refine hn79 (some ([1, 5, 7, 9, 11, 12, 13], none)) _ ?_;refine eS fun K81 hn81 hr81 he81 => ?_;refine eS fun K82 hn82 hr82 he82 => ?_;refine eO fun K83 hk83 => ?_;refine tC 2 F7 ?_;refine tC 3 F7 ?_;refine tC 1 F7 ?_;refine tL F7 ?_;refine hk83 _ ?_;refine hn82 (some ([1, 5, 7, 9, 11, 12, 81], none)) _ ?_;refine eCf ?_;refine hn81 (some ([1, 5, 7, 9, 11, 12], none)) _ ?_;refine eS fun K84 hn84 hr84 he84 => ?_;refine eS fun K85 hn85 hr85 he85 => ?_;refine eO fun K86 hk86 => ?_;refine tC 3 F7 ?_;refine tC 3 F7 ?_;refine tC 5 F7 ?_;refine tC 1 F7 ?_;refine tL F7 ?_;refine hk86 _ ?_;refine hn85 (some ([1, 5, 7, 9, 11, 12, 94], none)) _ ?_
          refine eCf ?_;refine hn84 (some ([1, 5, 7, 9, 11, 12], none)) _ ?_;refine eO fun K87 hk87 => ?_;refine tZ F7 ?_;refine Or.inr ⟨11, ⟨by decide, hbd⟩, ?_⟩
          refine hk87 _ ?_;refine hn78 _ ?_;refine hn77 (some ([1, 5, 7, 9, 11], none)) _ ?_;refine eO fun K88 hk88 => ?_;refine tC 2 F7 ?_;refine tL F7 ?_;refine hk88 _ ?_;refine hn31 (3 - (1 + 1)) (some ([1, 5, 7, 9, 11], some ([0, 1, 2], 3))) _ ?_ ?_
          all_goals try refine lp0 ?_
          · omega
          · exact ⟨1 + 1, 11, _, _, by omega, by omega, hMet', by omega, by rfl⟩
        · skip
          have z1 : ((2 : Nat) : Int) < 3 := by decide
          have z2 : IntKind.i64.wrap (((2 : Nat) : Int) + 1) = ((3 : Nat) : Int) := by decide
          have z3 : 2 < w.tasks.length := htl (by decide)
          have z4 : (2 : Int) < (w.tasks.length : Int) := by omega
          obtain ⟨y, hy, hyc, hb9⟩ := hT (t := 2) (by decide)
          have k6 := ok_kCode y
          rw [hyc] at k6
          change Ok _ _ (.ifc 148 (.agg (cEra (s 2)))) at k6
          have k7 := ok_eraEra (s 2)
          have z5 : (((2 : Nat) : Int) == 2) = true := by decide
          have d1 : (n % 3 != 2) = true := by simpa using hq
          have F8 := And.intro F2 (And.intro @z1 (And.intro @z2 (And.intro @z3 (And.intro @z4 (And.intro @z5 (And.intro @hy (And.intro @r0 @d1)))))))
          refine eS fun K89 hn89 hr89 he89 => ?_;refine eS fun K90 hn90 hr90 he90 => ?_;refine eO fun K91 hk91 => ?_;refine tZ F8 ?_;refine hk91 _ ?_;refine hn90 (some ([1, 5, 7, 9, 11, 58], none)) _ ?_;refine eCt ?_;refine hn89 (some ([1, 5, 7, 9, 11], none)) _ ?_;refine eS fun K92 hn92 hr92 he92 => ?_;refine eB fun K93 hn93 hx93 hr93 he93 => ?_;refine eS fun K94 hn94 hr94 he94 => ?_;refine eO fun K95 hk95 => ?_;refine tC 2 F8 ?_;refine tC 2 F8 ?_;refine tC 1 F8 ?_;refine tS 1 F8 ?_;refine Or.inl (Or.inl ⟨_, k6, ?_⟩);refine tS 1 F8 ?_;refine Or.inl (Or.inl ⟨_, k7, ?_⟩);refine tL F8 ?_;refine hk95 _ ?_
          refine hn94 (some ([1, 5, 7, 9, 11, 12, 13], none)) _ ?_;refine eS fun K96 hn96 hr96 he96 => ?_;refine eS fun K97 hn97 hr97 he97 => ?_;refine eO fun K98 hk98 => ?_;refine tC 2 F8 ?_;refine tC 3 F8 ?_;refine tC 1 F8 ?_;refine tL F8 ?_;refine hk98 _ ?_;refine hn97 (some ([1, 5, 7, 9, 11, 12, 81], none)) _ ?_;refine eCt ?_;refine he96 3 _ ?_;refine hx93 _ ?_;refine hn92 (some ([1, 5, 7, 9, 11], none)) _ ?_;refine eO fun K99 hk99 => ?_;refine tC 2 F8 ?_;refine tL F8 ?_;refine hk99 _ ?_;refine hn31 (3 - (2 + 1)) (some ([1, 5, 7, 9, 11], some ([0, 1, 2], 3))) _ ?_ ?_
          all_goals try refine lp0 ?_
          · omega
          · exact ⟨2 + 1, M, f, ml, by omega, hM, metE_skip hMet (fun h9 => hq h9.1), by omega, by rfl⟩
        · skip
          have z1 : ((2 : Nat) : Int) < 3 := by decide
          have z2 : IntKind.i64.wrap (((2 : Nat) : Int) + 1) = ((3 : Nat) : Int) := by decide
          have z3 : 2 < w.tasks.length := htl (by decide)
          have z4 : (2 : Int) < (w.tasks.length : Int) := by omega
          obtain ⟨y, hy, hyc, hb9⟩ := hT (t := 2) (by decide)
          have k6 := ok_kCode y
          rw [hyc] at k6
          change Ok _ _ (.ifc 148 (.agg (cEra (s 2)))) at k6
          have k7 := ok_eraEra (s 2)
          have z5 : (((2 : Nat) : Int) == 2) = true := by decide
          rw [if_neg (by rw [ho]; decide), ho] at k7
          have d1 : (n % 3 != 2) = false := by simpa using hq
          have F9 := And.intro F2 (And.intro @z1 (And.intro @z2 (And.intro @z3 (And.intro @z4 (And.intro @z5 (And.intro @hy (And.intro @r0 @d1)))))))
          refine eS fun K100 hn100 hr100 he100 => ?_;refine eS fun K101 hn101 hr101 he101 => ?_;refine eO fun K102 hk102 => ?_;refine tZ F9 ?_;refine hk102 _ ?_;refine hn101 (some ([1, 5, 7, 9, 11, 58], none)) _ ?_;refine eCt ?_;refine hn100 (some ([1, 5, 7, 9, 11], none)) _ ?_;refine eS fun K103 hn103 hr103 he103 => ?_;refine eB fun K104 hn104 hx104 hr104 he104 => ?_;refine eS fun K105 hn105 hr105 he105 => ?_;refine eO fun K106 hk106 => ?_;refine tC 2 F9 ?_;refine tC 2 F9 ?_;refine tC 1 F9 ?_;refine tS 1 F9 ?_;refine Or.inl (Or.inl ⟨_, k6, ?_⟩);refine tS 1 F9 ?_;refine Or.inl (Or.inl ⟨_, k7, ?_⟩)
          refine tL F9 ?_;refine hk106 _ ?_;refine hn105 (some ([1, 5, 7, 9, 11, 12, 13], none)) _ ?_;refine eS fun K107 hn107 hr107 he107 => ?_;refine eS fun K108 hn108 hr108 he108 => ?_;refine eO fun K109 hk109 => ?_;refine tC 2 F9 ?_;refine tC 3 F9 ?_;refine tC 1 F9 ?_;refine tL F9 ?_;refine hk109 _ ?_;refine hn108 (some ([1, 5, 7, 9, 11, 12, 81], none)) _ ?_;refine eCt ?_;refine he107 3 _ ?_;refine hx104 _ ?_;refine hn103 (some ([1, 5, 7, 9, 11], none)) _ ?_;refine eO fun K110 hk110 => ?_;refine tC 2 F9 ?_;refine tL F9 ?_;refine hk110 _ ?_;refine hn31 (3 - (2 + 1)) (some ([1, 5, 7, 9, 11], some ([0, 1, 2], 3))) _ ?_ ?_
          all_goals try refine lp0 ?_
          · omega
          · exact ⟨2 + 1, M, f, ml, by omega, hM, metE_skip hMet (fun h9 => by rw [ho] at h9; cases h9.2), by omega, by rfl⟩
        · skip
          have z1 : ((2 : Nat) : Int) < 3 := by decide
          have z2 : IntKind.i64.wrap (((2 : Nat) : Int) + 1) = ((3 : Nat) : Int) := by decide
          have z3 : 2 < w.tasks.length := htl (by decide)
          have z4 : (2 : Int) < (w.tasks.length : Int) := by omega
          obtain ⟨y, hy, hyc, hb9⟩ := hT (t := 2) (by decide)
          have k6 := ok_kCode y
          rw [hyc] at k6
          change Ok _ _ (.ifc 148 (.agg (cEra (s 2)))) at k6
          have k7 := ok_eraEra (s 2)
          have z5 : (((2 : Nat) : Int) == 2) = true := by decide
          rw [if_pos ho, ho] at k7
          obtain ⟨b1, b2⟩ := hb9 hq ho
          have q1 : ¬ (s 2).time < 2 := by omega
          have q2 : ¬ now.val < (s 2).time := by omega
          have q3 : f (s 2).time = none := by rw [hMet.f, if_neg (metE_new hE (by decide) hMet hq ho)]
          have q4 : -9223372036854775808 ≤ (s 2).time := by omega
          have q5 : (s 2).time ≤ 9223372036854775807 := by omega
          have q6 : (none : Option Sh).getD (.v (.bool false)) = .v (.bool false) := rfl
          have hMet' := metE_add hE (t := 2) (by decide) hMet hq ho
          have hbd : ∀ j, (if j = (s 2).time then some (sB true) else f j) ≠ none → 0 ≤ j ∧ j < ((11 : Nat) : Int) := fun j hj => (by
            rw [hMet'.f j] at hj
            by_cases e9 : j ∈ (s 2).time :: ml
            · obtain ⟨u, u1, u2, u3, u4⟩ := hMet'.mem j e9
              obtain ⟨y9, _, _, v9⟩ := hT (t := u) (by omega)
              have := v9 u2 u3
              omega
            · rw [if_neg e9] at hj; exact absurd rfl hj)
          have d1 : (n % 3 != 2) = false := by simpa using hq
          have F10 := And.intro F2 (And.intro @z1 (And.intro @z2 (And.intro @z3 (And.intro @z4 (And.intro @z5 (And.intro @hy (And.intro @q1 (And.intro @q2 (And.intro @q3 (And.intro @q4 (And.intro @q5 (And.intro @q6 (And.intro @r0 @d1)))))))))))))
          refine eS fun K111 hn111 hr111 he111 => ?_;refine eS fun K112 hn112 hr112 he112 => ?_;refine eO fun K113 hk113 => ?_;refine tZ F10 ?_;refine hk113 _ ?_;refine hn112 (some ([1, 5, 7, 9, 11, 58], none)) _ ?_;refine eCt ?_;refine hn111 (some ([1, 5, 7, 9, 11], none)) _ ?_;refine eS fun K114 hn114 hr114 he114 => ?_;refine eB fun K115 hn115 hx115 hr115 he115 => ?_;refine eS fun K116 hn116 hr116 he116 => ?_;refine eO fun K117 hk117 => ?_;refine tC 2 F10 ?_;refine tC 2 F10 ?_;refine tC 1 F10 ?_;refine tS 1 F10 ?_;refine Or.inl (Or.inl ⟨_, k6, ?_⟩);refine tS 1 F10 ?_;refine Or.inl (Or.inl ⟨_, k7, ?_⟩)
          refine tL F10 ?_;refine hk117 _ ?_;refine hn116 (some ([1, 5, 7, 9, 11, 12, 13], none)) _ ?_;refine eS fun K118 hn118 hr118 he118 => ?_;refine eS fun K119 hn119 hr119 he119 => ?_;refine eO fun K120 hk120 => ?_;refine tC 2 F10 ?_;refine tC 3 F10 ?_;refine tC 1 F10 ?_;refine tL F10 ?_;refine hk120 _ ?_;refine hn119 (some ([1, 5, 7, 9, 11, 12, 81], none)) _ ?_;refine eCf ?_;refine hn118 (some ([1, 5, 7, 9, 11, 12], none)) _ ?_;refine eS fun K121 hn121 hr121 he121 => ?_;refine eS fun K122 hn122 hr122 he122 => ?_;refine eO fun K123 hk123 => ?_;refine tC 3 F10 ?_;refine tC 3 F10 ?_;refine tC 5 F10 ?_
          refine tC 1 F10 ?_;refine tL F10 ?_;refine hk123 _ ?_;refine hn122 (some ([1, 5, 7, 9, 11, 12, 94], none)) _ ?_;refine eCf ?_;refine hn121 (some ([1, 5, 7, 9, 11, 12], none)) _ ?_;refine eO fun K124 hk124 => ?_;refine tZ F10 ?_;refine Or.inr ⟨11, ⟨by decide, hbd⟩, ?_⟩
          refine hk124 _ ?_;refine hn115 _ ?_;refine hn114 (some ([1, 5, 7, 9, 11], none)) _ ?_;refine eO fun K125 hk125 => ?_;refine tC 2 F10 ?_;refine tL F10 ?_;refine hk125 _ ?_;refine hn31 (3 - (2 + 1)) (some ([1, 5, 7, 9, 11], some ([0, 1, 2], 3))) _ ?_ ?_
          all_goals try refine lp0 ?_
          · omega
          · exact ⟨2 + 1, 11, _, _, by omega, by omega, hMet', by omega, by rfl⟩
    · skip
      have hcc := (List.getElem?_eq_some_iff.1 hp).1
      have w2 : (i : Int) < (l.length : Int) := by omega
      have F11 := And.intro F1 (And.intro @w2 (And.intro @hp @hpk))
      refine eS fun K126 hn126 hr126 he126 => ?_;refine eS fun K127 hn127 hr127 he127 => ?_;refine eO fun K128 hk128 => ?_;refine tZ F11 ?_;refine hk128 _ ?_;refine hn127 (some ([0, 1, 5, 7, 8, 31], none)) _ ?_;refine eCt ?_;refine hn126 (some ([0, 1, 5, 7, 8], none)) _ ?_;refine eS fun K129 hn129 hr129 he129 => ?_;refine eB fun K130 hn130 hx130 hr130 he130 => ?_;refine eS fun K131 hn131 hr131 he131 => ?_;refine eS fun K132 hn132 hr132 he132 => ?_;refine eO fun K133 hk133 => ?_;refine tC 3 F11 ?_;refine tC 2 F11 ?_;refine tZ F11 ?_;refine hk133 _ ?_;refine hn132 (some ([0, 1, 5, 7, 8, 39], none)) _ ?_
      refine eCt ?_;refine eS fun K134 hn134 hr134 he134 => ?_;refine eO fun K135 hk135 => ?_;refine tL F11 ?_;refine hk135 _ ?_;refine hn134 (some ([4], none)) _ ?_;refine hr131 _ ?_;refine hr130 _ ?_;refine hr129 _ ?_;refine hr20 _ ?_;refine hr19 _ ?_;refine hr16 _ ?_
      exact sf1 F11
    · skip
      have hcc := (List.getElem?_eq_some_iff.1 hp).1
      have w2 : (i : Int) < (l.length : Int) := by omega
      have w3 : IntKind.i64.wrap ((i : Int) + 1) = ((i + 1 : Nat) : Int) := by rw [IntKind.wrap_i64]; omega
      have w4 : (p.kind == 2) = false := by simpa using hpk
      have k3 := ok_kStep w p hW (by omega)
      obtain ⟨s', hE', _, _⟩ := eraW_step hE p hpk
      have hW' := stepOk hW p
      generalize (stepM w p).2 = bb at k3
      generalize (stepM w p).1 = w' at k3 hE' hW'
      have F12 := And.intro F1 (And.intro @w2 (And.intro @w3 (And.intro @hp @w4)))
      refine eS fun K136 hn136 hr136 he136 => ?_;refine eS fun K137 hn137 hr137 he137 => ?_;refine eO fun K138 hk138 => ?_;refine tZ F12 ?_;refine hk138 _ ?_;refine hn137 (some ([0, 1, 5, 7, 8, 31], none)) _ ?_;refine eCt ?_;refine hn136 (some ([0, 1, 5, 7, 8], none)) _ ?_;refine eS fun K139 hn139 hr139 he139 => ?_;refine eB fun K140 hn140 hx140 hr140 he140 => ?_;refine eS fun K141 hn141 hr141 he141 => ?_;refine eS fun K142 hn142 hr142 he142 => ?_;refine eO fun K143 hk143 => ?_;refine tC 3 F12 ?_;refine tC 2 F12 ?_;refine tZ F12 ?_;refine hk143 _ ?_;refine hn142 (some ([0, 1, 5, 7, 8, 39], none)) _ ?_
      refine eCf ?_;refine hn141 (some ([0, 1, 5, 7, 8], none)) _ ?_;refine eD [] (n := 9) fun K144 hk144 => ?_;refine sq0 ?_;refine fC 1 F12 ?_;refine fC 3 F12 ?_;refine fC 1 F12 ?_;refine fS 1 F12 ?_;refine ⟨_, k3, ?_⟩;refine fL F12 ?_;refine hk144 _ ?_;refine sr0 ?_;refine tZ F12 ?_;refine hn140 _ ?_;refine hn139 (some ([0, 1, 5, 7, 8], none)) _ ?_;refine eO fun K146 hk146 => ?_;refine tC 2 F12 ?_;refine tL F12 ?_;refine hk146 _ ?_;refine hn20 (l.length - (i + 1)) (some ([0, 1, 5, 7, 8], some ([0, 1], 2))) _ ?_ ?_
      all_goals try refine lp0 ?_
      · omega
      · exact ⟨i + 1, w', s', by omega, hE', by have e9 : 2 + (i + 1) = 2 + i + 1 := rfl; rw [e9]; exact hW', by omega, by rfl⟩
end Go.Proofs.YtkbgdhomdbolnaaGreatDoor

/-
  EraAsks by shadows.
-/
import Derived.Test.YtkbgdhomdbolnaaGreatDoorK13f
import Derived.Test.YtkbgdhomdbolnaaGreatDoorK13l
import Derived.Test.YtkbgdhomdbolnaaGreatDoorScEraAsks
import Derived.Test.YtkbgdhomdbolnaaGreatDoorMC
namespace Go.Proofs.YtkbgdhomdbolnaaGreatDoor
set_option linter.unusedSimpArgs false
set_option linter.unusedVariables false
open Go.RowKit Go.Maps

def kindK (k t : Int) : KindE := ⟨k % 3, atL planL 0 0 1, atL planL 1 (IntKind.i64.wrap (t - 1)) 0⟩
def codeT (k t : Int) : EraV := if k % 3 = 0 then newE planL t .enter else if k % 3 = 1 then newE planL t .leave1 else newE planL 0 .adv1
/-- A task against the reference: behind i results. -/
structure EaAt (k : KindE) (i : Nat) (y : TaskM era) (s : RefE) (want : ActM) : Prop where
  st : ∃ v, y.code = some v ∧ RelE k v s ∧ y.live = !s.fin
  act : s.fin = false → y.act = want
  ok : TaskOk y i
theorem EaAt.next {k : KindE} {i : Nat} {y : TaskM era} {s : RefE} {want : ActM} (h : EaAt k i y s want) (hf : s.fin = false) (g : GotV) : EaAt k (i + 1) (giveM y g) (refN k s g).1 (refN k s g).2 := by
  obtain ⟨v, hv, hr, hl⟩ := h.st
  obtain ⟨e1, e2, e3⟩ := hr.step g
  have hlive : y.live = true := by rw [hl, hf]; rfl
  have hg : giveM y g = saidM { y with gots := y.gots ++ [g] } (eraNext v g).1 (eraNext v g).2.1 (eraNext v g).2.2 := by
    unfold giveM
    rw [if_pos hlive, hv]
  have hgl := h.ok.gots
  rw [hg, e1, e2]
  unfold saidM
  cases hfin : (refN k s g).1.fin
  · rw [if_neg (by decide)]
    exact ⟨⟨_, rfl, e3, by rw [hfin]; rfl⟩, fun _ => rfl, ⟨by show (y.gots ++ [g]).length ≤ i + 1; simp; omega, fun _ => ⟨_, rfl⟩, fun _ _ => trivial⟩⟩
  · rw [if_pos rfl]
    exact ⟨⟨_, rfl, e3, by rw [hfin]; rfl⟩, fun h' => (by rw [hfin] at h'; cases h'), ⟨by show (y.gots ++ [g]).length ≤ i + 1; simp; omega, fun _ => ⟨_, rfl⟩, fun _ _ => trivial⟩⟩
theorem ea_start (k t : Int) (ht : k % 3 = 2 ∨ (1 ≤ t ∧ t ≤ 3)) : EaAt (kindK k t) 0 (startM (C := era) (codeT k t)) (refN (kindK k t) ⟨0, zWord, false, 0⟩ zGot).1 (refN (kindK k t) ⟨0, zWord, false, 0⟩ zGot).2 := by
  have hc : k % 3 = 0 ∨ k % 3 = 1 ∨ k % 3 = 2 := by omega
  have hmine : ∀ p, 1 ≤ t ∧ t ≤ 3 → newE planL t p = ⟨(kindK k t).era, (kindK k t).mine, 0, 0, false, false, p⟩ := fun p h => by
    unfold newE kindK
    rw [if_neg (by omega)]
  have hbuild : ∀ (s : EraV) (v : EraV) (r : RefE) (a : ActM), codeT k t = s → eraNext s zGot = (v, a, false) → refN (kindK k t) ⟨0, zWord, false, 0⟩ zGot = (r, a) → r.fin = false → RelE (kindK k t) v r → EaAt (kindK k t) 0 (startM (C := era) (codeT k t)) (refN (kindK k t) ⟨0, zWord, false, 0⟩ zGot).1 (refN (kindK k t) ⟨0, zWord, false, 0⟩ zGot).2 := fun s v r a h1 h2 h3 h4 h5 => by
    have e : startM (C := era) s = saidM (zTask era) (eraNext s zGot).1 (eraNext s zGot).2.1 (eraNext s zGot).2.2 := rfl
    rw [h1, h3, e, h2]
    show EaAt _ 0 (saidM (C := era) (zTask era) v a false) r a
    unfold saidM
    rw [if_neg (by decide)]
    exact ⟨⟨v, rfl, h5, by rw [h4]; rfl⟩, fun _ => rfl, ⟨Nat.le_refl _, fun _ => ⟨_, rfl⟩, fun _ _ => trivial⟩⟩
  rcases hc with h | h | h
  · have hw : (kindK k t).what = 0 := h
    have hcode : codeT k t = newE planL t .enter := if_pos h
    rw [hmine _ (by omega)] at hcode
    generalize kindK k t = K at *
    obtain ⟨w, e, m⟩ := K
    obtain rfl : w = 0 := hw
    exact hbuild _ ⟨e, m, 0, 0, false, false, .ann⟩ ⟨1, zWord, false, 0⟩ ⟨5, e, zWord, zWord⟩ hcode rfl rfl rfl (.ann rfl rfl rfl rfl rfl rfl rfl rfl)
  · have hw : (kindK k t).what = 1 := h
    have hcode : codeT k t = newE planL t .leave1 := by unfold codeT; rw [if_neg (by omega), if_pos h]
    rw [hmine _ (by omega)] at hcode
    generalize kindK k t = K at *
    obtain ⟨w, e, m⟩ := K
    obtain rfl : w = 1 := hw
    exact hbuild _ ⟨e, m, 0, 0, false, false, .leave2⟩ ⟨1, zWord, false, 0⟩ ⟨4, m, zWord, zWord⟩ hcode rfl rfl rfl (.leave rfl rfl rfl rfl rfl rfl)
  · have hw : (kindK k t).what = 2 := h
    have he : (kindK k t).era = atL planL 0 0 1 := rfl
    have hcode : codeT k t = ⟨(kindK k t).era, 0, 0, 0, false, false, .adv1⟩ := by unfold codeT; rw [if_neg (by omega), if_neg (by omega)]; rfl
    generalize kindK k t = K at *
    obtain ⟨w, e, m⟩ := K
    obtain rfl : w = 2 := hw
    exact hbuild _ ⟨e, 0, 0, 0, false, false, .raise⟩ ⟨1, zWord, false, 0⟩ ⟨5, e, zWord, zWord⟩ hcode rfl rfl rfl (.adv rfl rfl rfl rfl rfl rfl rfl rfl)
theorem madeK_in (k t : Int) (ht : k % 3 = 2 ∨ (1 ≤ t ∧ t ≤ 3)) : madeK k t = (some (codeT k t), 0) := by
  have hc : checkL planL = 0 := by decide
  have h1 : k % 3 ≠ 2 → checkE planL t = 0 := fun h => by
    unfold checkE
    rw [if_pos hc, if_neg (by show ¬ (t < 1 ∨ (3 : Int) < t); omega)]
  unfold madeK codeT enterE madeE
  rw [if_pos hc]
  split
  · rw [if_pos (h1 (by omega))]
  · split
    · rw [if_pos (h1 (by omega))]
    · rfl
theorem madeK_out (k t : Int) (h3 : k % 3 ≠ 2) (ht : t < 1 ∨ 3 < t) : madeK k t = (none, 3) := by
  have hc : checkL planL = 0 := by decide
  have h1 : checkE planL t = 3 := by
    unfold checkE
    rw [if_pos hc, if_pos (by show (t < 1 ∨ (3 : Int) < t); omega)]
  unfold madeK enterE
  rw [h1]
  split
  · rw [if_neg (by decide)]
  · rw [if_pos (by omega), if_neg (by decide)]
def EaInv (k : KindE) (l : List GotV) (m : Nat) (S : St) : Prop :=
  ∃ (i : Nat) (y : TaskM era) (s : RefE) (want : ActM), i ≤ l.length ∧ EaAt k i y s want ∧ m = l.length - i ∧ S = ⟨[(2, .sl 4 2 (l.map eGot)), (10, .ptr 0 0 0), (11, .ptr 1 0 0), (12, .ptr 2 0 0), (13, .ptr 3 0 0), (14, sI i)], [(0, .box 96 (cKindE k)), (1, .box 98 (cRefE s)), (2, .box 72 (eAct4 want)), (3, .box 77 (eTask y))], 4⟩
theorem ea_ft : EqSh 4 (sB false) (sB true) false := eqsh_bool false true
theorem ea_tf : EqSh 4 (sB true) (sB false) false := eqsh_bool true false
set_option maxHeartbeats 8000000 in
theorem ok_EraAsks (k t : Int) (hk : 0 ≤ k ∧ k ≤ 255) (ht : -9223372036854775808 ≤ t ∧ t ≤ 9223372036854775807) (l : List GotV) : Ok 8 [s8 k, sI t, .sl 4 2 (l.map eGot)] (sB true) := by
  refine ok_of_tr Tryz.func8 tr_EraAsks rfl ?_
  have ka := ok_l13awake
  by_cases h2 : (40 : Int) < (l.length : Int)
  · skip
    unfold evFn sc_EraAsks rv_EraAsks
    have F1 := @h2
    refine eS fun K1 hn1 hr1 he1 => ?_;refine eO fun K2 hk2 => ?_;refine tL F1 ?_;refine hk2 _ ?_;refine hn1 (some ([0, 1, 2], none)) _ ?_;refine eS fun K3 hn3 hr3 he3 => ?_;refine eS fun K4 hn4 hr4 he4 => ?_;refine eO fun K5 hk5 => ?_;refine tS 1 F1 ?_;refine Or.inl (Or.inl ⟨_, ka, ?_⟩);refine tL F1 ?_;refine hk5 _ ?_;refine hn4 (some ([0, 1, 2, 23], none)) _ ?_;refine eCf ?_;refine hn3 (some ([0, 1, 2], none)) _ ?_;refine eS fun K6 hn6 hr6 he6 => ?_;refine eS fun K7 hn7 hr7 he7 => ?_;refine eO fun K8 hk8 => ?_;refine tZ F1 ?_;refine hk8 _ ?_;refine hn7 (some ([0, 1, 2, 26], none)) _ ?_;refine eCt ?_
    refine eS fun K9 hn9 hr9 he9 => ?_;refine eO fun K10 hk10 => ?_;refine tL F1 ?_;refine hk10 _ ?_;refine hn9 (some ([6], none)) _ ?_;refine hr6 _ ?_
    exact sf1 F1
  have kp := ok_l13plan
  have km := ok_l13made k t hk ht
  have w1 : k.tmod 3 = k % 3 := rem3 hk rfl
  have w2 : IntKind.i64.wrap (k % 3) = k % 3 := by rw [IntKind.wrap_i64]; omega
  by_cases h4 : (k % 3 = 2 ∨ (1 ≤ t ∧ t ≤ 3))
  case neg =>
    have h5 : t < 1 ∨ 3 < t := by omega
    have d3 : (k % 3 != 2) = true := by simp; omega
    rw [madeK_out k t (by omega) h5] at km
    generalize planL = L at kp
    by_cases h6 : t < 1
    · skip
      unfold evFn sc_EraAsks rv_EraAsks
      have F1 := And.intro @h2 (And.intro @h6 (And.intro @w1 @d3))
      refine eS fun K1 hn1 hr1 he1 => ?_;refine eO fun K2 hk2 => ?_;refine tL F1 ?_;refine hk2 _ ?_;refine hn1 (some ([0, 1, 2], none)) _ ?_;refine eS fun K3 hn3 hr3 he3 => ?_;refine eS fun K4 hn4 hr4 he4 => ?_;refine eO fun K5 hk5 => ?_;refine tS 1 F1 ?_;refine Or.inl (Or.inl ⟨_, ka, ?_⟩);refine tL F1 ?_;refine hk5 _ ?_;refine hn4 (some ([0, 1, 2, 23], none)) _ ?_;refine eCf ?_;refine hn3 (some ([0, 1, 2], none)) _ ?_;refine eS fun K6 hn6 hr6 he6 => ?_;refine eS fun K7 hn7 hr7 he7 => ?_;refine eO fun K8 hk8 => ?_;refine tZ F1 ?_;refine hk8 _ ?_;refine hn7 (some ([0, 1, 2, 26], none)) _ ?_;refine eCf ?_
      refine hn6 (some ([0, 1, 2], none)) _ ?_;refine eS fun K9 hn9 hr9 he9 => ?_;refine eO fun K10 hk10 => ?_;refine tS 1 F1 ?_;refine Or.inl (Or.inl ⟨_, kp, ?_⟩);refine tZ F1 ?_;refine hk10 _ ?_;refine hn9 (some ([0, 1, 2, 7], none)) _ ?_;refine eS fun K11 hn11 hr11 he11 => ?_;refine eO fun K12 hk12 => ?_;refine tS 2 F1 ?_;refine tS 1 F1 ?_;refine Or.inl (Or.inl ⟨_, km, ?_⟩);refine tL F1 ?_;refine hk12 _ ?_;refine hn11 (some ([0, 1, 2, 7, 8, 9], none)) _ ?_;refine eS fun K13 hn13 hr13 he13 => ?_;refine eS fun K14 hn14 hr14 he14 => ?_;refine eO fun K15 hk15 => ?_;refine tC 2 F1 ?_;refine tC 3 F1 ?_
      refine tC 4 F1 ?_;refine tC 1 F1 ?_;refine tL F1 ?_;refine hk15 _ ?_;refine hn14 (some ([0, 1, 2, 7, 8, 9, 44], none)) _ ?_;refine eCt ?_;refine eS fun K16 hn16 hr16 he16 => ?_;refine eO fun K17 hk17 => ?_;refine tC 2 F1 ?_;refine tS 2 F1 ?_;refine tS 1 F1 ?_;refine ⟨_, gen_nil_eq codeIface, ?_⟩;refine tL F1 ?_;refine hk17 _ ?_;refine hn16 (some ([6], none)) _ ?_;refine hr13 _ ?_
      exact sf1 F1
    · have h7 : 3 < t := by omega
      unfold evFn sc_EraAsks rv_EraAsks
      have F1 := And.intro @h2 (And.intro @h6 (And.intro @h7 (And.intro @w1 @d3)))
      refine eS fun K1 hn1 hr1 he1 => ?_;refine eO fun K2 hk2 => ?_;refine tL F1 ?_;refine hk2 _ ?_;refine hn1 (some ([0, 1, 2], none)) _ ?_;refine eS fun K3 hn3 hr3 he3 => ?_;refine eS fun K4 hn4 hr4 he4 => ?_;refine eO fun K5 hk5 => ?_;refine tS 1 F1 ?_;refine Or.inl (Or.inl ⟨_, ka, ?_⟩);refine tL F1 ?_;refine hk5 _ ?_;refine hn4 (some ([0, 1, 2, 23], none)) _ ?_;refine eCf ?_;refine hn3 (some ([0, 1, 2], none)) _ ?_;refine eS fun K6 hn6 hr6 he6 => ?_;refine eS fun K7 hn7 hr7 he7 => ?_;refine eO fun K8 hk8 => ?_;refine tZ F1 ?_;refine hk8 _ ?_;refine hn7 (some ([0, 1, 2, 26], none)) _ ?_;refine eCf ?_
      refine hn6 (some ([0, 1, 2], none)) _ ?_;refine eS fun K9 hn9 hr9 he9 => ?_;refine eO fun K10 hk10 => ?_;refine tS 1 F1 ?_;refine Or.inl (Or.inl ⟨_, kp, ?_⟩);refine tZ F1 ?_;refine hk10 _ ?_;refine hn9 (some ([0, 1, 2, 7], none)) _ ?_;refine eS fun K11 hn11 hr11 he11 => ?_;refine eO fun K12 hk12 => ?_;refine tS 2 F1 ?_;refine tS 1 F1 ?_;refine Or.inl (Or.inl ⟨_, km, ?_⟩);refine tL F1 ?_;refine hk12 _ ?_;refine hn11 (some ([0, 1, 2, 7, 8, 9], none)) _ ?_;refine eS fun K13 hn13 hr13 he13 => ?_;refine eS fun K14 hn14 hr14 he14 => ?_;refine eO fun K15 hk15 => ?_;refine tC 2 F1 ?_;refine tC 3 F1 ?_
      refine tC 4 F1 ?_;refine tC 1 F1 ?_;refine tL F1 ?_;refine hk15 _ ?_;refine hn14 (some ([0, 1, 2, 7, 8, 9, 44], none)) _ ?_;refine eCt ?_;refine eS fun K16 hn16 hr16 he16 => ?_;refine eO fun K17 hk17 => ?_;refine tC 2 F1 ?_;refine tS 2 F1 ?_;refine tS 1 F1 ?_;refine ⟨_, gen_nil_eq codeIface, ?_⟩;refine tL F1 ?_;refine hk17 _ ?_;refine hn16 (some ([6], none)) _ ?_;refine hr13 _ ?_
      exact sf1 F1
  rw [madeK_in k t h4] at km
  have k3 := ok_layEra planL
  have k4 := ok_layAnn planL t ht
  have k5 := ok_r13Next (kindK k t) ⟨0, zWord, false, 0⟩ zGot
  have k6 := ok_kStart (C := era) (codeT k t) (n := 0) trivial (by decide)
  change Ok _ [.ifc 148 (.agg (cEra (codeT k t)))] _ at k6
  have hS := ea_start k t h4
  have hK := shK era
  change Ok _ [.agg [sI (k % 3), sI (atL planL 0 0 1), sI (atL planL 1 (IntKind.i64.wrap (t - 1)) 0)], .agg [sI 0, sI 0, sU 0, sU 0, sB false, sI 0], .agg [sI 0, sU 0, sU 0, sB false]] (.tup [.agg (cRefE (refN (kindK k t) ⟨0, zWord, false, 0⟩ zGot).1), .agg (eAct4 (refN (kindK k t) ⟨0, zWord, false, 0⟩ zGot).2)]) at k5
  obtain ⟨K, hKK⟩ : ∃ K, K = kindK k t := ⟨_, rfl⟩
  have hKw : K.what = k % 3 := by rw [hKK]; rfl
  have hKe : K.era = atL planL 0 0 1 := by rw [hKK]; rfl
  have hKm : K.mine = atL planL 1 (IntKind.i64.wrap (t - 1)) 0 := by rw [hKK]; rfl
  rw [← hKK] at hS k5
  clear hKK
  generalize atL planL 0 0 1 = pe at k3 k5 hKe
  generalize atL planL 1 (IntKind.i64.wrap (t - 1)) 0 = pm at k4 k5 hKm
  generalize planL = L at kp k3 k4
  obtain ⟨kw, ke, km'⟩ := K
  simp only at hKw hKe hKm
  subst hKe hKm
  generalize codeT k t = c0 at km k6 hS
  generalize startM (C := era) c0 = y0 at k6 hS
  generalize (refN ⟨kw, ke, km'⟩ ⟨0, zWord, false, 0⟩ zGot).1 = s0 at k5 hS
  generalize (refN ⟨kw, ke, km'⟩ ⟨0, zWord, false, 0⟩ zGot).2 = a0 at k5 hS
  rw [← hKw] at k5
  have hcase : (¬ t < 1 ∧ ¬ 3 < t) ∨ (t < 1 ∧ (kw != 2) = false) ∨ (¬ t < 1 ∧ 3 < t ∧ (kw != 2) = false) := by
    rw [hKw]
    rcases h4 with h4 | h4
    · rw [h4]
      by_cases h6 : t < 1
      · exact .inr (.inl ⟨h6, rfl⟩)
      · by_cases h7 : 3 < t
        · exact .inr (.inr ⟨h6, h7, rfl⟩)
        · exact .inl ⟨h6, h7⟩
    · exact .inl ⟨by omega, by omega⟩
  rw [← hKw] at w1 w2
  clear hKw
  rcases hcase with ⟨h6, h7⟩ | ⟨h6, d3⟩ | ⟨h6, h7, d3⟩
  · skip
    unfold evFn sc_EraAsks rv_EraAsks
    have F1 := And.intro @h2 (And.intro @h6 (And.intro @h7 (And.intro @w1 (And.intro @w2 @hK))))
    refine eS fun K1 hn1 hr1 he1 => ?_;refine eO fun K2 hk2 => ?_;refine tL F1 ?_;refine hk2 _ ?_;refine hn1 (some ([0, 1, 2], none)) _ ?_;refine eS fun K3 hn3 hr3 he3 => ?_;refine eS fun K4 hn4 hr4 he4 => ?_;refine eO fun K5 hk5 => ?_;refine tS 1 F1 ?_;refine Or.inl (Or.inl ⟨_, ka, ?_⟩);refine tL F1 ?_;refine hk5 _ ?_;refine hn4 (some ([0, 1, 2, 23], none)) _ ?_;refine eCf ?_;refine hn3 (some ([0, 1, 2], none)) _ ?_;refine eS fun K6 hn6 hr6 he6 => ?_;refine eS fun K7 hn7 hr7 he7 => ?_;refine eO fun K8 hk8 => ?_;refine tZ F1 ?_;refine hk8 _ ?_;refine hn7 (some ([0, 1, 2, 26], none)) _ ?_;refine eCf ?_
    refine hn6 (some ([0, 1, 2], none)) _ ?_;refine eS fun K9 hn9 hr9 he9 => ?_;refine eO fun K10 hk10 => ?_;refine tS 1 F1 ?_;refine Or.inl (Or.inl ⟨_, kp, ?_⟩);refine tZ F1 ?_;refine hk10 _ ?_;refine hn9 (some ([0, 1, 2, 7], none)) _ ?_;refine eS fun K11 hn11 hr11 he11 => ?_;refine eO fun K12 hk12 => ?_;refine tS 2 F1 ?_;refine tS 1 F1 ?_;refine Or.inl (Or.inl ⟨_, km, ?_⟩);refine tL F1 ?_;refine hk12 _ ?_;refine hn11 (some ([0, 1, 2, 7, 8, 9], none)) _ ?_;refine eS fun K13 hn13 hr13 he13 => ?_;refine eS fun K14 hn14 hr14 he14 => ?_;refine eO fun K15 hk15 => ?_;refine tC 2 F1 ?_;refine tC 3 F1 ?_
    refine tC 4 F1 ?_;refine tC 1 F1 ?_;refine tL F1 ?_;refine hk15 _ ?_;refine hn14 (some ([0, 1, 2, 7, 8, 9, 44], none)) _ ?_;refine eCf ?_;refine hn13 (some ([0, 1, 2, 7, 8, 9], none)) _ ?_;refine eS fun K16 hn16 hr16 he16 => ?_;refine eS fun K17 hn17 hr17 he17 => ?_;refine eO fun K18 hk18 => ?_;refine tC 2 F1 ?_;refine tS 2 F1 ?_;refine tS 1 F1 ?_;refine ⟨_, gen_some_eq codeIface, ?_⟩;refine tL F1 ?_;refine hk18 _ ?_;refine hn17 (some ([0, 1, 2, 7, 8, 56], none)) _ ?_;refine eCf ?_;refine hn16 (some ([0, 1, 2, 7, 8], none)) _ ?_;refine eS fun K19 hn19 hr19 he19 => ?_;refine eD [] (n := 10) fun K20 hk20 => ?_
    refine sq0 ?_;refine fC 2 F1 ?_;refine fC 2 F1 ?_;refine fS 1 F1 ?_;refine ⟨_, k3, ?_⟩;refine fC 1 F1 ?_;refine fS 1 F1 ?_;refine fS 1 F1 ?_;refine ⟨_, k4, ?_⟩;refine fL F1 ?_;refine hk20 _ ?_;refine sr0 ?_;refine tZ F1 ?_;refine hn19 (some ([2, 8, 10], none)) _ ?_;refine eS fun K22 hn22 hr22 he22 => ?_;refine eO fun K23 hk23 => ?_;refine tC 1 F1 ?_;refine tS 2 F1 ?_;refine tS 1 F1 ?_;refine Or.inl (Or.inl ⟨_, k5, ?_⟩);refine tC 6 F1 ?_;refine tZ F1 ?_;refine hk23 _ ?_;refine hn22 (some ([2, 8, 10, 11, 12], none)) _ ?_;refine eS fun K24 hn24 hr24 he24 => ?_;refine eO fun K25 hk25 => ?_;refine tS 1 F1 ?_
    refine tS 1 F1 ?_;refine Or.inl (Or.inl ⟨_, k6, ?_⟩);refine tZ F1 ?_;refine hk25 _ ?_;refine hn24 (some ([2, 10, 11, 12, 13], none)) _ ?_;refine eS fun K26 hn26 hr26 he26 => ?_;refine eS fun K27 hn27 hr27 he27 => ?_;refine eO fun K28 hk28 => ?_;refine tL F1 ?_;refine hk28 _ ?_;refine hn27 (some ([2, 10, 11, 12, 13, 14], none)) _ ?_;refine eB fun K29 hn29 hx29 hr29 he29 => ?_;refine eW (EaInv ⟨kw, ke, km'⟩ l) (l.length) (some ([2, 10, 11, 12, 13, 14], some ([1, 2, 3, 4], 4))) ([]) ?_ ?_
    · try refine lp0 ?_
      rcases eFn_cases era y0.code y0.live with e | ⟨f, l', e⟩
      all_goals rcases eCode_cases era y0.code with e2 | ⟨t2, x2, e2⟩
      all_goals exact ⟨0, y0, s0, a0, by omega, hS, by omega, by simp only [eTask, e, e2]; rfl⟩
    · intro k S1 hI
      obtain ⟨i, y, s, want, hi, hy, rfl, rfl⟩ := hI
      obtain ⟨⟨v, hv, hr, hl⟩, hact, hok⟩ := hy
      have hfin := hr.fin
      have hnx := fun h => EaAt.next ⟨⟨v, hv, hr, hl⟩, hact, hok⟩ h
      obtain ⟨pt, last, dn, re⟩ := s
      simp only at hl hact hfin hnx
      have k8 := ok_eraEra v
      rw [hfin.2, hfin.1] at k8
      have k7 := ok_kAct y
      have k10 := ok_kDone y
      have k9 := ok_kCode y
      rw [hl] at k7 k10
      rw [hv] at k9
      change Ok _ _ (.ifc 148 (.agg (cEra v))) at k9
      have hcase : (dn = true ∧ i = l.length) ∨ (dn = true ∧ i < l.length) ∨ (dn = false ∧ i = l.length) ∨ (dn = false ∧ i < l.length) := by
        cases dn
        · rcases Nat.lt_or_ge i l.length with h | h
          · exact .inr (.inr (.inr ⟨rfl, h⟩))
          · exact .inr (.inr (.inl ⟨rfl, by omega⟩))
        · rcases Nat.lt_or_ge i l.length with h | h
          · exact .inr (.inl ⟨rfl, h⟩)
          · exact .inl ⟨rfl, by omega⟩
      have w3 : (i : Int) ≤ (l.length : Int) := by omega
      intro K30 hn30 hr30 he30
      rcases hcase with ⟨rfl, hcc⟩ | ⟨rfl, hcc⟩ | ⟨rfl, hcc⟩ | ⟨rfl, hcc⟩
      · skip
        have w5 : ((i : Int) == (l.length : Int)) = true := by simp; omega
        have F2 := And.intro F1 (And.intro @w3 @w5)
        refine eS fun K31 hn31 hr31 he31 => ?_;refine eS fun K32 hn32 hr32 he32 => ?_;refine eO fun K33 hk33 => ?_;refine tZ F2 ?_;refine hk33 _ ?_;refine hn32 (some ([2, 10, 11, 12, 13, 14, 78], none)) _ ?_;refine eCt ?_;refine hn31 (some ([2, 10, 11, 12, 13, 14], none)) _ ?_;refine eS fun K34 hn34 hr34 he34 => ?_;refine eB fun K35 hn35 hx35 hr35 he35 => ?_;refine eS fun K36 hn36 hr36 he36 => ?_;refine eO fun K37 hk37 => ?_;refine tC 1 F2 ?_;refine tS 1 F2 ?_;refine Or.inl (Or.inl ⟨_, k7, ?_⟩);refine tC 5 F2 ?_;refine tL F2 ?_;refine hk37 _ ?_;refine hn36 (some ([2, 10, 11, 12, 13, 14, 15, 16], none)) _ ?_
        refine eS fun K38 hn38 hr38 he38 => ?_;refine eO fun K39 hk39 => ?_;refine tC 1 F2 ?_;refine tS 1 F2 ?_;refine Or.inl (Or.inl ⟨_, k9, ?_⟩);refine tS 1 F2 ?_;refine Or.inl (Or.inl ⟨_, k8, ?_⟩);refine tL F2 ?_;refine hk39 _ ?_;refine hn38 (some ([2, 10, 11, 12, 13, 14, 15, 16, 17, 18], none)) _ ?_;refine eS fun K40 hn40 hr40 he40 => ?_;refine eS fun K41 hn41 hr41 he41 => ?_;refine eD [] (n := 28) fun K42 hk42 => ?_;refine sq0 ?_;refine fC 3 F2 ?_;refine fS 1 F2 ?_;refine ⟨_, ea_ft, ?_⟩;refine fC 2 F2 ?_;refine fS 1 F2 ?_;refine ⟨_, k10, ?_⟩;refine fC 2 F2 ?_;refine fS 1 F2 ?_;refine ⟨_, eqsh_bool _ _, ?_⟩
        refine fC 5 F2 ?_;refine fS 1 F2 ?_;refine ⟨_, eqsh_bool _ _, ?_⟩;refine fC 5 F2 ?_;refine fC 1 F2 ?_;refine fC 5 F2 ?_;refine fZ F2 ?_;refine hk42 _ ?_;refine sr0 ?_;refine tS 1 F2 ?_
        skip
        refine tL F2 ?_;refine hn41 (some ([2, 10, 11, 12, 13, 14, 15, 122], none)) _ ?_;refine eCf ?_;refine hn40 (some ([2, 10, 11, 12, 13, 14, 15], none)) _ ?_;refine eS fun K44 hn44 hr44 he44 => ?_;refine eS fun K45 hn45 hr45 he45 => ?_;refine eO fun K46 hk46 => ?_;refine tC 4 F2 ?_;refine tC 3 F2 ?_;refine tL F2 ?_;refine hk46 _ ?_;refine hn45 (some ([2, 10, 11, 12, 13, 14, 15, 130], none)) _ ?_;refine eCt ?_;refine eS fun K47 hn47 hr47 he47 => ?_;refine eO fun K48 hk48 => ?_;refine tL F2 ?_;refine hk48 _ ?_;refine hn47 (some ([6], none)) _ ?_;refine hr44 _ ?_;refine hr35 _ ?_;refine hr34 _ ?_
        refine hr30 _ ?_;refine hr29 _ ?_;refine hr26 _ ?_
        exact sf1 F2
      · skip
        have w5 : ((i : Int) == (l.length : Int)) = false := by simp; omega
        have F3 := And.intro F1 (And.intro @w3 @w5)
        refine eS fun K49 hn49 hr49 he49 => ?_;refine eS fun K50 hn50 hr50 he50 => ?_;refine eO fun K51 hk51 => ?_;refine tZ F3 ?_;refine hk51 _ ?_;refine hn50 (some ([2, 10, 11, 12, 13, 14, 78], none)) _ ?_;refine eCt ?_;refine hn49 (some ([2, 10, 11, 12, 13, 14], none)) _ ?_;refine eS fun K52 hn52 hr52 he52 => ?_;refine eB fun K53 hn53 hx53 hr53 he53 => ?_;refine eS fun K54 hn54 hr54 he54 => ?_;refine eO fun K55 hk55 => ?_;refine tC 1 F3 ?_;refine tS 1 F3 ?_;refine Or.inl (Or.inl ⟨_, k7, ?_⟩);refine tC 5 F3 ?_;refine tL F3 ?_;refine hk55 _ ?_;refine hn54 (some ([2, 10, 11, 12, 13, 14, 15, 16], none)) _ ?_
        refine eS fun K56 hn56 hr56 he56 => ?_;refine eO fun K57 hk57 => ?_;refine tC 1 F3 ?_;refine tS 1 F3 ?_;refine Or.inl (Or.inl ⟨_, k9, ?_⟩);refine tS 1 F3 ?_;refine Or.inl (Or.inl ⟨_, k8, ?_⟩);refine tL F3 ?_;refine hk57 _ ?_;refine hn56 (some ([2, 10, 11, 12, 13, 14, 15, 16, 17, 18], none)) _ ?_;refine eS fun K58 hn58 hr58 he58 => ?_;refine eS fun K59 hn59 hr59 he59 => ?_;refine eD [] (n := 28) fun K60 hk60 => ?_;refine sq0 ?_;refine fC 3 F3 ?_;refine fS 1 F3 ?_;refine ⟨_, ea_ft, ?_⟩;refine fC 2 F3 ?_;refine fS 1 F3 ?_;refine ⟨_, k10, ?_⟩;refine fC 2 F3 ?_;refine fS 1 F3 ?_;refine ⟨_, eqsh_bool _ _, ?_⟩
        refine fC 5 F3 ?_;refine fS 1 F3 ?_;refine ⟨_, eqsh_bool _ _, ?_⟩;refine fC 5 F3 ?_;refine fC 1 F3 ?_;refine fC 5 F3 ?_;refine fZ F3 ?_;refine hk60 _ ?_;refine sr0 ?_;refine tS 1 F3 ?_
        skip
        refine tL F3 ?_;refine hn59 (some ([2, 10, 11, 12, 13, 14, 15, 122], none)) _ ?_;refine eCf ?_;refine hn58 (some ([2, 10, 11, 12, 13, 14, 15], none)) _ ?_;refine eS fun K62 hn62 hr62 he62 => ?_;refine eS fun K63 hn63 hr63 he63 => ?_;refine eO fun K64 hk64 => ?_;refine tC 4 F3 ?_;refine tC 3 F3 ?_;refine tL F3 ?_;refine hk64 _ ?_;refine hn63 (some ([2, 10, 11, 12, 13, 14, 15, 130], none)) _ ?_;refine eCt ?_;refine eS fun K65 hn65 hr65 he65 => ?_;refine eO fun K66 hk66 => ?_;refine tL F3 ?_;refine hk66 _ ?_;refine hn65 (some ([6], none)) _ ?_;refine hr62 _ ?_;refine hr53 _ ?_;refine hr52 _ ?_
        refine hr30 _ ?_;refine hr29 _ ?_;refine hr26 _ ?_
        exact sf1 F3
      · skip
        have w4 := hact rfl
        have w5 : ((i : Int) == (l.length : Int)) = true := by simp; omega
        rw [w4] at k7
        have F4 := And.intro F1 (And.intro @w3 @w5)
        refine eS fun K67 hn67 hr67 he67 => ?_;refine eS fun K68 hn68 hr68 he68 => ?_;refine eO fun K69 hk69 => ?_;refine tZ F4 ?_;refine hk69 _ ?_;refine hn68 (some ([2, 10, 11, 12, 13, 14, 78], none)) _ ?_;refine eCt ?_;refine hn67 (some ([2, 10, 11, 12, 13, 14], none)) _ ?_;refine eS fun K70 hn70 hr70 he70 => ?_;refine eB fun K71 hn71 hx71 hr71 he71 => ?_;refine eS fun K72 hn72 hr72 he72 => ?_;refine eO fun K73 hk73 => ?_;refine tC 1 F4 ?_;refine tS 1 F4 ?_;refine Or.inl (Or.inl ⟨_, k7, ?_⟩);refine tC 5 F4 ?_;refine tL F4 ?_;refine hk73 _ ?_;refine hn72 (some ([2, 10, 11, 12, 13, 14, 15, 16], none)) _ ?_
        refine eS fun K74 hn74 hr74 he74 => ?_;refine eO fun K75 hk75 => ?_;refine tC 1 F4 ?_;refine tS 1 F4 ?_;refine Or.inl (Or.inl ⟨_, k9, ?_⟩);refine tS 1 F4 ?_;refine Or.inl (Or.inl ⟨_, k8, ?_⟩);refine tL F4 ?_;refine hk75 _ ?_;refine hn74 (some ([2, 10, 11, 12, 13, 14, 15, 16, 17, 18], none)) _ ?_;refine eS fun K76 hn76 hr76 he76 => ?_;refine eS fun K77 hn77 hr77 he77 => ?_;refine eD [] (n := 28) fun K78 hk78 => ?_;refine sq0 ?_;refine fC 3 F4 ?_;refine fS 1 F4 ?_;refine ⟨_, ea_tf, ?_⟩;refine fC 2 F4 ?_;refine fS 1 F4 ?_;refine ⟨_, k10, ?_⟩;refine fC 2 F4 ?_;refine fS 1 F4 ?_;refine ⟨_, eqsh_bool _ _, ?_⟩
        refine fC 5 F4 ?_;refine fS 1 F4 ?_;refine ⟨_, eqsh_bool _ _, ?_⟩;refine fC 5 F4 ?_;refine fC 1 F4 ?_;refine fC 5 F4 ?_;refine fZ F4 ?_;refine hk78 _ ?_;refine sr0 ?_;refine tS 1 F4 ?_;refine Or.inl ⟨_, eqsh_act_refl _ _ _ _, ?_⟩;refine tL F4 ?_;refine hn77 (some ([2, 10, 11, 12, 13, 14, 15, 122], none)) _ ?_;refine eCf ?_;refine hn76 (some ([2, 10, 11, 12, 13, 14, 15], none)) _ ?_;refine eS fun K80 hn80 hr80 he80 => ?_;refine eS fun K81 hn81 hr81 he81 => ?_;refine eO fun K82 hk82 => ?_;refine tC 4 F4 ?_;refine tC 3 F4 ?_;refine tL F4 ?_;refine hk82 _ ?_;refine hn81 (some ([2, 10, 11, 12, 13, 14, 15, 130], none)) _ ?_
        refine eCt ?_;refine eS fun K83 hn83 hr83 he83 => ?_;refine eO fun K84 hk84 => ?_;refine tL F4 ?_;refine hk84 _ ?_;refine hn83 (some ([6], none)) _ ?_;refine hr80 _ ?_;refine hr71 _ ?_;refine hr70 _ ?_;refine hr30 _ ?_;refine hr29 _ ?_;refine hr26 _ ?_
        exact sf1 F4
      · skip
        have w4 := hact rfl
        have w5 : ((i : Int) == (l.length : Int)) = false := by simp; omega
        have w6 : (i : Int) < (l.length : Int) := by omega
        have w7 : IntKind.i64.wrap ((i : Int) + 1) = ((i + 1 : Nat) : Int) := by rw [IntKind.wrap_i64]; omega
        rw [w4] at k7
        obtain ⟨g, hg⟩ : ∃ g, l[i]? = some g := ⟨_, List.getElem?_eq_getElem hcc⟩
        have k11 := ok_kGive y g hok (by omega)
        have k13 := ok_r13Next ⟨kw, ke, km'⟩ ⟨pt, last, false, re⟩ g
        have hny := hnx rfl g
        have F5 := And.intro F1 (And.intro @w3 (And.intro @w5 (And.intro @w6 (And.intro @w7 @hg))))
        refine eS fun K85 hn85 hr85 he85 => ?_;refine eS fun K86 hn86 hr86 he86 => ?_;refine eO fun K87 hk87 => ?_;refine tZ F5 ?_;refine hk87 _ ?_;refine hn86 (some ([2, 10, 11, 12, 13, 14, 78], none)) _ ?_;refine eCt ?_;refine hn85 (some ([2, 10, 11, 12, 13, 14], none)) _ ?_;refine eS fun K88 hn88 hr88 he88 => ?_;refine eB fun K89 hn89 hx89 hr89 he89 => ?_;refine eS fun K90 hn90 hr90 he90 => ?_;refine eO fun K91 hk91 => ?_;refine tC 1 F5 ?_;refine tS 1 F5 ?_;refine Or.inl (Or.inl ⟨_, k7, ?_⟩);refine tC 5 F5 ?_;refine tL F5 ?_;refine hk91 _ ?_;refine hn90 (some ([2, 10, 11, 12, 13, 14, 15, 16], none)) _ ?_
        refine eS fun K92 hn92 hr92 he92 => ?_;refine eO fun K93 hk93 => ?_;refine tC 1 F5 ?_;refine tS 1 F5 ?_;refine Or.inl (Or.inl ⟨_, k9, ?_⟩);refine tS 1 F5 ?_;refine Or.inl (Or.inl ⟨_, k8, ?_⟩);refine tL F5 ?_;refine hk93 _ ?_;refine hn92 (some ([2, 10, 11, 12, 13, 14, 15, 16, 17, 18], none)) _ ?_;refine eS fun K94 hn94 hr94 he94 => ?_;refine eS fun K95 hn95 hr95 he95 => ?_;refine eD [] (n := 28) fun K96 hk96 => ?_;refine sq0 ?_;refine fC 3 F5 ?_;refine fS 1 F5 ?_;refine ⟨_, ea_tf, ?_⟩;refine fC 2 F5 ?_;refine fS 1 F5 ?_;refine ⟨_, k10, ?_⟩;refine fC 2 F5 ?_;refine fS 1 F5 ?_;refine ⟨_, eqsh_bool _ _, ?_⟩
        refine fC 5 F5 ?_;refine fS 1 F5 ?_;refine ⟨_, eqsh_bool _ _, ?_⟩;refine fC 5 F5 ?_;refine fC 1 F5 ?_;refine fC 5 F5 ?_;refine fZ F5 ?_;refine hk96 _ ?_;refine sr0 ?_;refine tS 1 F5 ?_;refine Or.inl ⟨_, eqsh_act_refl _ _ _ _, ?_⟩;refine tL F5 ?_;refine hn95 (some ([2, 10, 11, 12, 13, 14, 15, 122], none)) _ ?_;refine eCf ?_;refine hn94 (some ([2, 10, 11, 12, 13, 14, 15], none)) _ ?_;refine eS fun K98 hn98 hr98 he98 => ?_;refine eS fun K99 hn99 hr99 he99 => ?_;refine eO fun K100 hk100 => ?_;refine tC 4 F5 ?_;refine tC 3 F5 ?_;refine tL F5 ?_;refine hk100 _ ?_;refine hn99 (some ([2, 10, 11, 12, 13, 14, 15, 130], none)) _ ?_
        refine eCf ?_;refine hn98 (some ([2, 10, 11, 12, 13, 14, 15], none)) _ ?_;refine eS fun K101 hn101 hr101 he101 => ?_;refine eD [] (n := 7) fun K102 hk102 => ?_;refine sq0 ?_;refine fC 1 F5 ?_;refine fC 3 F5 ?_;refine fC 1 F5 ?_;refine fS 1 F5 ?_;refine ⟨_, k11, ?_⟩;refine fL F5 ?_;refine hk102 _ ?_;refine sr0 ?_;refine tZ F5 ?_;refine hn101 (some ([2, 10, 11, 12, 13, 14, 15, 19], none)) _ ?_;refine eS fun K104 hn104 hr104 he104 => ?_;refine eO fun K105 hk105 => ?_;refine tC 1 F5 ?_;refine tS 1 F5 ?_;refine Or.inl (Or.inl ⟨_, k7, ?_⟩);refine tC 5 F5 ?_;refine tL F5 ?_;refine hk105 _ ?_;refine hn104 (some ([2, 10, 11, 12, 13, 14, 15, 19, 20], none)) _ ?_
        refine eS fun K106 hn106 hr106 he106 => ?_;refine eS fun K107 hn107 hr107 he107 => ?_;refine eO fun K108 hk108 => ?_;refine tC 1 F5 ?_;refine tC 1 F5 ?_;refine tL F5 ?_;refine Or.inl ⟨_, eqsh_act_refl _ _ _ _, ?_⟩;refine hk108 _ ?_;refine hn107 (some ([2, 10, 11, 12, 13, 14, 19, 144], none)) _ ?_;refine eCf ?_;refine hn106 (some ([2, 10, 11, 12, 13, 14, 19], none)) _ ?_;refine eS fun K109 hn109 hr109 he109 => ?_;refine eD [] (n := 10) fun K110 hk110 => ?_;refine sq0 ?_;refine fC 1 F5 ?_;refine fC 1 F5 ?_;refine fC 3 F5 ?_;refine fC 1 F5 ?_;refine fS 1 F5 ?_;refine ⟨_, k13, ?_⟩;refine fL F5 ?_
        refine hk110 _ ?_;refine sr0 ?_;refine tC 1 F5 ?_;refine tZ F5 ?_;refine hn109 (some ([2, 10, 11, 12, 13, 14, 19], none)) _ ?_;refine eO fun K112 hk112 => ?_;refine tC 1 F5 ?_;refine tZ F5 ?_;refine hk112 _ ?_;refine hn89 _ ?_;refine hn88 (some ([2, 10, 11, 12, 13, 14], none)) _ ?_;refine eO fun K113 hk113 => ?_;refine tC 2 F5 ?_;refine tL F5 ?_;refine hk113 _ ?_;refine hn30 (l.length - (i + 1)) (some ([2, 10, 11, 12, 13, 14], some ([0, 1, 2, 3], 4))) _ ?_ ?_
        all_goals try refine lp0 ?_
        · omega
        · rcases eFn_cases era (giveM y g).code (giveM y g).live with e | ⟨f, l', e⟩
          all_goals rcases eCode_cases era (giveM y g).code with e2 | ⟨t2, x2, e2⟩
          all_goals exact ⟨i + 1, giveM y g, _, _, by omega, hny, by omega, by simp only [eTask, e, e2]; rfl⟩
  · skip
    unfold evFn sc_EraAsks rv_EraAsks
    have F1 := And.intro @h2 (And.intro @h6 (And.intro @d3 (And.intro @w1 (And.intro @w2 @hK))))
    refine eS fun K1 hn1 hr1 he1 => ?_;refine eO fun K2 hk2 => ?_;refine tL F1 ?_;refine hk2 _ ?_;refine hn1 (some ([0, 1, 2], none)) _ ?_;refine eS fun K3 hn3 hr3 he3 => ?_;refine eS fun K4 hn4 hr4 he4 => ?_;refine eO fun K5 hk5 => ?_;refine tS 1 F1 ?_;refine Or.inl (Or.inl ⟨_, ka, ?_⟩);refine tL F1 ?_;refine hk5 _ ?_;refine hn4 (some ([0, 1, 2, 23], none)) _ ?_;refine eCf ?_;refine hn3 (some ([0, 1, 2], none)) _ ?_;refine eS fun K6 hn6 hr6 he6 => ?_;refine eS fun K7 hn7 hr7 he7 => ?_;refine eO fun K8 hk8 => ?_;refine tZ F1 ?_;refine hk8 _ ?_;refine hn7 (some ([0, 1, 2, 26], none)) _ ?_;refine eCf ?_
    refine hn6 (some ([0, 1, 2], none)) _ ?_;refine eS fun K9 hn9 hr9 he9 => ?_;refine eO fun K10 hk10 => ?_;refine tS 1 F1 ?_;refine Or.inl (Or.inl ⟨_, kp, ?_⟩);refine tZ F1 ?_;refine hk10 _ ?_;refine hn9 (some ([0, 1, 2, 7], none)) _ ?_;refine eS fun K11 hn11 hr11 he11 => ?_;refine eO fun K12 hk12 => ?_;refine tS 2 F1 ?_;refine tS 1 F1 ?_;refine Or.inl (Or.inl ⟨_, km, ?_⟩);refine tL F1 ?_;refine hk12 _ ?_;refine hn11 (some ([0, 1, 2, 7, 8, 9], none)) _ ?_;refine eS fun K13 hn13 hr13 he13 => ?_;refine eS fun K14 hn14 hr14 he14 => ?_;refine eO fun K15 hk15 => ?_;refine tC 2 F1 ?_;refine tC 3 F1 ?_
    refine tC 4 F1 ?_;refine tC 1 F1 ?_;refine tL F1 ?_;refine hk15 _ ?_;refine hn14 (some ([0, 1, 2, 7, 8, 9, 44], none)) _ ?_;refine eCf ?_;refine hn13 (some ([0, 1, 2, 7, 8, 9], none)) _ ?_;refine eS fun K16 hn16 hr16 he16 => ?_;refine eS fun K17 hn17 hr17 he17 => ?_;refine eO fun K18 hk18 => ?_;refine tC 2 F1 ?_;refine tS 2 F1 ?_;refine tS 1 F1 ?_;refine ⟨_, gen_some_eq codeIface, ?_⟩;refine tL F1 ?_;refine hk18 _ ?_;refine hn17 (some ([0, 1, 2, 7, 8, 56], none)) _ ?_;refine eCf ?_;refine hn16 (some ([0, 1, 2, 7, 8], none)) _ ?_;refine eS fun K19 hn19 hr19 he19 => ?_;refine eD [] (n := 10) fun K20 hk20 => ?_
    refine sq0 ?_;refine fC 2 F1 ?_;refine fC 2 F1 ?_;refine fS 1 F1 ?_;refine ⟨_, k3, ?_⟩;refine fC 1 F1 ?_;refine fS 1 F1 ?_;refine fS 1 F1 ?_;refine ⟨_, k4, ?_⟩;refine fL F1 ?_;refine hk20 _ ?_;refine sr0 ?_;refine tZ F1 ?_;refine hn19 (some ([2, 8, 10], none)) _ ?_;refine eS fun K22 hn22 hr22 he22 => ?_;refine eO fun K23 hk23 => ?_;refine tC 1 F1 ?_;refine tS 2 F1 ?_;refine tS 1 F1 ?_;refine Or.inl (Or.inl ⟨_, k5, ?_⟩);refine tC 6 F1 ?_;refine tZ F1 ?_;refine hk23 _ ?_;refine hn22 (some ([2, 8, 10, 11, 12], none)) _ ?_;refine eS fun K24 hn24 hr24 he24 => ?_;refine eO fun K25 hk25 => ?_;refine tS 1 F1 ?_
    refine tS 1 F1 ?_;refine Or.inl (Or.inl ⟨_, k6, ?_⟩);refine tZ F1 ?_;refine hk25 _ ?_;refine hn24 (some ([2, 10, 11, 12, 13], none)) _ ?_;refine eS fun K26 hn26 hr26 he26 => ?_;refine eS fun K27 hn27 hr27 he27 => ?_;refine eO fun K28 hk28 => ?_;refine tL F1 ?_;refine hk28 _ ?_;refine hn27 (some ([2, 10, 11, 12, 13, 14], none)) _ ?_;refine eB fun K29 hn29 hx29 hr29 he29 => ?_;refine eW (EaInv ⟨kw, ke, km'⟩ l) (l.length) (some ([2, 10, 11, 12, 13, 14], some ([1, 2, 3, 4], 4))) ([]) ?_ ?_
    · try refine lp0 ?_
      rcases eFn_cases era y0.code y0.live with e | ⟨f, l', e⟩
      all_goals rcases eCode_cases era y0.code with e2 | ⟨t2, x2, e2⟩
      all_goals exact ⟨0, y0, s0, a0, by omega, hS, by omega, by simp only [eTask, e, e2]; rfl⟩
    · intro k S1 hI
      obtain ⟨i, y, s, want, hi, hy, rfl, rfl⟩ := hI
      obtain ⟨⟨v, hv, hr, hl⟩, hact, hok⟩ := hy
      have hfin := hr.fin
      have hnx := fun h => EaAt.next ⟨⟨v, hv, hr, hl⟩, hact, hok⟩ h
      obtain ⟨pt, last, dn, re⟩ := s
      simp only at hl hact hfin hnx
      have k8 := ok_eraEra v
      rw [hfin.2, hfin.1] at k8
      have k7 := ok_kAct y
      have k10 := ok_kDone y
      have k9 := ok_kCode y
      rw [hl] at k7 k10
      rw [hv] at k9
      change Ok _ _ (.ifc 148 (.agg (cEra v))) at k9
      have hcase : (dn = true ∧ i = l.length) ∨ (dn = true ∧ i < l.length) ∨ (dn = false ∧ i = l.length) ∨ (dn = false ∧ i < l.length) := by
        cases dn
        · rcases Nat.lt_or_ge i l.length with h | h
          · exact .inr (.inr (.inr ⟨rfl, h⟩))
          · exact .inr (.inr (.inl ⟨rfl, by omega⟩))
        · rcases Nat.lt_or_ge i l.length with h | h
          · exact .inr (.inl ⟨rfl, h⟩)
          · exact .inl ⟨rfl, by omega⟩
      have w3 : (i : Int) ≤ (l.length : Int) := by omega
      intro K30 hn30 hr30 he30
      rcases hcase with ⟨rfl, hcc⟩ | ⟨rfl, hcc⟩ | ⟨rfl, hcc⟩ | ⟨rfl, hcc⟩
      · skip
        have w5 : ((i : Int) == (l.length : Int)) = true := by simp; omega
        have F2 := And.intro F1 (And.intro @w3 @w5)
        refine eS fun K31 hn31 hr31 he31 => ?_;refine eS fun K32 hn32 hr32 he32 => ?_;refine eO fun K33 hk33 => ?_;refine tZ F2 ?_;refine hk33 _ ?_;refine hn32 (some ([2, 10, 11, 12, 13, 14, 78], none)) _ ?_;refine eCt ?_;refine hn31 (some ([2, 10, 11, 12, 13, 14], none)) _ ?_;refine eS fun K34 hn34 hr34 he34 => ?_;refine eB fun K35 hn35 hx35 hr35 he35 => ?_;refine eS fun K36 hn36 hr36 he36 => ?_;refine eO fun K37 hk37 => ?_;refine tC 1 F2 ?_;refine tS 1 F2 ?_;refine Or.inl (Or.inl ⟨_, k7, ?_⟩);refine tC 5 F2 ?_;refine tL F2 ?_;refine hk37 _ ?_;refine hn36 (some ([2, 10, 11, 12, 13, 14, 15, 16], none)) _ ?_
        refine eS fun K38 hn38 hr38 he38 => ?_;refine eO fun K39 hk39 => ?_;refine tC 1 F2 ?_;refine tS 1 F2 ?_;refine Or.inl (Or.inl ⟨_, k9, ?_⟩);refine tS 1 F2 ?_;refine Or.inl (Or.inl ⟨_, k8, ?_⟩);refine tL F2 ?_;refine hk39 _ ?_;refine hn38 (some ([2, 10, 11, 12, 13, 14, 15, 16, 17, 18], none)) _ ?_;refine eS fun K40 hn40 hr40 he40 => ?_;refine eS fun K41 hn41 hr41 he41 => ?_;refine eD [] (n := 28) fun K42 hk42 => ?_;refine sq0 ?_;refine fC 3 F2 ?_;refine fS 1 F2 ?_;refine ⟨_, ea_ft, ?_⟩;refine fC 2 F2 ?_;refine fS 1 F2 ?_;refine ⟨_, k10, ?_⟩;refine fC 2 F2 ?_;refine fS 1 F2 ?_;refine ⟨_, eqsh_bool _ _, ?_⟩
        refine fC 5 F2 ?_;refine fS 1 F2 ?_;refine ⟨_, eqsh_bool _ _, ?_⟩;refine fC 5 F2 ?_;refine fC 1 F2 ?_;refine fC 5 F2 ?_;refine fZ F2 ?_;refine hk42 _ ?_;refine sr0 ?_;refine tS 1 F2 ?_
        skip
        refine tL F2 ?_;refine hn41 (some ([2, 10, 11, 12, 13, 14, 15, 122], none)) _ ?_;refine eCf ?_;refine hn40 (some ([2, 10, 11, 12, 13, 14, 15], none)) _ ?_;refine eS fun K44 hn44 hr44 he44 => ?_;refine eS fun K45 hn45 hr45 he45 => ?_;refine eO fun K46 hk46 => ?_;refine tC 4 F2 ?_;refine tC 3 F2 ?_;refine tL F2 ?_;refine hk46 _ ?_;refine hn45 (some ([2, 10, 11, 12, 13, 14, 15, 130], none)) _ ?_;refine eCt ?_;refine eS fun K47 hn47 hr47 he47 => ?_;refine eO fun K48 hk48 => ?_;refine tL F2 ?_;refine hk48 _ ?_;refine hn47 (some ([6], none)) _ ?_;refine hr44 _ ?_;refine hr35 _ ?_;refine hr34 _ ?_
        refine hr30 _ ?_;refine hr29 _ ?_;refine hr26 _ ?_
        exact sf1 F2
      · skip
        have w5 : ((i : Int) == (l.length : Int)) = false := by simp; omega
        have F3 := And.intro F1 (And.intro @w3 @w5)
        refine eS fun K49 hn49 hr49 he49 => ?_;refine eS fun K50 hn50 hr50 he50 => ?_;refine eO fun K51 hk51 => ?_;refine tZ F3 ?_;refine hk51 _ ?_;refine hn50 (some ([2, 10, 11, 12, 13, 14, 78], none)) _ ?_;refine eCt ?_;refine hn49 (some ([2, 10, 11, 12, 13, 14], none)) _ ?_;refine eS fun K52 hn52 hr52 he52 => ?_;refine eB fun K53 hn53 hx53 hr53 he53 => ?_;refine eS fun K54 hn54 hr54 he54 => ?_;refine eO fun K55 hk55 => ?_;refine tC 1 F3 ?_;refine tS 1 F3 ?_;refine Or.inl (Or.inl ⟨_, k7, ?_⟩);refine tC 5 F3 ?_;refine tL F3 ?_;refine hk55 _ ?_;refine hn54 (some ([2, 10, 11, 12, 13, 14, 15, 16], none)) _ ?_
        refine eS fun K56 hn56 hr56 he56 => ?_;refine eO fun K57 hk57 => ?_;refine tC 1 F3 ?_;refine tS 1 F3 ?_;refine Or.inl (Or.inl ⟨_, k9, ?_⟩);refine tS 1 F3 ?_;refine Or.inl (Or.inl ⟨_, k8, ?_⟩);refine tL F3 ?_;refine hk57 _ ?_;refine hn56 (some ([2, 10, 11, 12, 13, 14, 15, 16, 17, 18], none)) _ ?_;refine eS fun K58 hn58 hr58 he58 => ?_;refine eS fun K59 hn59 hr59 he59 => ?_;refine eD [] (n := 28) fun K60 hk60 => ?_;refine sq0 ?_;refine fC 3 F3 ?_;refine fS 1 F3 ?_;refine ⟨_, ea_ft, ?_⟩;refine fC 2 F3 ?_;refine fS 1 F3 ?_;refine ⟨_, k10, ?_⟩;refine fC 2 F3 ?_;refine fS 1 F3 ?_;refine ⟨_, eqsh_bool _ _, ?_⟩
        refine fC 5 F3 ?_;refine fS 1 F3 ?_;refine ⟨_, eqsh_bool _ _, ?_⟩;refine fC 5 F3 ?_;refine fC 1 F3 ?_;refine fC 5 F3 ?_;refine fZ F3 ?_;refine hk60 _ ?_;refine sr0 ?_;refine tS 1 F3 ?_
        skip
        refine tL F3 ?_;refine hn59 (some ([2, 10, 11, 12, 13, 14, 15, 122], none)) _ ?_;refine eCf ?_;refine hn58 (some ([2, 10, 11, 12, 13, 14, 15], none)) _ ?_;refine eS fun K62 hn62 hr62 he62 => ?_;refine eS fun K63 hn63 hr63 he63 => ?_;refine eO fun K64 hk64 => ?_;refine tC 4 F3 ?_;refine tC 3 F3 ?_;refine tL F3 ?_;refine hk64 _ ?_;refine hn63 (some ([2, 10, 11, 12, 13, 14, 15, 130], none)) _ ?_;refine eCt ?_;refine eS fun K65 hn65 hr65 he65 => ?_;refine eO fun K66 hk66 => ?_;refine tL F3 ?_;refine hk66 _ ?_;refine hn65 (some ([6], none)) _ ?_;refine hr62 _ ?_;refine hr53 _ ?_;refine hr52 _ ?_
        refine hr30 _ ?_;refine hr29 _ ?_;refine hr26 _ ?_
        exact sf1 F3
      · skip
        have w4 := hact rfl
        have w5 : ((i : Int) == (l.length : Int)) = true := by simp; omega
        rw [w4] at k7
        have F4 := And.intro F1 (And.intro @w3 @w5)
        refine eS fun K67 hn67 hr67 he67 => ?_;refine eS fun K68 hn68 hr68 he68 => ?_;refine eO fun K69 hk69 => ?_;refine tZ F4 ?_;refine hk69 _ ?_;refine hn68 (some ([2, 10, 11, 12, 13, 14, 78], none)) _ ?_;refine eCt ?_;refine hn67 (some ([2, 10, 11, 12, 13, 14], none)) _ ?_;refine eS fun K70 hn70 hr70 he70 => ?_;refine eB fun K71 hn71 hx71 hr71 he71 => ?_;refine eS fun K72 hn72 hr72 he72 => ?_;refine eO fun K73 hk73 => ?_;refine tC 1 F4 ?_;refine tS 1 F4 ?_;refine Or.inl (Or.inl ⟨_, k7, ?_⟩);refine tC 5 F4 ?_;refine tL F4 ?_;refine hk73 _ ?_;refine hn72 (some ([2, 10, 11, 12, 13, 14, 15, 16], none)) _ ?_
        refine eS fun K74 hn74 hr74 he74 => ?_;refine eO fun K75 hk75 => ?_;refine tC 1 F4 ?_;refine tS 1 F4 ?_;refine Or.inl (Or.inl ⟨_, k9, ?_⟩);refine tS 1 F4 ?_;refine Or.inl (Or.inl ⟨_, k8, ?_⟩);refine tL F4 ?_;refine hk75 _ ?_;refine hn74 (some ([2, 10, 11, 12, 13, 14, 15, 16, 17, 18], none)) _ ?_;refine eS fun K76 hn76 hr76 he76 => ?_;refine eS fun K77 hn77 hr77 he77 => ?_;refine eD [] (n := 28) fun K78 hk78 => ?_;refine sq0 ?_;refine fC 3 F4 ?_;refine fS 1 F4 ?_;refine ⟨_, ea_tf, ?_⟩;refine fC 2 F4 ?_;refine fS 1 F4 ?_;refine ⟨_, k10, ?_⟩;refine fC 2 F4 ?_;refine fS 1 F4 ?_;refine ⟨_, eqsh_bool _ _, ?_⟩
        refine fC 5 F4 ?_;refine fS 1 F4 ?_;refine ⟨_, eqsh_bool _ _, ?_⟩;refine fC 5 F4 ?_;refine fC 1 F4 ?_;refine fC 5 F4 ?_;refine fZ F4 ?_;refine hk78 _ ?_;refine sr0 ?_;refine tS 1 F4 ?_;refine Or.inl ⟨_, eqsh_act_refl _ _ _ _, ?_⟩;refine tL F4 ?_;refine hn77 (some ([2, 10, 11, 12, 13, 14, 15, 122], none)) _ ?_;refine eCf ?_;refine hn76 (some ([2, 10, 11, 12, 13, 14, 15], none)) _ ?_;refine eS fun K80 hn80 hr80 he80 => ?_;refine eS fun K81 hn81 hr81 he81 => ?_;refine eO fun K82 hk82 => ?_;refine tC 4 F4 ?_;refine tC 3 F4 ?_;refine tL F4 ?_;refine hk82 _ ?_;refine hn81 (some ([2, 10, 11, 12, 13, 14, 15, 130], none)) _ ?_
        refine eCt ?_;refine eS fun K83 hn83 hr83 he83 => ?_;refine eO fun K84 hk84 => ?_;refine tL F4 ?_;refine hk84 _ ?_;refine hn83 (some ([6], none)) _ ?_;refine hr80 _ ?_;refine hr71 _ ?_;refine hr70 _ ?_;refine hr30 _ ?_;refine hr29 _ ?_;refine hr26 _ ?_
        exact sf1 F4
      · skip
        have w4 := hact rfl
        have w5 : ((i : Int) == (l.length : Int)) = false := by simp; omega
        have w6 : (i : Int) < (l.length : Int) := by omega
        have w7 : IntKind.i64.wrap ((i : Int) + 1) = ((i + 1 : Nat) : Int) := by rw [IntKind.wrap_i64]; omega
        rw [w4] at k7
        obtain ⟨g, hg⟩ : ∃ g, l[i]? = some g := ⟨_, List.getElem?_eq_getElem hcc⟩
        have k11 := ok_kGive y g hok (by omega)
        have k13 := ok_r13Next ⟨kw, ke, km'⟩ ⟨pt, last, false, re⟩ g
        have hny := hnx rfl g
        have F5 := And.intro F1 (And.intro @w3 (And.intro @w5 (And.intro @w6 (And.intro @w7 @hg))))
        refine eS fun K85 hn85 hr85 he85 => ?_;refine eS fun K86 hn86 hr86 he86 => ?_;refine eO fun K87 hk87 => ?_;refine tZ F5 ?_;refine hk87 _ ?_;refine hn86 (some ([2, 10, 11, 12, 13, 14, 78], none)) _ ?_;refine eCt ?_;refine hn85 (some ([2, 10, 11, 12, 13, 14], none)) _ ?_;refine eS fun K88 hn88 hr88 he88 => ?_;refine eB fun K89 hn89 hx89 hr89 he89 => ?_;refine eS fun K90 hn90 hr90 he90 => ?_;refine eO fun K91 hk91 => ?_;refine tC 1 F5 ?_;refine tS 1 F5 ?_;refine Or.inl (Or.inl ⟨_, k7, ?_⟩);refine tC 5 F5 ?_;refine tL F5 ?_;refine hk91 _ ?_;refine hn90 (some ([2, 10, 11, 12, 13, 14, 15, 16], none)) _ ?_
        refine eS fun K92 hn92 hr92 he92 => ?_;refine eO fun K93 hk93 => ?_;refine tC 1 F5 ?_;refine tS 1 F5 ?_;refine Or.inl (Or.inl ⟨_, k9, ?_⟩);refine tS 1 F5 ?_;refine Or.inl (Or.inl ⟨_, k8, ?_⟩);refine tL F5 ?_;refine hk93 _ ?_;refine hn92 (some ([2, 10, 11, 12, 13, 14, 15, 16, 17, 18], none)) _ ?_;refine eS fun K94 hn94 hr94 he94 => ?_;refine eS fun K95 hn95 hr95 he95 => ?_;refine eD [] (n := 28) fun K96 hk96 => ?_;refine sq0 ?_;refine fC 3 F5 ?_;refine fS 1 F5 ?_;refine ⟨_, ea_tf, ?_⟩;refine fC 2 F5 ?_;refine fS 1 F5 ?_;refine ⟨_, k10, ?_⟩;refine fC 2 F5 ?_;refine fS 1 F5 ?_;refine ⟨_, eqsh_bool _ _, ?_⟩
        refine fC 5 F5 ?_;refine fS 1 F5 ?_;refine ⟨_, eqsh_bool _ _, ?_⟩;refine fC 5 F5 ?_;refine fC 1 F5 ?_;refine fC 5 F5 ?_;refine fZ F5 ?_;refine hk96 _ ?_;refine sr0 ?_;refine tS 1 F5 ?_;refine Or.inl ⟨_, eqsh_act_refl _ _ _ _, ?_⟩;refine tL F5 ?_;refine hn95 (some ([2, 10, 11, 12, 13, 14, 15, 122], none)) _ ?_;refine eCf ?_;refine hn94 (some ([2, 10, 11, 12, 13, 14, 15], none)) _ ?_;refine eS fun K98 hn98 hr98 he98 => ?_;refine eS fun K99 hn99 hr99 he99 => ?_;refine eO fun K100 hk100 => ?_;refine tC 4 F5 ?_;refine tC 3 F5 ?_;refine tL F5 ?_;refine hk100 _ ?_;refine hn99 (some ([2, 10, 11, 12, 13, 14, 15, 130], none)) _ ?_
        refine eCf ?_;refine hn98 (some ([2, 10, 11, 12, 13, 14, 15], none)) _ ?_;refine eS fun K101 hn101 hr101 he101 => ?_;refine eD [] (n := 7) fun K102 hk102 => ?_;refine sq0 ?_;refine fC 1 F5 ?_;refine fC 3 F5 ?_;refine fC 1 F5 ?_;refine fS 1 F5 ?_;refine ⟨_, k11, ?_⟩;refine fL F5 ?_;refine hk102 _ ?_;refine sr0 ?_;refine tZ F5 ?_;refine hn101 (some ([2, 10, 11, 12, 13, 14, 15, 19], none)) _ ?_;refine eS fun K104 hn104 hr104 he104 => ?_;refine eO fun K105 hk105 => ?_;refine tC 1 F5 ?_;refine tS 1 F5 ?_;refine Or.inl (Or.inl ⟨_, k7, ?_⟩);refine tC 5 F5 ?_;refine tL F5 ?_;refine hk105 _ ?_;refine hn104 (some ([2, 10, 11, 12, 13, 14, 15, 19, 20], none)) _ ?_
        refine eS fun K106 hn106 hr106 he106 => ?_;refine eS fun K107 hn107 hr107 he107 => ?_;refine eO fun K108 hk108 => ?_;refine tC 1 F5 ?_;refine tC 1 F5 ?_;refine tL F5 ?_;refine Or.inl ⟨_, eqsh_act_refl _ _ _ _, ?_⟩;refine hk108 _ ?_;refine hn107 (some ([2, 10, 11, 12, 13, 14, 19, 144], none)) _ ?_;refine eCf ?_;refine hn106 (some ([2, 10, 11, 12, 13, 14, 19], none)) _ ?_;refine eS fun K109 hn109 hr109 he109 => ?_;refine eD [] (n := 10) fun K110 hk110 => ?_;refine sq0 ?_;refine fC 1 F5 ?_;refine fC 1 F5 ?_;refine fC 3 F5 ?_;refine fC 1 F5 ?_;refine fS 1 F5 ?_;refine ⟨_, k13, ?_⟩;refine fL F5 ?_
        refine hk110 _ ?_;refine sr0 ?_;refine tC 1 F5 ?_;refine tZ F5 ?_;refine hn109 (some ([2, 10, 11, 12, 13, 14, 19], none)) _ ?_;refine eO fun K112 hk112 => ?_;refine tC 1 F5 ?_;refine tZ F5 ?_;refine hk112 _ ?_;refine hn89 _ ?_;refine hn88 (some ([2, 10, 11, 12, 13, 14], none)) _ ?_;refine eO fun K113 hk113 => ?_;refine tC 2 F5 ?_;refine tL F5 ?_;refine hk113 _ ?_;refine hn30 (l.length - (i + 1)) (some ([2, 10, 11, 12, 13, 14], some ([0, 1, 2, 3], 4))) _ ?_ ?_
        all_goals try refine lp0 ?_
        · omega
        · rcases eFn_cases era (giveM y g).code (giveM y g).live with e | ⟨f, l', e⟩
          all_goals rcases eCode_cases era (giveM y g).code with e2 | ⟨t2, x2, e2⟩
          all_goals exact ⟨i + 1, giveM y g, _, _, by omega, hny, by omega, by simp only [eTask, e, e2]; rfl⟩
  · skip
    unfold evFn sc_EraAsks rv_EraAsks
    have F1 := And.intro @h2 (And.intro @h6 (And.intro @h7 (And.intro @d3 (And.intro @w1 (And.intro @w2 @hK)))))
    refine eS fun K1 hn1 hr1 he1 => ?_;refine eO fun K2 hk2 => ?_;refine tL F1 ?_;refine hk2 _ ?_;refine hn1 (some ([0, 1, 2], none)) _ ?_;refine eS fun K3 hn3 hr3 he3 => ?_;refine eS fun K4 hn4 hr4 he4 => ?_;refine eO fun K5 hk5 => ?_;refine tS 1 F1 ?_;refine Or.inl (Or.inl ⟨_, ka, ?_⟩);refine tL F1 ?_;refine hk5 _ ?_;refine hn4 (some ([0, 1, 2, 23], none)) _ ?_;refine eCf ?_;refine hn3 (some ([0, 1, 2], none)) _ ?_;refine eS fun K6 hn6 hr6 he6 => ?_;refine eS fun K7 hn7 hr7 he7 => ?_;refine eO fun K8 hk8 => ?_;refine tZ F1 ?_;refine hk8 _ ?_;refine hn7 (some ([0, 1, 2, 26], none)) _ ?_;refine eCf ?_
    refine hn6 (some ([0, 1, 2], none)) _ ?_;refine eS fun K9 hn9 hr9 he9 => ?_;refine eO fun K10 hk10 => ?_;refine tS 1 F1 ?_;refine Or.inl (Or.inl ⟨_, kp, ?_⟩);refine tZ F1 ?_;refine hk10 _ ?_;refine hn9 (some ([0, 1, 2, 7], none)) _ ?_;refine eS fun K11 hn11 hr11 he11 => ?_;refine eO fun K12 hk12 => ?_;refine tS 2 F1 ?_;refine tS 1 F1 ?_;refine Or.inl (Or.inl ⟨_, km, ?_⟩);refine tL F1 ?_;refine hk12 _ ?_;refine hn11 (some ([0, 1, 2, 7, 8, 9], none)) _ ?_;refine eS fun K13 hn13 hr13 he13 => ?_;refine eS fun K14 hn14 hr14 he14 => ?_;refine eO fun K15 hk15 => ?_;refine tC 2 F1 ?_;refine tC 3 F1 ?_
    refine tC 4 F1 ?_;refine tC 1 F1 ?_;refine tL F1 ?_;refine hk15 _ ?_;refine hn14 (some ([0, 1, 2, 7, 8, 9, 44], none)) _ ?_;refine eCf ?_;refine hn13 (some ([0, 1, 2, 7, 8, 9], none)) _ ?_;refine eS fun K16 hn16 hr16 he16 => ?_;refine eS fun K17 hn17 hr17 he17 => ?_;refine eO fun K18 hk18 => ?_;refine tC 2 F1 ?_;refine tS 2 F1 ?_;refine tS 1 F1 ?_;refine ⟨_, gen_some_eq codeIface, ?_⟩;refine tL F1 ?_;refine hk18 _ ?_;refine hn17 (some ([0, 1, 2, 7, 8, 56], none)) _ ?_;refine eCf ?_;refine hn16 (some ([0, 1, 2, 7, 8], none)) _ ?_;refine eS fun K19 hn19 hr19 he19 => ?_;refine eD [] (n := 10) fun K20 hk20 => ?_
    refine sq0 ?_;refine fC 2 F1 ?_;refine fC 2 F1 ?_;refine fS 1 F1 ?_;refine ⟨_, k3, ?_⟩;refine fC 1 F1 ?_;refine fS 1 F1 ?_;refine fS 1 F1 ?_;refine ⟨_, k4, ?_⟩;refine fL F1 ?_;refine hk20 _ ?_;refine sr0 ?_;refine tZ F1 ?_;refine hn19 (some ([2, 8, 10], none)) _ ?_;refine eS fun K22 hn22 hr22 he22 => ?_;refine eO fun K23 hk23 => ?_;refine tC 1 F1 ?_;refine tS 2 F1 ?_;refine tS 1 F1 ?_;refine Or.inl (Or.inl ⟨_, k5, ?_⟩);refine tC 6 F1 ?_;refine tZ F1 ?_;refine hk23 _ ?_;refine hn22 (some ([2, 8, 10, 11, 12], none)) _ ?_;refine eS fun K24 hn24 hr24 he24 => ?_;refine eO fun K25 hk25 => ?_;refine tS 1 F1 ?_
    refine tS 1 F1 ?_;refine Or.inl (Or.inl ⟨_, k6, ?_⟩);refine tZ F1 ?_;refine hk25 _ ?_;refine hn24 (some ([2, 10, 11, 12, 13], none)) _ ?_;refine eS fun K26 hn26 hr26 he26 => ?_;refine eS fun K27 hn27 hr27 he27 => ?_;refine eO fun K28 hk28 => ?_;refine tL F1 ?_;refine hk28 _ ?_;refine hn27 (some ([2, 10, 11, 12, 13, 14], none)) _ ?_;refine eB fun K29 hn29 hx29 hr29 he29 => ?_;refine eW (EaInv ⟨kw, ke, km'⟩ l) (l.length) (some ([2, 10, 11, 12, 13, 14], some ([1, 2, 3, 4], 4))) ([]) ?_ ?_
    · try refine lp0 ?_
      rcases eFn_cases era y0.code y0.live with e | ⟨f, l', e⟩
      all_goals rcases eCode_cases era y0.code with e2 | ⟨t2, x2, e2⟩
      all_goals exact ⟨0, y0, s0, a0, by omega, hS, by omega, by simp only [eTask, e, e2]; rfl⟩
    · intro k S1 hI
      obtain ⟨i, y, s, want, hi, hy, rfl, rfl⟩ := hI
      obtain ⟨⟨v, hv, hr, hl⟩, hact, hok⟩ := hy
      have hfin := hr.fin
      have hnx := fun h => EaAt.next ⟨⟨v, hv, hr, hl⟩, hact, hok⟩ h
      obtain ⟨pt, last, dn, re⟩ := s
      simp only at hl hact hfin hnx
      have k8 := ok_eraEra v
      rw [hfin.2, hfin.1] at k8
      have k7 := ok_kAct y
      have k10 := ok_kDone y
      have k9 := ok_kCode y
      rw [hl] at k7 k10
      rw [hv] at k9
      change Ok _ _ (.ifc 148 (.agg (cEra v))) at k9
      have hcase : (dn = true ∧ i = l.length) ∨ (dn = true ∧ i < l.length) ∨ (dn = false ∧ i = l.length) ∨ (dn = false ∧ i < l.length) := by
        cases dn
        · rcases Nat.lt_or_ge i l.length with h | h
          · exact .inr (.inr (.inr ⟨rfl, h⟩))
          · exact .inr (.inr (.inl ⟨rfl, by omega⟩))
        · rcases Nat.lt_or_ge i l.length with h | h
          · exact .inr (.inl ⟨rfl, h⟩)
          · exact .inl ⟨rfl, by omega⟩
      have w3 : (i : Int) ≤ (l.length : Int) := by omega
      intro K30 hn30 hr30 he30
      rcases hcase with ⟨rfl, hcc⟩ | ⟨rfl, hcc⟩ | ⟨rfl, hcc⟩ | ⟨rfl, hcc⟩
      · skip
        have w5 : ((i : Int) == (l.length : Int)) = true := by simp; omega
        have F2 := And.intro F1 (And.intro @w3 @w5)
        refine eS fun K31 hn31 hr31 he31 => ?_;refine eS fun K32 hn32 hr32 he32 => ?_;refine eO fun K33 hk33 => ?_;refine tZ F2 ?_;refine hk33 _ ?_;refine hn32 (some ([2, 10, 11, 12, 13, 14, 78], none)) _ ?_;refine eCt ?_;refine hn31 (some ([2, 10, 11, 12, 13, 14], none)) _ ?_;refine eS fun K34 hn34 hr34 he34 => ?_;refine eB fun K35 hn35 hx35 hr35 he35 => ?_;refine eS fun K36 hn36 hr36 he36 => ?_;refine eO fun K37 hk37 => ?_;refine tC 1 F2 ?_;refine tS 1 F2 ?_;refine Or.inl (Or.inl ⟨_, k7, ?_⟩);refine tC 5 F2 ?_;refine tL F2 ?_;refine hk37 _ ?_;refine hn36 (some ([2, 10, 11, 12, 13, 14, 15, 16], none)) _ ?_
        refine eS fun K38 hn38 hr38 he38 => ?_;refine eO fun K39 hk39 => ?_;refine tC 1 F2 ?_;refine tS 1 F2 ?_;refine Or.inl (Or.inl ⟨_, k9, ?_⟩);refine tS 1 F2 ?_;refine Or.inl (Or.inl ⟨_, k8, ?_⟩);refine tL F2 ?_;refine hk39 _ ?_;refine hn38 (some ([2, 10, 11, 12, 13, 14, 15, 16, 17, 18], none)) _ ?_;refine eS fun K40 hn40 hr40 he40 => ?_;refine eS fun K41 hn41 hr41 he41 => ?_;refine eD [] (n := 28) fun K42 hk42 => ?_;refine sq0 ?_;refine fC 3 F2 ?_;refine fS 1 F2 ?_;refine ⟨_, ea_ft, ?_⟩;refine fC 2 F2 ?_;refine fS 1 F2 ?_;refine ⟨_, k10, ?_⟩;refine fC 2 F2 ?_;refine fS 1 F2 ?_;refine ⟨_, eqsh_bool _ _, ?_⟩
        refine fC 5 F2 ?_;refine fS 1 F2 ?_;refine ⟨_, eqsh_bool _ _, ?_⟩;refine fC 5 F2 ?_;refine fC 1 F2 ?_;refine fC 5 F2 ?_;refine fZ F2 ?_;refine hk42 _ ?_;refine sr0 ?_;refine tS 1 F2 ?_
        skip
        refine tL F2 ?_;refine hn41 (some ([2, 10, 11, 12, 13, 14, 15, 122], none)) _ ?_;refine eCf ?_;refine hn40 (some ([2, 10, 11, 12, 13, 14, 15], none)) _ ?_;refine eS fun K44 hn44 hr44 he44 => ?_;refine eS fun K45 hn45 hr45 he45 => ?_;refine eO fun K46 hk46 => ?_;refine tC 4 F2 ?_;refine tC 3 F2 ?_;refine tL F2 ?_;refine hk46 _ ?_;refine hn45 (some ([2, 10, 11, 12, 13, 14, 15, 130], none)) _ ?_;refine eCt ?_;refine eS fun K47 hn47 hr47 he47 => ?_;refine eO fun K48 hk48 => ?_;refine tL F2 ?_;refine hk48 _ ?_;refine hn47 (some ([6], none)) _ ?_;refine hr44 _ ?_;refine hr35 _ ?_;refine hr34 _ ?_
        refine hr30 _ ?_;refine hr29 _ ?_;refine hr26 _ ?_
        exact sf1 F2
      · skip
        have w5 : ((i : Int) == (l.length : Int)) = false := by simp; omega
        have F3 := And.intro F1 (And.intro @w3 @w5)
        refine eS fun K49 hn49 hr49 he49 => ?_;refine eS fun K50 hn50 hr50 he50 => ?_;refine eO fun K51 hk51 => ?_;refine tZ F3 ?_;refine hk51 _ ?_;refine hn50 (some ([2, 10, 11, 12, 13, 14, 78], none)) _ ?_;refine eCt ?_;refine hn49 (some ([2, 10, 11, 12, 13, 14], none)) _ ?_;refine eS fun K52 hn52 hr52 he52 => ?_;refine eB fun K53 hn53 hx53 hr53 he53 => ?_;refine eS fun K54 hn54 hr54 he54 => ?_;refine eO fun K55 hk55 => ?_;refine tC 1 F3 ?_;refine tS 1 F3 ?_;refine Or.inl (Or.inl ⟨_, k7, ?_⟩);refine tC 5 F3 ?_;refine tL F3 ?_;refine hk55 _ ?_;refine hn54 (some ([2, 10, 11, 12, 13, 14, 15, 16], none)) _ ?_
        refine eS fun K56 hn56 hr56 he56 => ?_;refine eO fun K57 hk57 => ?_;refine tC 1 F3 ?_;refine tS 1 F3 ?_;refine Or.inl (Or.inl ⟨_, k9, ?_⟩);refine tS 1 F3 ?_;refine Or.inl (Or.inl ⟨_, k8, ?_⟩);refine tL F3 ?_;refine hk57 _ ?_;refine hn56 (some ([2, 10, 11, 12, 13, 14, 15, 16, 17, 18], none)) _ ?_;refine eS fun K58 hn58 hr58 he58 => ?_;refine eS fun K59 hn59 hr59 he59 => ?_;refine eD [] (n := 28) fun K60 hk60 => ?_;refine sq0 ?_;refine fC 3 F3 ?_;refine fS 1 F3 ?_;refine ⟨_, ea_ft, ?_⟩;refine fC 2 F3 ?_;refine fS 1 F3 ?_;refine ⟨_, k10, ?_⟩;refine fC 2 F3 ?_;refine fS 1 F3 ?_;refine ⟨_, eqsh_bool _ _, ?_⟩
        refine fC 5 F3 ?_;refine fS 1 F3 ?_;refine ⟨_, eqsh_bool _ _, ?_⟩;refine fC 5 F3 ?_;refine fC 1 F3 ?_;refine fC 5 F3 ?_;refine fZ F3 ?_;refine hk60 _ ?_;refine sr0 ?_;refine tS 1 F3 ?_
        skip
        refine tL F3 ?_;refine hn59 (some ([2, 10, 11, 12, 13, 14, 15, 122], none)) _ ?_;refine eCf ?_;refine hn58 (some ([2, 10, 11, 12, 13, 14, 15], none)) _ ?_;refine eS fun K62 hn62 hr62 he62 => ?_;refine eS fun K63 hn63 hr63 he63 => ?_;refine eO fun K64 hk64 => ?_;refine tC 4 F3 ?_;refine tC 3 F3 ?_;refine tL F3 ?_;refine hk64 _ ?_;refine hn63 (some ([2, 10, 11, 12, 13, 14, 15, 130], none)) _ ?_;refine eCt ?_;refine eS fun K65 hn65 hr65 he65 => ?_;refine eO fun K66 hk66 => ?_;refine tL F3 ?_;refine hk66 _ ?_;refine hn65 (some ([6], none)) _ ?_;refine hr62 _ ?_;refine hr53 _ ?_;refine hr52 _ ?_
        refine hr30 _ ?_;refine hr29 _ ?_;refine hr26 _ ?_
        exact sf1 F3
      · skip
        have w4 := hact rfl
        have w5 : ((i : Int) == (l.length : Int)) = true := by simp; omega
        rw [w4] at k7
        have F4 := And.intro F1 (And.intro @w3 @w5)
        refine eS fun K67 hn67 hr67 he67 => ?_;refine eS fun K68 hn68 hr68 he68 => ?_;refine eO fun K69 hk69 => ?_;refine tZ F4 ?_;refine hk69 _ ?_;refine hn68 (some ([2, 10, 11, 12, 13, 14, 78], none)) _ ?_;refine eCt ?_;refine hn67 (some ([2, 10, 11, 12, 13, 14], none)) _ ?_;refine eS fun K70 hn70 hr70 he70 => ?_;refine eB fun K71 hn71 hx71 hr71 he71 => ?_;refine eS fun K72 hn72 hr72 he72 => ?_;refine eO fun K73 hk73 => ?_;refine tC 1 F4 ?_;refine tS 1 F4 ?_;refine Or.inl (Or.inl ⟨_, k7, ?_⟩);refine tC 5 F4 ?_;refine tL F4 ?_;refine hk73 _ ?_;refine hn72 (some ([2, 10, 11, 12, 13, 14, 15, 16], none)) _ ?_
        refine eS fun K74 hn74 hr74 he74 => ?_;refine eO fun K75 hk75 => ?_;refine tC 1 F4 ?_;refine tS 1 F4 ?_;refine Or.inl (Or.inl ⟨_, k9, ?_⟩);refine tS 1 F4 ?_;refine Or.inl (Or.inl ⟨_, k8, ?_⟩);refine tL F4 ?_;refine hk75 _ ?_;refine hn74 (some ([2, 10, 11, 12, 13, 14, 15, 16, 17, 18], none)) _ ?_;refine eS fun K76 hn76 hr76 he76 => ?_;refine eS fun K77 hn77 hr77 he77 => ?_;refine eD [] (n := 28) fun K78 hk78 => ?_;refine sq0 ?_;refine fC 3 F4 ?_;refine fS 1 F4 ?_;refine ⟨_, ea_tf, ?_⟩;refine fC 2 F4 ?_;refine fS 1 F4 ?_;refine ⟨_, k10, ?_⟩;refine fC 2 F4 ?_;refine fS 1 F4 ?_;refine ⟨_, eqsh_bool _ _, ?_⟩
        refine fC 5 F4 ?_;refine fS 1 F4 ?_;refine ⟨_, eqsh_bool _ _, ?_⟩;refine fC 5 F4 ?_;refine fC 1 F4 ?_;refine fC 5 F4 ?_;refine fZ F4 ?_;refine hk78 _ ?_;refine sr0 ?_;refine tS 1 F4 ?_;refine Or.inl ⟨_, eqsh_act_refl _ _ _ _, ?_⟩;refine tL F4 ?_;refine hn77 (some ([2, 10, 11, 12, 13, 14, 15, 122], none)) _ ?_;refine eCf ?_;refine hn76 (some ([2, 10, 11, 12, 13, 14, 15], none)) _ ?_;refine eS fun K80 hn80 hr80 he80 => ?_;refine eS fun K81 hn81 hr81 he81 => ?_;refine eO fun K82 hk82 => ?_;refine tC 4 F4 ?_;refine tC 3 F4 ?_;refine tL F4 ?_;refine hk82 _ ?_;refine hn81 (some ([2, 10, 11, 12, 13, 14, 15, 130], none)) _ ?_
        refine eCt ?_;refine eS fun K83 hn83 hr83 he83 => ?_;refine eO fun K84 hk84 => ?_;refine tL F4 ?_;refine hk84 _ ?_;refine hn83 (some ([6], none)) _ ?_;refine hr80 _ ?_;refine hr71 _ ?_;refine hr70 _ ?_;refine hr30 _ ?_;refine hr29 _ ?_;refine hr26 _ ?_
        exact sf1 F4
      · skip
        have w4 := hact rfl
        have w5 : ((i : Int) == (l.length : Int)) = false := by simp; omega
        have w6 : (i : Int) < (l.length : Int) := by omega
        have w7 : IntKind.i64.wrap ((i : Int) + 1) = ((i + 1 : Nat) : Int) := by rw [IntKind.wrap_i64]; omega
        rw [w4] at k7
        obtain ⟨g, hg⟩ : ∃ g, l[i]? = some g := ⟨_, List.getElem?_eq_getElem hcc⟩
        have k11 := ok_kGive y g hok (by omega)
        have k13 := ok_r13Next ⟨kw, ke, km'⟩ ⟨pt, last, false, re⟩ g
        have hny := hnx rfl g
        have F5 := And.intro F1 (And.intro @w3 (And.intro @w5 (And.intro @w6 (And.intro @w7 @hg))))
        refine eS fun K85 hn85 hr85 he85 => ?_;refine eS fun K86 hn86 hr86 he86 => ?_;refine eO fun K87 hk87 => ?_;refine tZ F5 ?_;refine hk87 _ ?_;refine hn86 (some ([2, 10, 11, 12, 13, 14, 78], none)) _ ?_;refine eCt ?_;refine hn85 (some ([2, 10, 11, 12, 13, 14], none)) _ ?_;refine eS fun K88 hn88 hr88 he88 => ?_;refine eB fun K89 hn89 hx89 hr89 he89 => ?_;refine eS fun K90 hn90 hr90 he90 => ?_;refine eO fun K91 hk91 => ?_;refine tC 1 F5 ?_;refine tS 1 F5 ?_;refine Or.inl (Or.inl ⟨_, k7, ?_⟩);refine tC 5 F5 ?_;refine tL F5 ?_;refine hk91 _ ?_;refine hn90 (some ([2, 10, 11, 12, 13, 14, 15, 16], none)) _ ?_
        refine eS fun K92 hn92 hr92 he92 => ?_;refine eO fun K93 hk93 => ?_;refine tC 1 F5 ?_;refine tS 1 F5 ?_;refine Or.inl (Or.inl ⟨_, k9, ?_⟩);refine tS 1 F5 ?_;refine Or.inl (Or.inl ⟨_, k8, ?_⟩);refine tL F5 ?_;refine hk93 _ ?_;refine hn92 (some ([2, 10, 11, 12, 13, 14, 15, 16, 17, 18], none)) _ ?_;refine eS fun K94 hn94 hr94 he94 => ?_;refine eS fun K95 hn95 hr95 he95 => ?_;refine eD [] (n := 28) fun K96 hk96 => ?_;refine sq0 ?_;refine fC 3 F5 ?_;refine fS 1 F5 ?_;refine ⟨_, ea_tf, ?_⟩;refine fC 2 F5 ?_;refine fS 1 F5 ?_;refine ⟨_, k10, ?_⟩;refine fC 2 F5 ?_;refine fS 1 F5 ?_;refine ⟨_, eqsh_bool _ _, ?_⟩
        refine fC 5 F5 ?_;refine fS 1 F5 ?_;refine ⟨_, eqsh_bool _ _, ?_⟩;refine fC 5 F5 ?_;refine fC 1 F5 ?_;refine fC 5 F5 ?_;refine fZ F5 ?_;refine hk96 _ ?_;refine sr0 ?_;refine tS 1 F5 ?_;refine Or.inl ⟨_, eqsh_act_refl _ _ _ _, ?_⟩;refine tL F5 ?_;refine hn95 (some ([2, 10, 11, 12, 13, 14, 15, 122], none)) _ ?_;refine eCf ?_;refine hn94 (some ([2, 10, 11, 12, 13, 14, 15], none)) _ ?_;refine eS fun K98 hn98 hr98 he98 => ?_;refine eS fun K99 hn99 hr99 he99 => ?_;refine eO fun K100 hk100 => ?_;refine tC 4 F5 ?_;refine tC 3 F5 ?_;refine tL F5 ?_;refine hk100 _ ?_;refine hn99 (some ([2, 10, 11, 12, 13, 14, 15, 130], none)) _ ?_
        refine eCf ?_;refine hn98 (some ([2, 10, 11, 12, 13, 14, 15], none)) _ ?_;refine eS fun K101 hn101 hr101 he101 => ?_;refine eD [] (n := 7) fun K102 hk102 => ?_;refine sq0 ?_;refine fC 1 F5 ?_;refine fC 3 F5 ?_;refine fC 1 F5 ?_;refine fS 1 F5 ?_;refine ⟨_, k11, ?_⟩;refine fL F5 ?_;refine hk102 _ ?_;refine sr0 ?_;refine tZ F5 ?_;refine hn101 (some ([2, 10, 11, 12, 13, 14, 15, 19], none)) _ ?_;refine eS fun K104 hn104 hr104 he104 => ?_;refine eO fun K105 hk105 => ?_;refine tC 1 F5 ?_;refine tS 1 F5 ?_;refine Or.inl (Or.inl ⟨_, k7, ?_⟩);refine tC 5 F5 ?_;refine tL F5 ?_;refine hk105 _ ?_;refine hn104 (some ([2, 10, 11, 12, 13, 14, 15, 19, 20], none)) _ ?_
        refine eS fun K106 hn106 hr106 he106 => ?_;refine eS fun K107 hn107 hr107 he107 => ?_;refine eO fun K108 hk108 => ?_;refine tC 1 F5 ?_;refine tC 1 F5 ?_;refine tL F5 ?_;refine Or.inl ⟨_, eqsh_act_refl _ _ _ _, ?_⟩;refine hk108 _ ?_;refine hn107 (some ([2, 10, 11, 12, 13, 14, 19, 144], none)) _ ?_;refine eCf ?_;refine hn106 (some ([2, 10, 11, 12, 13, 14, 19], none)) _ ?_;refine eS fun K109 hn109 hr109 he109 => ?_;refine eD [] (n := 10) fun K110 hk110 => ?_;refine sq0 ?_;refine fC 1 F5 ?_;refine fC 1 F5 ?_;refine fC 3 F5 ?_;refine fC 1 F5 ?_;refine fS 1 F5 ?_;refine ⟨_, k13, ?_⟩;refine fL F5 ?_
        refine hk110 _ ?_;refine sr0 ?_;refine tC 1 F5 ?_;refine tZ F5 ?_;refine hn109 (some ([2, 10, 11, 12, 13, 14, 19], none)) _ ?_;refine eO fun K112 hk112 => ?_;refine tC 1 F5 ?_;refine tZ F5 ?_;refine hk112 _ ?_;refine hn89 _ ?_;refine hn88 (some ([2, 10, 11, 12, 13, 14], none)) _ ?_;refine eO fun K113 hk113 => ?_;refine tC 2 F5 ?_;refine tL F5 ?_;refine hk113 _ ?_;refine hn30 (l.length - (i + 1)) (some ([2, 10, 11, 12, 13, 14], some ([0, 1, 2, 3], 4))) _ ?_ ?_
        all_goals try refine lp0 ?_
        · omega
        · rcases eFn_cases era (giveM y g).code (giveM y g).live with e | ⟨f, l', e⟩
          all_goals rcases eCode_cases era (giveM y g).code with e2 | ⟨t2, x2, e2⟩
          all_goals exact ⟨i + 1, giveM y g, _, _, by omega, hny, by omega, by simp only [eTask, e, e2]; rfl⟩
end Go.Proofs.YtkbgdhomdbolnaaGreatDoor

/-
  Layer 8 by shadows: the example.
-/
import Derived.Test.YtcbdgnjdpfgobaaK8f
import Derived.Test.YtcbdgnjdpfgobaaMC
namespace Go.Proofs.Ytcbdgnjdpfgobaa
set_option linter.unusedSimpArgs false
set_option linter.unusedVariables false
open Go.RowKit Go.Maps

def w8 (n : Int) : WordV := ⟨n, 0, 0⟩
def xa1 : ActM := ⟨3, 0, zWord, w8 5⟩
def xa2 : ActM := ⟨5, 0, zWord, zWord⟩
def xa3 : ActM := ⟨6, 0, zWord, w8 9⟩
def xs1 : ScrV := ⟨0, [xa1, xa2], [], false⟩
def xs2 : ScrV := ⟨0, [xa3], [], false⟩
def xm0 : MachM := (cnewM 2 [zWord]).1
noncomputable def xw0 : WorldM scr := (makeM (C := scr) xm0 [xs1, xs2]).1
noncomputable def xw1 : WorldM scr := runW xw0 [⟨0, 1, 0⟩, ⟨0, 2, 0⟩, ⟨0, 1, 0⟩]
theorem make_okW {C : Coder} {m : MachM} {n : Nat} {cs : List C.St} (hM : MachOk m n) (hc : ∀ s ∈ cs, C.good n s) (h : cs.length ≤ m.mem.views.length) : WorldOk (makeM m cs).1 (n + 1) ∧ makeM m cs = (⟨m, cs.map startM, List.replicate cs.length false⟩, 0) := by
  have e : makeM m cs = (⟨m, cs.map startM, List.replicate cs.length false⟩, 0) := by
    unfold makeM
    rw [if_neg (by omega)]
  rw [e]
  refine ⟨⟨machOk_up hM (by omega), by simp only [List.length_map]; exact h, by simp only [List.length_map, List.length_replicate], fun t ht => ?_⟩, rfl⟩
  obtain ⟨s, hs, rfl⟩ := List.mem_map.1 ht
  exact startOk (hc s hs)
theorem xok0 : WorldOk xw0 2 := (make_okW (C := scr) (machOk_new _ _) (fun s hs => by
  have : s = xs1 ∨ s = xs2 := by simpa using hs
  rcases this with rfl | rfl <;> exact Nat.zero_le _) (by decide)).1
theorem xcod0 : CodedW xw0 := codedW_make _ _
theorem xe0 : (cnewM 2 [zWord]).2 = 0 := rfl
theorem xe1 : (makeM (C := scr) xm0 [xs1, xs2]).2 = 0 := rfl
theorem xe2 : xw0.tasks.length = 2 := rfl
theorem xe3 : xw1.tasks.length = 2 := rfl
theorem xe4 : (xw1.tasks[0]?).map gotsOf = some [⟨zWord, true⟩, ⟨w8 5, true⟩] := rfl
theorem xe5 : (xw1.tasks[1]?).map gotsOf = some [⟨w8 5, false⟩] := rfl
theorem xe6 : doneW xw1 = true := rfl
set_option maxHeartbeats 4000000 in
theorem ok_l8awake : Ok 18 [] (sB true) := by
  refine ok_of_tr Try.func18 tr_l8awake rfl ?_
  have hK := shK scr
  have k0 := ok_cNew 2 0 [zWord]
  rw [xe0] at k0
  change Ok _ _ (.tup [eMach xm0, sI 0]) at k0
  have k1 := ok_kMake (C := scr) xm0 0 [xs1, xs2] (by decide) (n := 0) (fun s hs => by
    have : s = xs1 ∨ s = xs2 := by simpa using hs
    rcases this with rfl | rfl <;> exact Nat.le_refl _) (by decide)
  rw [eC1_scr, xe1] at k1
  change Ok _ _ (.tup [eWorld xw0, sI 0]) at k1
  have k2 := ok_kRun xw0 0 [⟨0, 1, 0⟩, ⟨0, 2, 0⟩, ⟨0, 1, 0⟩] xok0 (by decide)
  change Ok _ _ (eWorld xw1) at k2
  have hok1 := runOk [⟨0, 1, 0⟩, ⟨0, 2, 0⟩, ⟨0, 1, 0⟩] xok0
  change WorldOk xw1 _ at hok1
  have hcod1 := codedW_run [⟨0, 1, 0⟩, ⟨0, 2, 0⟩, ⟨0, 1, 0⟩] xcod0
  change CodedW xw1 at hcod1
  have k5 := ok_kWDone xw1 (by rw [xe3]; decide)
  rw [xe6] at k5
  have e2 := xe2
  have e3 := xe3
  have e4 := xe4
  have e5 := xe5
  generalize xw1 = W1 at k2 k5 hok1 hcod1 e3 e4 e5
  generalize xw0 = W0 at k1 k2 e2
  generalize xm0 = M0 at k0 k1
  obtain ⟨t0, h0⟩ : ∃ t, W1.tasks[0]? = some t := ⟨_, List.getElem?_eq_getElem (by omega)⟩
  obtain ⟨t1, h1⟩ : ∃ t, W1.tasks[1]? = some t := ⟨_, List.getElem?_eq_getElem (by omega)⟩
  rw [h0] at e4
  rw [h1] at e5
  simp only [Option.map_some, Option.some.injEq] at e4 e5
  have k3 := ok_l8gots t0 (hcod1 _ (List.mem_of_getElem? h0))
  have k4 := ok_l8gots t1 (hcod1 _ (List.mem_of_getElem? h1))
  rw [e4] at k3
  rw [e5] at k4
  simp only [zWord, w8, xs1, xs2, xa1, xa2, xa3, List.map_cons, List.map_nil] at k0 k1 k2 k3 k4
  have h22 : ((2 : Nat) : Int) = 2 := rfl
  have h21 : ((1 : Nat) : Int) = 1 := rfl
  unfold evFn sc_l8awake rv_l8awake
  have F1 := And.intro @h22 (And.intro @h21 (And.intro @e2 (And.intro @e3 (And.intro @h0 (And.intro @h1 @hK)))))
  refine ev_seq_k fun K1 hn1 hr1 he1 => ?_
  refine ev_ops_k fun K2 hk2 => ?_
  refine sh1 F1 ?_
  refine hk2 _ ?_
  refine hn1 (some ([], none)) _ ?_
  refine ev_seq_k fun K3 hn3 hr3 he3 => ?_
  refine ev_ops_k fun K4 hk4 => ?_
  refine evL_take 2 fun K5 hk5 => ?_
  refine sh1 F1 ?_
  refine sd ?_
  refine hk5 _ ?_
  refine evL_take 1 fun K6 hk6 => ?_
  refine sh1 F1 ?_
  refine Or.inl (Or.inl ⟨_, k0, ?_⟩)
  refine hk6 _ ?_
  refine evL_take 5 fun K7 hk7 => ?_
  refine sh1 F1 ?_
  refine sd ?_
  refine hk7 _ ?_
  refine sh1 F1 ?_
  refine hk4 _ ?_
  refine hn3 (some ([1, 2], none)) _ ?_
  refine ev_seq_k fun K8 hn8 hr8 he8 => ?_
  refine ev_ops_k fun K9 hk9 => ?_
  refine evL_take 1 fun K10 hk10 => ?_
  refine sh1 F1 ?_
  refine sd ?_
  refine hk10 _ ?_
  refine evL_take 4 fun K11 hk11 => ?_
  refine sh1 F1 ?_
  refine sd ?_
  refine hk11 _ ?_
  refine evL_take 5 fun K12 hk12 => ?_
  refine sh1 F1 ?_
  refine sd ?_
  refine hk12 _ ?_
  refine evL_take 3 fun K13 hk13 => ?_
  refine sh1 F1 ?_
  refine sd ?_
  refine hk13 _ ?_
  refine evL_take 1 fun K14 hk14 => ?_
  refine sh1 F1 ?_
  refine Or.inl (Or.inl ⟨_, k1, ?_⟩)
  refine hk14 _ ?_
  refine evL_take 5 fun K15 hk15 => ?_
  refine sh1 F1 ?_
  refine sd ?_
  refine hk15 _ ?_
  refine sh1 F1 ?_
  refine hk9 _ ?_
  refine hn8 (some ([2, 3, 4], none)) _ ?_
  refine ev_seq_k fun K16 hn16 hr16 he16 => ?_
  refine ev_seq_k fun K17 hn17 hr17 he17 => ?_
  refine ev_ops_k fun K18 hk18 => ?_
  refine evL_take 2 fun K19 hk19 => ?_
  refine sh1 F1 ?_
  refine sd ?_
  refine hk19 _ ?_
  refine evL_take 3 fun K20 hk20 => ?_
  refine sh1 F1 ?_
  refine sd ?_
  refine hk20 _ ?_
  refine evL_take 4 fun K21 hk21 => ?_
  refine sh1 F1 ?_
  refine sd ?_
  refine hk21 _ ?_
  refine evL_take 2 fun K22 hk22 => ?_
  refine sh1 F1 ?_
  refine sd ?_
  refine hk22 _ ?_
  refine sh1 F1 ?_
  refine hk18 _ ?_
  refine hn17 (some ([3, 43], none)) _ ?_
  refine ev_cond_k rfl (fun hx => absurd hx (by simp at hx)) (fun hc0 => ?_)
  clear hc0
  refine hn16 (some ([3], none)) _ ?_
  refine ev_seq_k fun K23 hn23 hr23 he23 => ?_
  refine ev_ops_k fun K24 hk24 => ?_
  refine evL_take 1 fun K25 hk25 => ?_
  refine sh1 F1 ?_
  refine sd ?_
  refine hk25 _ ?_
  refine evL_take 4 fun K26 hk26 => ?_
  refine sh1 F1 ?_
  refine sd ?_
  refine hk26 _ ?_
  refine evL_take 1 fun K27 hk27 => ?_
  refine sh1 F1 ?_
  refine Or.inl (Or.inl ⟨_, k2, ?_⟩)
  refine hk27 _ ?_
  refine sh1 F1 ?_
  refine sd ?_
  refine hk24 _ ?_
  refine hn23 (some ([3], none)) _ ?_
  refine ev_seq_k fun K28 hn28 hr28 he28 => ?_
  refine ev_seq_k fun K29 hn29 hr29 he29 => ?_
  refine ev_ops_k fun K30 hk30 => ?_
  refine evL_take 2 fun K31 hk31 => ?_
  refine sh1 F1 ?_
  refine sd ?_
  refine hk31 _ ?_
  refine sh1 F1 ?_
  refine sd ?_
  refine hk30 _ ?_
  refine hn29 (some ([3, 53], none)) _ ?_
  refine ev_cond_k rfl (fun hx => absurd hx (by simp at hx)) (fun hc1 => ?_)
  clear hc1
  refine hn28 (some ([3], none)) _ ?_
  refine ev_seq_k fun K32 hn32 hr32 he32 => ?_
  refine ev_ops_k fun K33 hk33 => ?_
  refine evL_take 2 fun K34 hk34 => ?_
  refine sh1 F1 ?_
  refine sd ?_
  refine hk34 _ ?_
  refine evL_take 1 fun K35 hk35 => ?_
  refine sh1 F1 ?_
  refine sd ?_
  refine hk35 _ ?_
  refine evL_take 1 fun K36 hk36 => ?_
  refine sh1 F1 ?_
  refine sd ?_
  refine hk36 _ ?_
  refine evL_take 1 fun K37 hk37 => ?_
  refine sh1 F1 ?_
  refine Or.inl (Or.inl ⟨_, k3, ?_⟩)
  refine hk37 _ ?_
  refine sh1 F1 ?_
  refine hk33 _ ?_
  refine hn32 (some ([3, 5, 6], none)) _ ?_
  refine ev_seq_k fun K38 hn38 hr38 he38 => ?_
  refine ev_ops_k fun K39 hk39 => ?_
  refine evL_take 2 fun K40 hk40 => ?_
  refine sh1 F1 ?_
  refine sd ?_
  refine hk40 _ ?_
  refine evL_take 1 fun K41 hk41 => ?_
  refine sh1 F1 ?_
  refine sd ?_
  refine hk41 _ ?_
  refine evL_take 1 fun K42 hk42 => ?_
  refine sh1 F1 ?_
  refine sd ?_
  refine hk42 _ ?_
  refine evL_take 1 fun K43 hk43 => ?_
  refine sh1 F1 ?_
  refine Or.inl (Or.inl ⟨_, k4, ?_⟩)
  refine hk43 _ ?_
  refine sh1 F1 ?_
  refine hk39 _ ?_
  refine hn38 (some ([3, 5, 6, 7, 8], none)) _ ?_
  refine ev_seq_k fun K44 hn44 hr44 he44 => ?_
  refine ev_ops_k fun K45 hk45 => ?_
  refine evL_take 8 fun K46 hk46 => ?_
  refine sh1 F1 ?_
  refine sd ?_
  refine hk46 _ ?_
  refine evL_take 5 fun K47 hk47 => ?_
  refine sh1 F1 ?_
  refine sd ?_
  refine hk47 _ ?_
  refine evL_take 4 fun K48 hk48 => ?_
  refine sh1 F1 ?_
  refine sd ?_
  refine hk48 _ ?_
  refine evL_take 3 fun K49 hk49 => ?_
  refine sh1 F1 ?_
  refine sd ?_
  refine hk49 _ ?_
  refine evL_take 1 fun K50 hk50 => ?_
  refine sh1 F1 ?_
  refine sd ?_
  refine hk50 _ ?_
  refine evL_take 4 fun K51 hk51 => ?_
  refine sh1 F1 ?_
  refine sd ?_
  refine hk51 _ ?_
  refine evL_take 2 fun K52 hk52 => ?_
  refine sh1 F1 ?_
  refine sd ?_
  refine hk52 _ ?_
  refine evL_take 5 fun K53 hk53 => ?_
  refine sh1 F1 ?_
  refine sd ?_
  refine hk53 _ ?_
  refine evL_take 3 fun K54 hk54 => ?_
  refine sh1 F1 ?_
  refine sd ?_
  refine hk54 _ ?_
  refine evL_take 1 fun K55 hk55 => ?_
  refine sh1 F1 ?_
  refine sd ?_
  refine hk55 _ ?_
  refine evL_take 3 fun K56 hk56 => ?_
  refine sh1 F1 ?_
  refine sd ?_
  refine hk56 _ ?_
  refine evL_take 1 fun K57 hk57 => ?_
  refine sh1 F1 ?_
  refine Or.inl (Or.inl ⟨_, k5, ?_⟩)
  refine hk57 _ ?_
  refine sh1 F1 ?_
  refine hk45 _ ?_
  refine hn44 (some ([0], none)) _ ?_
  exact sf1 F1
end Go.Proofs.Ytcbdgnjdpfgobaa

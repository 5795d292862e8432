/-
  MachineKeeps: the walk.
-/
import Derived.Test.YtfcjkchpldfamaaK6k
import Derived.Test.YtfcjkchpldfamaaScMachineKeeps
import Derived.Test.YtfcjkchpldfamaaMC
namespace Go.Proofs.Ytfcjkchpldfamaa
set_option linter.unusedSimpArgs false
set_option linter.unusedVariables false
open Go.RowKit Go.Maps

def n77 : WordV := ⟨77, 1, 0⟩
/-- The acts of the law, and the machine behind the first i of them. -/
def kAct (p : Int) : Nat → ActM
  | 0 => ⟨3, p, zWord, n77⟩
  | 1 => ⟨7, p, zWord, zWord⟩
  | _ => ⟨8, 0, zWord, zWord⟩
noncomputable def kRun (M : MachM) (p : Int) : Nat → MachM
  | 0 => M
  | i + 1 => (doM (kRun M p i) 1 (kAct p i) 0).1
theorem kRun_ok {M : MachM} {n : Nat} (hM : MachOk M n) (p : Int) : ∀ i, MachOk (kRun M p i) (n + i)
  | 0 => hM
  | i + 1 => machOk_do (kRun_ok hM p i) _ _ _
theorem kRun_size {M : MachM} {n : Nat} (hM : MachOk M n) (p : Int) : ∀ i, (kRun M p i).mem.views.length = M.mem.views.length ∧ (kRun M p i).mem.places.length = M.mem.places.length
  | 0 => ⟨rfl, rfl⟩
  | i + 1 => by
    have ih := kRun_size hM p i
    have := size_do (kRun_ok hM p i) 1 (kAct p i) 0
    exact ⟨this.1.trans ih.1, this.2.trans ih.2⟩
theorem kRun_tells {M : MachM} {n : Nat} (hM : MachOk M n) (hT : Tells M) (p : Int) : ∀ i, Tells (kRun M p i)
  | 0 => hT
  | i + 1 => tells_do (kRun_ok hM p i) (kRun_tells hM hT p i) _ _ _
theorem kRun_check {M : MachM} {n : Nat} (hM : MachOk M n) {p : Int} (ht : ThrB M.mem 1) (hp : PlcB M.mem p) (i : Nat) : checkM (kRun M p i) 1 (kAct p i) = 0 := by
  obtain ⟨s1, s2⟩ := kRun_size hM p i
  have ht' := (thr_same s1).2 ht
  have hp' := (plc_same s2).2 hp
  match i with
  | 0 => exact check_ok ht' (by simp [kAct]) fun _ _ => hp'
  | 1 => exact check_ok ht' (by simp [kAct]) fun _ _ => hp'
  | i + 2 => exact check_ok ht' (by simp [kAct]) fun _ h => absurd rfl h
theorem kRun_zero {M : MachM} {n : Nat} (hM : MachOk M n) {p : Int} (ht : ThrB M.mem 1) (hp : PlcB M.mem p) (i : Nat) : (doM (kRun M p i) 1 (kAct p i) 0).2.2 = 0 := by
  unfold doM; rw [if_pos (kRun_check hM ht hp i)]
theorem do_lines {M : MachM} {t : Int} {a : ActM} {c : Int} (h : checkM M t a = 0) : (doM M t a c).1.lines = (actM M t a c).1.lines ∧ (doM M t a c).1.crashes = (actM M t a c).1.crashes := by
  unfold doM; rw [if_pos h]; exact ⟨rfl, rfl⟩
theorem kRun_word {M : MachM} {n : Nat} (hM : MachOk M n) {p : Nat} (ht : ThrB M.mem 1) (hp : PlcB M.mem p) (c : Int) : (leftM (kRun M p 3).lines (mixF c))[p]? = some n77 := by
  have l1 : (kRun M p 1).lines = storeM M.lines p n77 := (do_lines (kRun_check hM ht hp 0)).1
  have l2 : (kRun M p 2).lines = flushM (kRun M p 1).lines 1 p := (do_lines (kRun_check hM ht hp 1)).1
  have l3 : (kRun M p 3).lines = syncM (kRun M p 2).lines 1 := (do_lines (kRun_check hM ht hp 2)).1
  have hG := (kRun_ok hM p 3).lines
  rw [l3, l2, l1] at hG ⊢
  have hpl : p < M.lines.first.length := by rw [hM.size]; have := hp.2; omega
  have hS := good_store hM.lines p n77 (by omega) (by omega)
  exact kept_word hM.lines hpl n77 (good_sync (good_flush hS 1 p ⟨by omega, by omega⟩) 1) c
theorem crash_word {M : MachM} {n : Nat} (hM : MachOk M n) (c : Int) {p : Nat} {v : WordV} (h0 : ¬ (M.mem.views.length = 0 ∨ M.mem.places.length = 0)) (h : (leftM M.lines (mixF c))[p]? = some v) : lastWM (crashM M c).mem p = v := by
  have e : wordsM (crashM M c) = leftM M.lines (mixF c) := by
    have := words_new (crash_new hM c h0)
    unfold cnewM at this
    rw [if_pos (crash_new hM c h0)] at this
    unfold crashM
    rw [if_neg h0]
    exact this
  have hp := (List.getElem?_eq_some_iff.1 h).1
  have h2 : (wordsM (crashM M c))[p]? = some v := by rw [e]; exact h
  unfold wordsM at h2
  rw [List.getElem?_map] at h2
  have hl : p < (crashM M c).mem.places.length := by
    rw [(size_crash hM c).2, ← hM.size]
    rw [left_len] at hp; exact hp
  rw [List.getElem?_range hl] at h2
  exact Option.some.inj h2
theorem crash_words {M : MachM} {n : Nat} (hM : MachOk M n) (c : Int) (h0 : ¬ (M.mem.views.length = 0 ∨ M.mem.places.length = 0)) : wordsM (crashM M c) = leftM M.lines (mixF c) := by
  have := words_new (crash_new hM c h0)
  unfold cnewM at this
  rw [if_pos (crash_new hM c h0)] at this
  unfold crashM
  rw [if_neg h0]
  exact this
theorem crash_least {M : MachM} {n : Nat} (hM : MachOk M n) (c : Int) (h0 : ¬ (M.mem.views.length = 0 ∨ M.mem.places.length = 0)) : leftM (crashM M c).lines (fun _ _ => 0) = wordsM (crashM M c) := by
  rw [crash_words hM c h0]
  unfold crashM
  rw [if_neg h0]
  exact left_new _ _
/-- Behind a crash every load reads what was persisted. -/
theorem crash_load {M : MachM} {n : Nat} (hM : MachOk M n) (c : Int) (h0 : ¬ (M.mem.views.length = 0 ∨ M.mem.places.length = 0)) {t q : Int} (ht : ThrB (crashM M c).mem t) (hq : PlcB (crashM M c).mem q) (o w : WordV) (c2 : Int) : (doM (crashM M c) t ⟨1, q, o, w⟩ c2).2 = (⟨lastWM (crashM M c).mem q, true⟩, 0) := by
  unfold doM
  rw [if_pos (check_ok ht (by simp) fun _ _ => hq)]
  show ((actM (crashM M c) t ⟨1, q, o, w⟩ c2).2, (0 : Int)) = _
  have e1 : (actM (crashM M c) t ⟨1, q, o, w⟩ c2).2 = ⟨(loadM (crashM M c).mem t q false c2).2.1, true⟩ := rfl
  rw [e1]
  unfold loadM
  rw [if_pos (wrong_zero.2 ⟨ht, hq⟩)]
  have hlen : (histM (crashM M c).mem q).length = 1 := by
    obtain ⟨_, _, _, _, e⟩ := mnew_ok (crash_new hM c h0)
    have hm : (crashM M c).mem = ⟨(leftM M.lines (mixF c)).map newP, List.replicate (M.mem.views.length : Int).toNat fun _ => none⟩ := by
      unfold crashM; rw [if_neg h0]; exact e
    obtain ⟨m, rfl, hmm, e2, _⟩ := plc_hist hq
    rw [hm] at e2
    simp only [List.getElem?_map] at e2
    cases h3 : (leftM M.lines (mixF c))[m]? with
    | none => rw [h3] at e2; cases e2
    | some z =>
      rw [h3] at e2
      simp only [Option.map_some, Option.some.injEq] at e2
      rw [hm, ← e2]; rfl
  have e4 : chooseF (histM (crashM M c).mem q).length (vGet (seenM (crashM M c).mem t) q) c2 = ((histM (crashM M c).mem q).length : Int) - 1 := by
    rw [hlen]
    have := chooseF_le (n := 1) (by decide) (vGet (seenM (crashM M c).mem t) q) c2
    have h1 : 0 ≤ chooseF 1 (vGet (seenM (crashM M c).mem t) q) c2 := by
      unfold chooseF
      rw [if_neg (by decide)]
      have : (((1 : Nat) : Int) - 1 - max 0 (min (vGet (seenM (crashM M c).mem t) q) (((1 : Nat) : Int) - 1)) + 1) = 1 := by omega
      rw [this, Int.emod_one]; omega
    omega
  rw [e4]; rfl
theorem crash_count {M : MachM} (c : Int) (h0 : ¬ (M.mem.views.length = 0 ∨ M.mem.places.length = 0)) : (crashM M c).crashes = M.crashes + 1 ∧ (crashM M c).steps = M.steps := by
  unfold crashM; rw [if_neg h0]; exact ⟨rfl, rfl⟩

abbrev kActs (p : Int) : List (List Sh) := [eAct4 (kAct p 0), eAct4 (kAct p 1), eAct4 (kAct p 2)]
def KpL0 (M : MachM) (p : Int) (m : Nat) (S : St) : Prop := ∃ i : Nat, i ≤ 3 ∧ m = 3 - i ∧ S = ⟨[(7, .ptr 0 0 0), (9, sI p), (10, .ptr 1 0 0), (51, .sl 8 0 (kActs p)), (52, sI 3), (53, sI i)], [(0, boxC (kRun M p i)), (1, .box 29 (eWord n77))], 2⟩
def KpL1 (M : MachM) (p : Int) (m : Nat) (S : St) : Prop := ∃ c : Int, -3 ≤ c ∧ c ≤ 9 ∧ m = (9 - c).toNat ∧ S = ⟨[(7, .ptr 0 0 0), (9, sI p), (10, .ptr 1 0 0), (16, sI c)], [(0, boxC M), (1, .box 29 (eWord n77))], 2⟩
def KpL2 (M : MachM) (p c : Int) (C : MachM) (W : List WordV) (m : Nat) (S : St) : Prop := ∃ q : Nat, q ≤ W.length ∧ m = W.length - q ∧ S = ⟨[(7, .ptr 0 0 0), (9, sI p), (10, .ptr 1 0 0), (16, sI c), (17, .ptr 2 0 0), (108, .sl 3 0 (W.map eWord)), (109, sI W.length), (110, sI q)], [(0, boxC M), (1, .box 29 (eWord n77)), (2, boxC C)], 3⟩
set_option maxHeartbeats 16000000 in
theorem ok_MachineKeeps (g : Nat) (ws : List WordV) (g2 : Nat) (ds : List DeedV) (at8 : Int) (hd : ds.length ≤ 9223372036854775807) (ha : 0 ≤ at8 ∧ at8 ≤ 255) : Ok 14 [.sl 3 g (ws.map eWord), .sl 11 g2 (ds.map eDeed), .v (.int .u8 at8)] (sB true) := by
  refine ok_of_tr Try.func14 tr_MachineKeeps rfl ?_
  have c0 := ok_l6made 3 g ws g2 ds hd
  have hM := machOk_made 3 ws ds
  have hs := made_size (k := 3) (ws := ws) (ds := ds)
  have hT := tells_made (k := 3) (ws := ws) (ds := ds)
  generalize madeM 3 ws ds = R at c0 hM hs hT
  obtain ⟨M, b⟩ := R
  simp only at c0 hM hs hT
  cases b
  · skip
    unfold evFn sc_MachineKeeps rv_MachineKeeps
    refine ev_seq_k fun K1 hn1 hr1 he1 => ?_
    refine ev_ops_k fun K2 hk2 => ?_
    refine sh0 ?_
    refine hk2 _ ?_
    refine hn1 (some ([0, 1, 2], none)) _ ?_
    refine ev_seq_k fun K3 hn3 hr3 he3 => ?_
    refine ev_ops_k fun K4 hk4 => ?_
    refine evL_take 2 fun K5 hk5 => ?_
    refine sh0 ?_
    refine hk5 _ ?_
    refine evL_take 1 fun K6 hk6 => ?_
    refine sh0 ?_
    refine Or.inl (Or.inl ⟨_, c0, ?_⟩)
    refine hk6 _ ?_
    refine evL_take 5 fun K7 hk7 => ?_
    refine sh0 ?_
    refine sd ?_
    refine hk7 _ ?_
    refine sh0 ?_
    refine hk4 _ ?_
    refine hn3 (some ([0, 2, 7, 8], none)) _ ?_
    refine ev_seq_k fun K8 hn8 hr8 he8 => ?_
    refine ev_seq_k fun K9 hn9 hr9 he9 => ?_
    refine ev_ops_k fun K10 hk10 => ?_
    refine evL_take 6 fun K11 hk11 => ?_
    refine sh0 ?_
    refine sd ?_
    refine hk11 _ ?_
    refine sh0 ?_
    refine hk10 _ ?_
    refine hn9 (some ([0, 2, 7, 37], none)) _ ?_
    refine ev_cond_k rfl (fun hc0 => ?_) (fun hx => absurd hx (by simp at hx))
    clear hc0
    refine ev_seq_k fun K12 hn12 hr12 he12 => ?_
    refine ev_ops_k fun K13 hk13 => ?_
    refine evL_take 1 fun K14 hk14 => ?_
    refine sh0 ?_
    refine Or.inl (Or.inl ⟨_, ok_l6awake, ?_⟩)
    refine hk14 _ ?_
    refine sh0 ?_
    refine hk13 _ ?_
    refine hn12 (some ([6], none)) _ ?_
    refine hr8 _ ?_
    exact sf0
  obtain ⟨s1, s2, s3⟩ := hs rfl
  have hT := hT rfl
  by_cases h0 : ws.length = 0
  · have d : ((ws.length : Int) == 0) = true := by simp [h0]
    unfold evFn sc_MachineKeeps rv_MachineKeeps
    have F1 := @d
    refine ev_seq_k fun K1 hn1 hr1 he1 => ?_
    refine ev_ops_k fun K2 hk2 => ?_
    refine sh1 F1 ?_
    refine hk2 _ ?_
    refine hn1 (some ([0, 1, 2], none)) _ ?_
    refine ev_seq_k fun K3 hn3 hr3 he3 => ?_
    refine ev_ops_k fun K4 hk4 => ?_
    refine evL_take 2 fun K5 hk5 => ?_
    refine sh1 F1 ?_
    refine hk5 _ ?_
    refine evL_take 1 fun K6 hk6 => ?_
    refine sh1 F1 ?_
    refine Or.inl (Or.inl ⟨_, c0, ?_⟩)
    refine hk6 _ ?_
    refine evL_take 5 fun K7 hk7 => ?_
    refine sh1 F1 ?_
    refine sd ?_
    refine hk7 _ ?_
    refine sh1 F1 ?_
    refine hk4 _ ?_
    refine hn3 (some ([0, 2, 7, 8], none)) _ ?_
    refine ev_seq_k fun K8 hn8 hr8 he8 => ?_
    refine ev_seq_k fun K9 hn9 hr9 he9 => ?_
    refine ev_ops_k fun K10 hk10 => ?_
    refine evL_take 6 fun K11 hk11 => ?_
    refine sh1 F1 ?_
    refine sd ?_
    refine hk11 _ ?_
    refine sh1 F1 ?_
    refine hk10 _ ?_
    refine hn9 (some ([0, 2, 7, 37], none)) _ ?_
    refine ev_cond_k rfl (fun hc0 => ?_) (fun hx => absurd hx (by simp at hx))
    clear hc0
    refine ev_seq_k fun K12 hn12 hr12 he12 => ?_
    refine ev_ops_k fun K13 hk13 => ?_
    refine evL_take 1 fun K14 hk14 => ?_
    refine sh1 F1 ?_
    refine Or.inl (Or.inl ⟨_, ok_l6awake, ?_⟩)
    refine hk14 _ ?_
    refine sh1 F1 ?_
    refine hk13 _ ?_
    refine hn12 (some ([6], none)) _ ?_
    refine hr8 _ ?_
    exact sf1 F1
  have d : ((ws.length : Int) == 0) = false := by simp; exact fun e => h0 (by rw [e]; rfl)
  have d0 : ¬ (ws.length : Int) = 0 := by omega
  obtain ⟨p, hp1, hp2⟩ : ∃ p : Nat, at8.tmod (ws.length : Int) = (p : Int) ∧ p < ws.length := by
    have h1 := Int.emod_nonneg at8 d0
    have h2 := Int.emod_lt_of_pos at8 (show (0 : Int) < ws.length by omega)
    exact ⟨(at8 % ws.length).toNat, by rw [Int.tmod_eq_emod_of_nonneg ha.1]; omega, by omega⟩
  have q1 : IntKind.i64.wrap at8 = at8 := by rw [IntKind.wrap_i64]; omega
  have hp : PlcB M.mem (p : Int) := ⟨by omega, by omega⟩
  have ht : ThrB M.mem 1 := ⟨by omega, by rw [s1]; simp⟩
  have hkw := fun c => kRun_word hM ht hp c
  have hkz := kRun_zero hM ht hp
  have hko := kRun_ok hM (p : Int)
  have hks := kRun_size hM (p : Int) 3
  have hkt := kRun_tells hM hT (p : Int) 3
  have hN := hko 3
  have hn0 : ¬ ((kRun M (p : Int) 3).mem.views.length = 0 ∨ (kRun M (p : Int) 3).mem.places.length = 0) := by rw [hks.1, hks.2, s1, s2]; omega
  obtain ⟨Z, hZ⟩ : ∃ Z, Z = kRun M (p : Int) 3 := ⟨_, rfl⟩
  rw [← hZ] at hN hn0 hkt hks hkw
  have hcr := hN.crashes
  have v1 := fun c => crash_word hN c hn0 (hkw c)
  have v2 := fun c => crash_words hN c hn0
  have v3 := fun c => crash_least hN c hn0
  have v4 := fun c => crash_count (M := Z) c hn0
  have v5 := fun c => size_crash hN c
  have k15 := ok_cCrash Z (-1) hN (by omega)
  have k16 := ok_cWords (crashM Z (-1)) (machOk_crash hN (-1)).mem (by omega)
  have k17 := ok_cLeast Z hN.lines (by omega)
  have k19 := ok_cCrash Z (-2) hN (by omega)
  have k20 := ok_cWords (crashM Z (-2)) (machOk_crash hN (-2)).mem (by omega)
  have k21 := ok_cWords Z hN.mem (by omega)
  rw [v2, mix_least] at k16
  rw [v2, left_all hN hkt] at k20
  have hll := left_len Z.lines fun _ _ => 0
  have hfs := hN.size
  have hwl := words_len Z
  have h3 : ((3 : Nat) : Int) = 3 := rfl
  generalize crashM Z (-1) = C15 at k15 k16
  generalize crashM Z (-2) = C19 at k19 k20
  unfold evFn sc_MachineKeeps rv_MachineKeeps
  have F1 := And.intro @d (And.intro @d0 (And.intro @hp1 (And.intro @q1 @h3)))
  refine ev_seq_k fun K1 hn1 hr1 he1 => ?_
  refine ev_ops_k fun K2 hk2 => ?_
  refine sh1 F1 ?_
  refine hk2 _ ?_
  refine hn1 (some ([0, 1, 2], none)) _ ?_
  refine ev_seq_k fun K3 hn3 hr3 he3 => ?_
  refine ev_ops_k fun K4 hk4 => ?_
  refine evL_take 2 fun K5 hk5 => ?_
  refine sh1 F1 ?_
  refine hk5 _ ?_
  refine evL_take 1 fun K6 hk6 => ?_
  refine sh1 F1 ?_
  refine Or.inl (Or.inl ⟨_, c0, ?_⟩)
  refine hk6 _ ?_
  refine evL_take 5 fun K7 hk7 => ?_
  refine sh1 F1 ?_
  refine sd ?_
  refine hk7 _ ?_
  refine sh1 F1 ?_
  refine hk4 _ ?_
  refine hn3 (some ([0, 2, 7, 8], none)) _ ?_
  refine ev_seq_k fun K8 hn8 hr8 he8 => ?_
  refine ev_seq_k fun K9 hn9 hr9 he9 => ?_
  refine ev_ops_k fun K10 hk10 => ?_
  refine evL_take 6 fun K11 hk11 => ?_
  refine sh1 F1 ?_
  refine sd ?_
  refine hk11 _ ?_
  refine sh1 F1 ?_
  refine hk10 _ ?_
  refine hn9 (some ([0, 2, 7, 37], none)) _ ?_
  refine ev_cond_k rfl (fun hx => absurd hx (by simp at hx)) (fun hc0 => ?_)
  clear hc0
  refine hn8 (some ([0, 2, 7], none)) _ ?_
  refine ev_seq_k fun K12 hn12 hr12 he12 => ?_
  refine ev_ops_k fun K13 hk13 => ?_
  refine evL_take 5 fun K14 hk14 => ?_
  refine sh1 F1 ?_
  refine sd ?_
  refine hk14 _ ?_
  refine sh1 F1 ?_
  refine hk13 _ ?_
  refine hn12 (some ([7, 9], none)) _ ?_
  refine ev_seq_k fun K15 hn15 hr15 he15 => ?_
  refine ev_ops_k fun K16 hk16 => ?_
  refine sh1 F1 ?_
  refine sd ?_
  refine hk16 _ ?_
  refine hn15 (some ([7, 9, 10], none)) _ ?_
  refine ev_seq_k fun K17 hn17 hr17 he17 => ?_
  refine ev_seq_k fun K18 hn18 hr18 he18 => ?_
  refine ev_ops_k fun K19 hk19 => ?_
  refine evL_take 2 fun K20 hk20 => ?_
  refine sh1 F1 ?_
  refine sd ?_
  refine hk20 _ ?_
  refine evL_take 5 fun K21 hk21 => ?_
  refine sh1 F1 ?_
  refine sd ?_
  refine hk21 _ ?_
  refine sh1 F1 ?_
  refine hk19 _ ?_
  refine hn18 (some ([7, 9, 10, 51, 52, 53], none)) _ ?_
  refine ev_block_k fun K22 hn22 hx22 hr22 he22 => ?_
  refine ev_loop_k (KpL0 M p) (3) (some ([7, 9, 10, 51, 52, 53], some ([0, 1], 2))) ([]) ?_ ?_
  · try refine lp0 ?_
    exact ⟨0, by omega, by omega, by rfl⟩
  · intro k S1 hI
    obtain ⟨i, hi, rfl, rfl⟩ := hI
    have hcase : i = 3 ∨ i < 3 := by omega
    intro K23 hn23 hr23 he23
    rcases hcase with hcc | hcc
    · skip
      subst hcc
      rw [← hZ]
      have w2 : ¬ ((3 : Nat) : Int) < 3 := by omega
      have F2 := And.intro F1 @w2
      refine ev_seq_k fun K24 hn24 hr24 he24 => ?_
      refine ev_ops_k fun K25 hk25 => ?_
      refine sh1 F2 ?_
      refine sd ?_
      refine hk25 _ ?_
      refine hn24 (some ([7, 9, 10, 51, 52, 53, 54], none)) _ ?_
      refine ev_seq_k fun K26 hn26 hr26 he26 => ?_
      refine ev_cond_k rfl (fun hx => absurd hx (by simp at hx)) (fun hc1 => ?_)
      clear hc1
      refine he26 0 _ ?_
      refine he23 0 _ ?_
      refine hx22 _ ?_
      refine hn17 (some ([7, 9, 10], none)) _ ?_
      refine ev_seq_k fun K27 hn27 hr27 he27 => ?_
      refine ev_seq_k fun K28 hn28 hr28 he28 => ?_
      refine ev_ops_k fun K29 hk29 => ?_
      refine sh1 F2 ?_
      refine hk29 _ ?_
      refine hn28 (some ([7, 9, 10, 16], none)) _ ?_
      refine ev_block_k fun K30 hn30 hx30 hr30 he30 => ?_
      refine ev_loop_k (KpL1 Z p) (12) (some ([7, 9, 10, 16], some ([0, 1], 2))) ([]) ?_ ?_
      · try refine lp0 ?_
        exact ⟨-3, by omega, by omega, by omega, by rfl⟩
      · intro k S1 hI
        obtain ⟨c, hc, hc9, rfl, rfl⟩ := hI
        have hcase : c = 9 ∨ c < 9 := by omega
        intro K31 hn31 hr31 he31
        rcases hcase with hcd | hcd
        · skip
          have w4 : ¬ c < 9 := by omega
          have F3 := And.intro F2 @w4
          refine ev_seq_k fun K32 hn32 hr32 he32 => ?_
          refine ev_seq_k fun K33 hn33 hr33 he33 => ?_
          refine ev_ops_k fun K34 hk34 => ?_
          refine sh1 F3 ?_
          refine sd ?_
          refine hk34 _ ?_
          refine hn33 (some ([7, 9, 10, 16, 69], none)) _ ?_
          refine ev_cond_k rfl (fun hx => absurd hx (by simp at hx)) (fun hc3 => ?_)
          clear hc3
          refine he32 2 _ ?_
          refine he31 2 _ ?_
          refine hx30 _ ?_
          refine hn27 (some ([7], none)) _ ?_
          refine ev_seq_k fun K35 hn35 hr35 he35 => ?_
          refine ev_drw_k [] (n := 14) fun K36 hk36 => ?_
          refine sq0 ?_
          refine evF_take 1 fun K38 hk38 => ?_
          refine sh1 F3 ?_
          refine ⟨_, ok_l6awake, ?_⟩
          refine hk38 _ _ _ ?_
          refine evF_take 2 fun K39 hk39 => ?_
          refine sh1 F3 ?_
          refine sd ?_
          refine hk39 _ _ _ ?_
          refine evF_take 1 fun K40 hk40 => ?_
          refine sh1 F3 ?_
          refine ⟨_, k15, ?_⟩
          refine hk40 _ _ _ ?_
          refine evF_take 1 fun K41 hk41 => ?_
          refine sh1 F3 ?_
          refine ⟨_, k16, ?_⟩
          refine hk41 _ _ _ ?_
          refine evF_take 1 fun K42 hk42 => ?_
          refine sh1 F3 ?_
          refine sd ?_
          refine hk42 _ _ _ ?_
          refine evF_take 1 fun K43 hk43 => ?_
          refine sh1 F3 ?_
          refine ⟨_, k17, ?_⟩
          refine hk43 _ _ _ ?_
          refine evF_take 1 fun K44 hk44 => ?_
          refine sh1 F3 ?_
          refine ⟨_, ok_l6alike _ _ _ (by omega), ?_⟩
          refine hk44 _ _ _ ?_
          refine evF_take 3 fun K45 hk45 => ?_
          refine sh1 F3 ?_
          refine sd ?_
          refine hk45 _ _ _ ?_
          refine evF_take 1 fun K46 hk46 => ?_
          refine sh1 F3 ?_
          refine ⟨_, k19, ?_⟩
          refine hk46 _ _ _ ?_
          refine evF_take 1 fun K47 hk47 => ?_
          refine sh1 F3 ?_
          refine ⟨_, k20, ?_⟩
          refine hk47 _ _ _ ?_
          refine sh1 F3 ?_
          refine sd ?_
          refine hk36 _ ?_
          refine sr0 ?_
          refine evL_take 1 fun K48 hk48 => ?_
          refine sh1 F3 ?_
          refine Or.inl (Or.inl ⟨_, k21, ?_⟩)
          refine hk48 _ ?_
          refine evL_take 1 fun K49 hk49 => ?_
          refine sh1 F3 ?_
          refine Or.inl (Or.inl ⟨_, ok_l6alike _ _ _ (by omega), ?_⟩)
          refine hk49 _ ?_
          refine sh1 F3 ?_
          refine hn35 (some ([6], none)) _ ?_
          exact sf1 F3
        · skip
          skip
          have w5 : IntKind.i64.wrap (c + 1) = c + 1 := by rw [IntKind.wrap_i64]; omega
          have k3 := ok_cCrash Z c hN (by omega)
          have hC := machOk_crash hN c
          have k4 := ok_cWord (crashM Z c) p hC.mem (by omega)
          rw [v1 c] at k4
          have k5 := ok_cCrashes (crashM Z c)
          rw [(v4 c).1] at k5
          have k6 := ok_cCrashes Z
          have w6 : IntKind.i64.wrap (Z.crashes + 1) = Z.crashes + 1 := by rw [IntKind.wrap_i64]; omega
          have k7 := ok_cSteps (crashM Z c) 1 (by rw [(v4 c).2]; have := hN.threads; omega)
          have k8 := ok_cSteps Z 1 (by have := hN.threads; omega)
          have e8 : stepsM (crashM Z c) 1 = stepsM Z 1 := by unfold stepsM; rw [(v4 c).2]
          rw [e8] at k7
          have k9 := ok_cLeast (crashM Z c) hC.lines (by omega)
          rw [v3 c] at k9
          have k10 := ok_cWords (crashM Z c) hC.mem (by omega)
          have hWl := words_len (crashM Z c)
          have hthr : ThrB (crashM Z c).mem 2 := by unfold ThrB; rw [(v5 c).1, hks.1, s1]; exact ⟨by omega, by simp⟩
          have hplc : ∀ q : Nat, q < (wordsM (crashM Z c)).length → PlcB (crashM Z c).mem q := fun q hq => ⟨by omega, by omega⟩
          have hload := fun (q : Nat) (hq : q < (wordsM (crashM Z c)).length) => crash_load hN c hn0 hthr (hplc q hq) zWord zWord c
          have hget : ∀ (q : Nat), q < (wordsM (crashM Z c)).length → (wordsM (crashM Z c))[q]? = some (lastWM (crashM Z c).mem q) := fun q hq => by
            unfold wordsM
            rw [List.getElem?_map, List.getElem?_range (by omega)]; rfl
          have hpl20 : (crashM Z c).mem.places.length ≤ 20 := by rw [(v5 c).2, hks.2, s2]; exact s3
          generalize wordsM (crashM Z c) = W at k9 k10 hWl hload hget
          generalize crashM Z c = C at k3 k4 k5 k7 k9 k10 hload hget hC hpl20 hWl
          generalize decide (PlcB C.mem (p : Int)) = bb at k4
          have F4 := And.intro F2 (And.intro @hcd (And.intro @w5 @w6))
          refine ev_seq_k fun K50 hn50 hr50 he50 => ?_
          refine ev_seq_k fun K51 hn51 hr51 he51 => ?_
          refine ev_ops_k fun K52 hk52 => ?_
          refine sh1 F4 ?_
          refine sd ?_
          refine hk52 _ ?_
          refine hn51 (some ([7, 9, 10, 16, 69], none)) _ ?_
          refine ev_cond_k rfl (fun hc3 => ?_) (fun hx => absurd hx (by simp at hx))
          clear hc3
          refine hn50 (some ([7, 9, 10, 16], none)) _ ?_
          refine ev_seq_k fun K53 hn53 hr53 he53 => ?_
          refine ev_block_k fun K54 hn54 hx54 hr54 he54 => ?_
          refine ev_seq_k fun K55 hn55 hr55 he55 => ?_
          refine ev_ops_k fun K56 hk56 => ?_
          refine evL_take 1 fun K57 hk57 => ?_
          refine sh1 F4 ?_
          refine sd ?_
          refine hk57 _ ?_
          refine evL_take 1 fun K58 hk58 => ?_
          refine sh1 F4 ?_
          refine hk58 _ ?_
          refine evL_take 1 fun K59 hk59 => ?_
          refine sh1 F4 ?_
          refine Or.inl (Or.inl ⟨_, k3, ?_⟩)
          refine hk59 _ ?_
          refine sh1 F4 ?_
          refine sd ?_
          refine hk56 _ ?_
          refine hn55 (some ([7, 9, 10, 16, 17], none)) _ ?_
          refine ev_seq_k fun K60 hn60 hr60 he60 => ?_
          refine ev_ops_k fun K61 hk61 => ?_
          refine evL_take 1 fun K62 hk62 => ?_
          refine sh1 F4 ?_
          refine sd ?_
          refine hk62 _ ?_
          refine evL_take 1 fun K63 hk63 => ?_
          refine sh1 F4 ?_
          refine hk63 _ ?_
          refine evL_take 1 fun K64 hk64 => ?_
          refine sh1 F4 ?_
          refine Or.inl (Or.inl ⟨_, k4, ?_⟩)
          refine hk64 _ ?_
          refine evL_take 5 fun K65 hk65 => ?_
          refine sh1 F4 ?_
          refine sd ?_
          refine hk65 _ ?_
          refine sh1 F4 ?_
          refine hk61 _ ?_
          refine hn60 (some ([7, 9, 10, 16, 17, 18], none)) _ ?_
          refine ev_seq_k fun K66 hn66 hr66 he66 => ?_
          refine ev_seq_k fun K67 hn67 hr67 he67 => ?_
          refine ev_drw_k [] (n := 22) fun K68 hk68 => ?_
          refine sq0 ?_
          refine evF_take 1 fun K70 hk70 => ?_
          refine sh1 F4 ?_
          refine sd ?_
          refine hk70 _ _ _ ?_
          refine evF_take 1 fun K71 hk71 => ?_
          refine sh1 F4 ?_
          refine sd ?_
          refine hk71 _ _ _ ?_
          refine evF_take 1 fun K72 hk72 => ?_
          refine sh1 F4 ?_
          refine ⟨_, eqsh_word_refl _, ?_⟩
          refine hk72 _ _ _ ?_
          refine evF_take 2 fun K73 hk73 => ?_
          refine sh1 F4 ?_
          refine sd ?_
          refine hk73 _ _ _ ?_
          refine evF_take 1 fun K74 hk74 => ?_
          refine sh1 F4 ?_
          refine ⟨_, k5, ?_⟩
          refine hk74 _ _ _ ?_
          refine evF_take 1 fun K75 hk75 => ?_
          refine sh1 F4 ?_
          refine sd ?_
          refine hk75 _ _ _ ?_
          refine evF_take 1 fun K76 hk76 => ?_
          refine sh1 F4 ?_
          refine ⟨_, k6, ?_⟩
          refine hk76 _ _ _ ?_
          refine evF_take 1 fun K77 hk77 => ?_
          refine sh1 F4 ?_
          refine sd ?_
          refine hk77 _ _ _ ?_
          refine evF_take 1 fun K78 hk78 => ?_
          refine sh1 F4 ?_
          refine sd ?_
          refine hk78 _ _ _ ?_
          refine evF_take 3 fun K79 hk79 => ?_
          refine sh1 F4 ?_
          refine sd ?_
          refine hk79 _ _ _ ?_
          refine evF_take 1 fun K80 hk80 => ?_
          refine sh1 F4 ?_
          refine ⟨_, k7, ?_⟩
          refine hk80 _ _ _ ?_
          refine evF_take 1 fun K81 hk81 => ?_
          refine sh1 F4 ?_
          refine sd ?_
          refine hk81 _ _ _ ?_
          refine evF_take 1 fun K82 hk82 => ?_
          refine sh1 F4 ?_
          refine ⟨_, k8, ?_⟩
          refine hk82 _ _ _ ?_
          refine evF_take 1 fun K83 hk83 => ?_
          refine sh1 F4 ?_
          refine sd ?_
          refine hk83 _ _ _ ?_
          refine evF_take 3 fun K84 hk84 => ?_
          refine sh1 F4 ?_
          refine sd ?_
          refine hk84 _ _ _ ?_
          refine evF_take 1 fun K85 hk85 => ?_
          refine sh1 F4 ?_
          refine ⟨_, k9, ?_⟩
          refine hk85 _ _ _ ?_
          refine sh1 F4 ?_
          refine sd ?_
          refine hk68 _ ?_
          refine sr0 ?_
          refine evL_take 1 fun K86 hk86 => ?_
          refine sh1 F4 ?_
          refine Or.inl (Or.inl ⟨_, k10, ?_⟩)
          refine hk86 _ ?_
          refine evL_take 1 fun K87 hk87 => ?_
          refine sh1 F4 ?_
          refine Or.inl (Or.inl ⟨_, ok_l6alike _ _ W (by omega), ?_⟩)
          refine hk87 _ ?_
          refine sh1 F4 ?_
          refine hn67 (some ([7, 9, 10, 16, 17, 106], none)) _ ?_
          refine ev_cond_k rfl (fun hx => absurd hx (by simp at hx)) (fun hc4 => ?_)
          clear hc4
          refine hn66 (some ([7, 9, 10, 16, 17], none)) _ ?_
          refine ev_seq_k fun K88 hn88 hr88 he88 => ?_
          refine ev_ops_k fun K89 hk89 => ?_
          refine evL_take 1 fun K90 hk90 => ?_
          refine sh1 F4 ?_
          refine sd ?_
          refine hk90 _ ?_
          refine evL_take 1 fun K91 hk91 => ?_
          refine sh1 F4 ?_
          refine Or.inl (Or.inl ⟨_, k10, ?_⟩)
          refine hk91 _ ?_
          refine sh1 F4 ?_
          refine hk89 _ ?_
          refine hn88 (some ([7, 9, 10, 16, 17, 108, 109, 110], none)) _ ?_
          refine ev_block_k fun K92 hn92 hx92 hr92 he92 => ?_
          refine ev_loop_k (KpL2 Z p c C W) (W.length) (some ([7, 9, 10, 16, 17, 108, 109, 110], some ([0, 1, 2], 3))) ([]) ?_ ?_
          · try refine lp0 ?_
            exact ⟨0, by omega, by omega, by rfl⟩
          · intro k S1 hI
            obtain ⟨q, hq, rfl, rfl⟩ := hI
            have hcase : q = W.length ∨ q < W.length := by omega
            intro K93 hn93 hr93 he93
            rcases hcase with hce | hce
            · skip
              have w7 : ¬ (q : Int) < (W.length : Int) := by omega
              have F5 := And.intro F4 @w7
              refine ev_seq_k fun K94 hn94 hr94 he94 => ?_
              refine ev_ops_k fun K95 hk95 => ?_
              refine sh1 F5 ?_
              refine sd ?_
              refine hk95 _ ?_
              refine hn94 (some ([7, 9, 10, 16, 17, 108, 109, 110, 111], none)) _ ?_
              refine ev_seq_k fun K96 hn96 hr96 he96 => ?_
              refine ev_cond_k rfl (fun hx => absurd hx (by simp at hx)) (fun hc5 => ?_)
              clear hc5
              refine he96 4 _ ?_
              refine he93 4 _ ?_
              refine hx92 _ ?_
              refine hn54 _ ?_
              refine hn53 (some ([7, 9, 10, 16], none)) _ ?_
              refine ev_ops_k fun K97 hk97 => ?_
              refine evL_take 2 fun K98 hk98 => ?_
              refine sh1 F5 ?_
              refine sd ?_
              refine hk98 _ ?_
              refine sh1 F5 ?_
              refine hk97 _ ?_
              refine hn31 ((9 - (c + 1)).toNat) (some ([7, 9, 10, 16], some ([0, 1], 2))) _ ?_ ?_
              all_goals try refine lp0 ?_
              · omega
              · exact ⟨c + 1, by omega, by omega, by omega, rfl⟩
            · skip
              skip
              have w7 : (q : Int) < (W.length : Int) := by omega
              have w8 : IntKind.i64.wrap ((q : Int) + 1) = ((q + 1 : Nat) : Int) := by rw [IntKind.wrap_i64]; omega
              have w9 := hget q hce
              have k13 := ok_cDo C 2 ⟨1, q, zWord, zWord⟩ c hC (by omega)
              rw [hload q hce] at k13
              generalize lastWM C.mem (q : Int) = wq at w9 k13
              generalize (doM C 2 ⟨1, q, zWord, zWord⟩ c).1 = CQ at k13
              have F6 := And.intro F4 (And.intro @w7 (And.intro @w8 @w9))
              refine ev_seq_k fun K99 hn99 hr99 he99 => ?_
              refine ev_ops_k fun K100 hk100 => ?_
              refine sh1 F6 ?_
              refine sd ?_
              refine hk100 _ ?_
              refine hn99 (some ([7, 9, 10, 16, 17, 108, 109, 110, 111], none)) _ ?_
              refine ev_seq_k fun K101 hn101 hr101 he101 => ?_
              refine ev_cond_k rfl (fun hc5 => ?_) (fun hx => absurd hx (by simp at hx))
              clear hc5
              refine hn101 (some ([7, 9, 10, 16, 17, 108, 109, 110], none)) _ ?_
              refine ev_seq_k fun K102 hn102 hr102 he102 => ?_
              refine ev_block_k fun K103 hn103 hx103 hr103 he103 => ?_
              refine ev_seq_k fun K104 hn104 hr104 he104 => ?_
              refine ev_ops_k fun K105 hk105 => ?_
              refine evL_take 2 fun K106 hk106 => ?_
              refine sh1 F6 ?_
              refine sd ?_
              refine hk106 _ ?_
              refine evL_take 1 fun K107 hk107 => ?_
              refine sh1 F6 ?_
              refine sd ?_
              refine hk107 _ ?_
              refine sh1 F6 ?_
              refine sd ?_
              refine hk105 _ ?_
              refine hn104 (some ([7, 9, 10, 16, 17, 20, 21, 108, 109, 110], none)) _ ?_
              refine ev_seq_k fun K108 hn108 hr108 he108 => ?_
              refine ev_ops_k fun K109 hk109 => ?_
              refine evL_take 1 fun K110 hk110 => ?_
              refine sh1 F6 ?_
              refine sd ?_
              refine hk110 _ ?_
              refine evL_take 3 fun K111 hk111 => ?_
              refine sh1 F6 ?_
              refine hk111 _ ?_
              refine evL_take 1 fun K112 hk112 => ?_
              refine sh1 F6 ?_
              refine Or.inl (Or.inl ⟨_, k13, ?_⟩)
              refine hk112 _ ?_
              refine evL_take 7 fun K113 hk113 => ?_
              refine sh1 F6 ?_
              refine sd ?_
              refine hk113 _ ?_
              refine evL_take 1 fun K114 hk114 => ?_
              refine sh1 F6 ?_
              refine sd ?_
              refine hk114 _ ?_
              refine sh1 F6 ?_
              refine hk109 _ ?_
              refine hn108 (some ([7, 9, 10, 16, 17, 21, 23, 24, 108, 109, 110], none)) _ ?_
              refine ev_seq_k fun K115 hn115 hr115 he115 => ?_
              refine ev_ops_k fun K116 hk116 => ?_
              refine evL_take 2 fun K117 hk117 => ?_
              refine sh1 F6 ?_
              refine sd ?_
              refine hk117 _ ?_
              refine evL_take 3 fun K118 hk118 => ?_
              refine sh1 F6 ?_
              refine sd ?_
              refine hk118 _ ?_
              refine evL_take 1 fun K119 hk119 => ?_
              refine sh1 F6 ?_
              refine sd ?_
              refine hk119 _ ?_
              refine evL_take 1 fun K120 hk120 => ?_
              refine sh1 F6 ?_
              refine Or.inl ⟨_, eqsh_word_refl _, ?_⟩
              refine hk120 _ ?_
              refine sh1 F6 ?_
              refine hk116 _ ?_
              refine hn115 (some ([7, 9, 10, 16, 17, 108, 109, 110, 131], none)) _ ?_
              refine ev_cond_k rfl (fun hx => absurd hx (by simp at hx)) (fun hc6 => ?_)
              clear hc6
              refine hn103 _ ?_
              refine hn102 (some ([7, 9, 10, 16, 17, 108, 109, 110], none)) _ ?_
              refine ev_ops_k fun K121 hk121 => ?_
              refine evL_take 1 fun K122 hk122 => ?_
              refine sh1 F6 ?_
              refine sd ?_
              refine hk122 _ ?_
              refine sh1 F6 ?_
              refine hk121 _ ?_
              refine hn93 (W.length - (q + 1)) (some ([7, 9, 10, 16, 17, 108, 109, 110], some ([0, 1, 2], 3))) _ ?_ ?_
              all_goals try refine lp0 ?_
              · omega
              · exact ⟨q + 1, by omega, by omega, rfl⟩
    · skip
      skip
      have w2 : (i : Int) < 3 := by omega
      have w3 : IntKind.i64.wrap ((i : Int) + 1) = ((i + 1 : Nat) : Int) := by rw [IntKind.wrap_i64]; omega
      have w4 : (kActs (p : Int))[i]? = some (eAct4 (kAct p i)) := by
        rcases (show i = 0 ∨ i = 1 ∨ i = 2 by omega) with rfl | rfl | rfl <;> rfl
      have k2 := ok_cDo (kRun M p i) 1 (kAct p i) 0 (hko i) (by omega)
      rw [hkz i] at k2
      have hs1 : (doM (kRun M p i) 1 (kAct p i) 0).1 = kRun M p (i + 1) := rfl
      rw [hs1] at k2
      generalize (doM (kRun M p i) 1 (kAct p i) 0).2.1 = G at k2
      generalize hLA : kActs (p : Int) = LA at w4 ⊢
      generalize kAct p i = A at k2 w4
      have F7 := And.intro F1 (And.intro @w2 (And.intro @w3 @w4))
      refine ev_seq_k fun K123 hn123 hr123 he123 => ?_
      refine ev_ops_k fun K124 hk124 => ?_
      refine sh1 F7 ?_
      refine sd ?_
      refine hk124 _ ?_
      refine hn123 (some ([7, 9, 10, 51, 52, 53, 54], none)) _ ?_
      refine ev_seq_k fun K125 hn125 hr125 he125 => ?_
      refine ev_cond_k rfl (fun hc1 => ?_) (fun hx => absurd hx (by simp at hx))
      clear hc1
      refine hn125 (some ([7, 9, 10, 51, 52, 53], none)) _ ?_
      refine ev_seq_k fun K126 hn126 hr126 he126 => ?_
      refine ev_block_k fun K127 hn127 hx127 hr127 he127 => ?_
      refine ev_seq_k fun K128 hn128 hr128 he128 => ?_
      refine ev_ops_k fun K129 hk129 => ?_
      refine evL_take 1 fun K130 hk130 => ?_
      refine sh1 F7 ?_
      refine sd ?_
      refine hk130 _ ?_
      refine evL_take 1 fun K131 hk131 => ?_
      refine sh1 F7 ?_
      refine sd ?_
      refine hk131 _ ?_
      refine sh1 F7 ?_
      refine sd ?_
      refine hk129 _ ?_
      refine hn128 (some ([7, 9, 10, 12, 51, 52, 53], none)) _ ?_
      refine ev_seq_k fun K132 hn132 hr132 he132 => ?_
      refine ev_ops_k fun K133 hk133 => ?_
      refine evL_take 1 fun K134 hk134 => ?_
      refine sh1 F7 ?_
      refine sd ?_
      refine hk134 _ ?_
      refine evL_take 1 fun K135 hk135 => ?_
      refine sh1 F7 ?_
      refine sd ?_
      refine hk135 _ ?_
      refine evL_take 1 fun K136 hk136 => ?_
      refine sh1 F7 ?_
      refine Or.inl (Or.inl ⟨_, k2, ?_⟩)
      refine hk136 _ ?_
      refine evL_take 7 fun K137 hk137 => ?_
      refine sh1 F7 ?_
      refine sd ?_
      refine hk137 _ ?_
      refine evL_take 1 fun K138 hk138 => ?_
      refine sh1 F7 ?_
      refine sd ?_
      refine hk138 _ ?_
      refine sh1 F7 ?_
      refine hk133 _ ?_
      refine hn132 (some ([7, 9, 10, 13, 15, 51, 52, 53], none)) _ ?_
      refine ev_seq_k fun K139 hn139 hr139 he139 => ?_
      refine ev_seq_k fun K140 hn140 hr140 he140 => ?_
      refine ev_ops_k fun K141 hk141 => ?_
      refine sh1 F7 ?_
      refine sd ?_
      refine hk141 _ ?_
      refine hn140 (some ([7, 9, 10, 13, 51, 52, 53, 65], none)) _ ?_
      refine ev_cond_k rfl (fun hx => absurd hx (by simp at hx)) (fun hc2 => ?_)
      clear hc2
      refine hn139 (some ([7, 9, 10, 13, 51, 52, 53], none)) _ ?_
      refine ev_ops_k fun K142 hk142 => ?_
      refine evL_take 1 fun K143 hk143 => ?_
      refine sh1 F7 ?_
      refine sd ?_
      refine hk143 _ ?_
      refine sh1 F7 ?_
      refine sd ?_
      refine hk142 _ ?_
      refine hn127 _ ?_
      refine hn126 (some ([7, 9, 10, 51, 52, 53], none)) _ ?_
      refine ev_ops_k fun K144 hk144 => ?_
      refine evL_take 1 fun K145 hk145 => ?_
      refine sh1 F7 ?_
      refine sd ?_
      refine hk145 _ ?_
      refine sh1 F7 ?_
      refine hk144 _ ?_
      refine hn23 (3 - (i + 1)) (some ([7, 9, 10, 51, 52, 53], some ([0, 1], 2))) _ ?_ ?_
      all_goals try refine lp0 ?_
      · omega
      · exact ⟨i + 1, by omega, by omega, by subst hLA; rfl⟩
end Go.Proofs.Ytfcjkchpldfamaa

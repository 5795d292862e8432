/-
  Layer 10, plain laws: an operation alone comes to an end; how often it tries; sums, maxima, claims.
-/
import Derived.Test.YtcbdgnjdpfgobaaK10e
namespace Go.Proofs.Ytcbdgnjdpfgobaa
set_option linter.unusedSimpArgs false
set_option linter.unusedVariables false
open Go.RowKit Go.Maps

def NoStop {C : Coder} (w : WorldM C) : Prop := ∀ m, stoppedM w m = false
theorem noStop_begun (l : List OpV) (w0 w1 : WordV) (h : l.length ≤ 8) : NoStop (begunW l w0 w1) := fun m => by
  unfold begunW
  rw [(begun_ok l w0 w1 h).2.1]
  unfold stoppedM
  simp only [List.getElem?_replicate]
  split <;> rfl
theorem live_set {C : Coder} {w w' : WorldM C} {m : Nat} {y' : TaskM C} (h : w'.tasks = w.tasks.set m y') (hm : m < w.tasks.length) (i : Nat) : liveAt w' i = if i = m then y'.live else liveAt w i := by
  unfold liveAt
  rw [h, List.getElem?_set]
  by_cases e : m = i
  · subst e; rw [if_pos rfl, if_pos hm, if_pos rfl]; rfl
  · rw [if_neg e, if_neg (fun h => e h.symm)]
theorem stop_same {C : Coder} {w w' : WorldM C} (h : w'.stopped = w.stopped) (i : Nat) : stoppedM w' i = stoppedM w i := by unfold stoppedM; rw [h]
theorem live_of {C : Coder} {w : WorldM C} {i : Nat} {y : TaskM C} (h : w.tasks[i]? = some y) : liveAt w i = y.live := by unfold liveAt; rw [h]; rfl
/-- What all runs keep: the operations, that nobody is stopped, that who is done stays done. -/
structure AtJ (l : List OpV) (w : WorldM atm) (D : Nat) : Prop where
  at' : AtW l w
  go : NoStop w
  done : ∀ i, i < D → liveAt w i = false
theorem atJ_step {l : List OpV} {w : WorldM atm} {D : Nat} (h : AtJ l w D) (p : PickV) (hp : p.kind = 0) : AtJ l (stepM w p).1 D := by
  obtain ⟨hw, hc⟩ := atW_step h.at' p (by omega)
  rcases hc with ⟨e, _⟩ | ⟨m, o, s, s', y, y', h0, h1, h2, h3, h4, h5, h6, h7, h8, h9, h10, h11, h12⟩ | ⟨h0, h1, h2⟩
  · rw [e]; exact h
  · refine ⟨hw, fun i => by rw [stop_same h8]; exact h.go i, fun i hi => ?_⟩
    have hm := (List.getElem?_eq_some_iff.1 h3).1
    rw [live_set h7 hm]
    split
    · rename_i e
      subst e
      have := h.done i hi
      rw [live_of h3, h4] at this; cases this
    · exact h.done i hi
  · omega
theorem atJ_begun {l : List OpV} {w0 w1 : WordV} (hl : l.length ≤ 8) (ho : ∀ o ∈ l, checkA o = 0 ∧ (o.loc = 0 ∨ o.loc = 1)) : AtJ l (begunW l w0 w1) 0 := ⟨atW_begun hl ho, noStop_begun l w0 w1 hl, fun i h => absurd h (Nat.not_lt_zero _)⟩
/-- One step of a thread that is not done: it is done, or its next swap is fresh. -/
theorem atm_one {l : List OpV} {w : WorldM atm} (h : AtW l w) (hg : NoStop w) {m : Nat} (hm : m < l.length) :
    liveAt w m = false ∨ liveAt (stepM w ⟨0, (m : Int) + 1, 0⟩).1 m = false ∨
    ∃ (o : OpV) (y : TaskM atm), l[m]? = some o ∧ (stepM w ⟨0, (m : Int) + 1, 0⟩).1.tasks[m]? = some y ∧ y.act = swapA o (Wd (stepM w ⟨0, (m : Int) + 1, 0⟩).1.m o.loc) := by
  obtain ⟨hw, hc⟩ := atW_step h ⟨0, (m : Int) + 1, 0⟩ (by simp)
  have hmt : m < w.tasks.length := by rw [h.len]; exact hm
  rcases hc with ⟨e, e2⟩ | ⟨m', o, s, s', y, y', h0, h1, h2, h3, h4, h5, h6, h7, h8, h9, h10, h11, h12⟩ | ⟨h0, h1, h2⟩
  · exact .inl (takes_not hmt (hg m) (e2 rfl))
  · have e : m' = m := by simp only at h1; omega
    subst e
    have hl := live_set h7 hmt m'
    rw [if_pos rfl] at hl
    cases h12 with
    | hit ha hne hf hans ht hd hs => exact .inr (.inl (by rw [hl, hd]))
    | same hn he hf hans ht hd => exact .inr (.inl (by rw [hl, hd]))
    | again hn hne hf ha ht hd hs =>
      refine .inr (.inr ⟨o, y', h2, by rw [h7, List.getElem?_set_self hmt], ?_⟩)
      rw [ha, h9, set_not hn]
  · exact absurd h0 (by simp)
theorem atm_two {l : List OpV} {w : WorldM atm} (h : AtW l w) (hg : NoStop w) {m : Nat} {o : OpV} {y : TaskM atm} (ho : l[m]? = some o) (hy : w.tasks[m]? = some y) (ha : y.act = swapA o (Wd w.m o.loc)) : liveAt w m = false ∨ liveAt (stepM w ⟨0, (m : Int) + 1, 0⟩).1 m = false := by
  obtain ⟨hw, hc⟩ := atW_step h ⟨0, (m : Int) + 1, 0⟩ (by simp)
  have hmt := (List.getElem?_eq_some_iff.1 hy).1
  rcases hc with ⟨e, e2⟩ | ⟨m', o', s, s', y1, y', h0, h1, h2, h3, h4, h5, h6, h7, h8, h9, h10, h11, h12⟩ | ⟨h0, h1, h2⟩
  · exact .inl (takes_not hmt (hg m) (e2 rfl))
  · have e : m' = m := by simp only at h1; omega
    subst e
    rw [ho] at h2; cases h2
    rw [hy] at h3; cases h3
    have hl := live_set h7 hmt m'
    rw [if_pos rfl] at hl
    cases h12 with
    | hit ha hne hf hans ht hd hs => exact .inr (by rw [hl, hd])
    | same hn he hf hans ht hd => exact .inr (by rw [hl, hd])
    | again hn hne hf ha' ht hd hs =>
      exfalso
      rw [ha] at hn
      unfold scHits swapA at hn
      simp only [beq_self_eq_true, Bool.true_and, weq_self, Bool.or_true] at hn
      cases hn
  · exact absurd h0 (by simp)
theorem atm_alone {l : List OpV} {w : WorldM atm} {D : Nat} (h : AtJ l w D) {m : Nat} (hm : m < l.length) {k : Nat} (hk : 2 ≤ k) : liveAt (goesM w ((m : Int) + 1) k) m = false := by
  have key : liveAt (goesM w ((m : Int) + 1) 2) m = false := by
    by_cases h0 : liveAt w m = false
    · rw [goes_done (m := m) (by omega) h0]; exact h0
    have e1 : goesM w ((m : Int) + 1) 1 = (stepM w ⟨0, (m : Int) + 1, 0⟩).1 := goes_next w _ 0
    have h1 := atJ_step h ⟨0, (m : Int) + 1, 0⟩ rfl
    rw [← e1] at h1
    have e2 : goesM w ((m : Int) + 1) 2 = (stepM (goesM w ((m : Int) + 1) 1) ⟨0, (m : Int) + 1, 0⟩).1 := goes_next w _ 1
    have hd : liveAt (goesM w ((m : Int) + 1) 1) m = false → liveAt (goesM w ((m : Int) + 1) 2) m = false := fun hl => by
      rw [show (2 : Nat) = 1 + 1 from rfl, goes_add, goes_done (m := m) (by omega) hl]; exact hl
    rcases atm_one h.at' h.go hm with a | a | ⟨o, y, a1, a2, a3⟩
    · exact absurd a h0
    · exact hd (by rw [e1]; exact a)
    · rw [← e1] at a2 a3
      rcases atm_two h1.at' h1.go a1 a2 a3 with b | b
      · exact hd b
      · rw [e2]; exact b
  rw [show k = 2 + (k - 2) by omega, goes_add, goes_done (m := m) (by omega) key]
  exact key
theorem atJ_goes {l : List OpV} {w : WorldM atm} {D : Nat} (h : AtJ l w D) (t : Int) (k : Nat) : AtJ l (goesM w t k) D := goes_keeps (I := fun w => AtJ l w D) t (fun w p hp h => atJ_step h p hp) k h
theorem atJ_alone {l : List OpV} {w : WorldM atm} (h : AtJ l w 0) {N : Nat} (hN : 2 ≤ N) : ∀ k, k ≤ l.length → AtJ l (aloneN w N k) k
  | 0, _ => h
  | k + 1, hk => by
    have ih := atJ_alone h hN k (by omega)
    have hj := atJ_goes ih ((k : Int) + 1) N
    refine ⟨hj.at', hj.go, fun i hi => ?_⟩
    by_cases e : i = k
    · subst e; exact atm_alone ih (by omega) hN
    · exact hj.done i (by omega)
theorem atJ_runI {l : List OpV} {w : WorldM atm} {D : Nat} (h : AtJ l w D) (ps : List PickV) (i : Nat) : AtJ l (runI w isStep ps i) D := run_keeps0 (I := fun w => AtJ l w D) (fun w p hp h => atJ_step h p hp) _ (sel_step ps i) h
theorem doneW_of {C : Coder} {w : WorldM C} (h : ∀ i, i < w.tasks.length → liveAt w i = false) : doneW w = true := by
  unfold doneW
  refine List.all_eq_true.2 fun i hi => ?_
  rw [h i (List.mem_range.1 hi)]; rfl

/-! ### Sums -/
theorem doA_ok {o : OpV} (h : checkA o = 0) (v : Int) : doA o v = (mkA o.kind o.n v, v) := by unfold doA; rw [if_pos h]
/-- What the finished ones of three have added. -/
def finSum (w : WorldM atm) (a b c : Int) : Int := (if liveAt w 0 = true then 0 else a) + (if liveAt w 1 = true then 0 else b) + (if liveAt w 2 = true then 0 else c)
structure SumJ (f a b c : Int) (w : WorldM atm) : Prop where
  at' : AtW [⟨0, 0, a⟩, ⟨0, 0, b⟩, ⟨0, 0, c⟩] w
  val : (Wd w.m 0).val = IntKind.i64.wrap (f + finSum w a b c)
  ver : (Wd w.m 0).ver = 3
  ref : (Wd w.m 0).ref = 0
theorem three_cases {α : Type} {a b c : α} {m : Nat} {o : α} (h : [a, b, c][m]? = some o) : (m = 0 ∧ o = a) ∨ (m = 1 ∧ o = b) ∨ (m = 2 ∧ o = c) := by
  match m, h with
  | 0, h => exact .inl ⟨rfl, by simpa using h.symm⟩
  | 1, h => exact .inr (.inl ⟨rfl, by simpa using h.symm⟩)
  | 2, h => exact .inr (.inr ⟨rfl, by simpa using h.symm⟩)
  | m + 3, h => simp at h
theorem sumJ_step {f a b c : Int} (ha : -9223372036854775808 ≤ a ∧ a ≤ 9223372036854775807) (hb : -9223372036854775808 ≤ b ∧ b ≤ 9223372036854775807) (hc : -9223372036854775808 ≤ c ∧ c ≤ 9223372036854775807)
    {w : WorldM atm} (h : SumJ f a b c w) (p : PickV) (hp : p.kind = 0) : SumJ f a b c (stepM w p).1 := by
  obtain ⟨hw, hcs⟩ := atW_step h.at' p (by omega)
  rcases hcs with ⟨e, _⟩ | ⟨m, o, s, s', y, y', h0, h1, h2, h3, h4, h5, h6, h7, h8, h9, h10, h11, h12⟩ | ⟨h0, h1, h2⟩
  · rw [e]; exact h
  · have hm := (List.getElem?_eq_some_iff.1 h3).1
    have hlm := live_of h3
    rw [h4] at hlm
    have hls := fun i => live_set h7 hm i
    have ho : o.kind = 0 ∧ o.loc = 0 ∧ ((m = 0 ∧ o.n = a) ∨ (m = 1 ∧ o.n = b) ∨ (m = 2 ∧ o.n = c)) := by
      rcases three_cases h2 with ⟨e, rfl⟩ | ⟨e, rfl⟩ | ⟨e, rfl⟩
      · exact ⟨rfl, rfl, .inl ⟨e, rfl⟩⟩
      · exact ⟨rfl, rfl, .inr (.inl ⟨e, rfl⟩)⟩
      · exact ⟨rfl, rfl, .inr (.inr ⟨e, rfl⟩)⟩
    obtain ⟨ok, ol, on⟩ := ho
    have hck := (h.at'.ops o (List.mem_of_getElem? h2)).1
    have hv := h.val
    have hsum : y'.live = false → finSum (stepM w p).1 a b c = finSum w a b c + o.n := fun hd => by
      unfold finSum
      rw [hls 0, hls 1, hls 2]
      rcases on with ⟨rfl, e⟩ | ⟨rfl, e⟩ | ⟨rfl, e⟩ <;> simp only [if_true, hd, hlm, Bool.false_eq_true, if_false, e, show (0 : Nat) ≠ 1 by decide, show (0 : Nat) ≠ 2 by decide, show (1 : Nat) ≠ 0 by decide, show (1 : Nat) ≠ 2 by decide, show (2 : Nat) ≠ 0 by decide, show (2 : Nat) ≠ 1 by decide] <;> omega
    have hmk : ∀ v, (doA o v).1 = IntKind.i64.wrap (v + o.n) := fun v => by rw [doA_ok hck]; unfold mkA; rw [if_pos ok]
    cases h12 with
    | hit ha' hne hf hans ht hd hs =>
      have e0 := h9 0
      rw [set_hit ha', if_pos ol.symm, ol] at e0
      refine ⟨hw, ?_, by rw [e0]; exact h.ver, by rw [e0]; exact h.ref⟩
      rw [e0, hsum hd]
      show (doA o (Wd w.m 0).val).1 = _
      rw [hmk, hv]
      simp only [IntKind.wrap_i64]; omega
    | same hn he hf hans ht hd =>
      have e0 : Wd (stepM w p).1.m 0 = Wd w.m 0 := by rw [h9, set_not hn]
      refine ⟨hw, ?_, by rw [e0]; exact h.ver, by rw [e0]; exact h.ref⟩
      rw [e0, hsum hd]
      rw [hmk, ol] at he
      rw [hv] at he ⊢
      have hn : -9223372036854775808 ≤ o.n ∧ o.n ≤ 9223372036854775807 := by rcases on with ⟨_, e⟩ | ⟨_, e⟩ | ⟨_, e⟩ <;> rw [e] <;> assumption
      simp only [IntKind.wrap_i64] at he ⊢; omega
    | again hn hne hf ha' ht hd hs =>
      have e0 : Wd (stepM w p).1.m 0 = Wd w.m 0 := by rw [h9, set_not hn]
      refine ⟨hw, ?_, by rw [e0]; exact h.ver, by rw [e0]; exact h.ref⟩
      have : finSum (stepM w p).1 a b c = finSum w a b c := by
        unfold finSum
        rw [hls 0, hls 1, hls 2]
        rcases on with ⟨rfl, e⟩ | ⟨rfl, e⟩ | ⟨rfl, e⟩ <;> simp only [if_true, hd, hlm, if_false, show (0 : Nat) ≠ 1 by decide, show (0 : Nat) ≠ 2 by decide, show (1 : Nat) ≠ 0 by decide, show (1 : Nat) ≠ 2 by decide, show (2 : Nat) ≠ 0 by decide, show (2 : Nat) ≠ 1 by decide]
      rw [e0, this]; exact hv
  · omega

/-! ### Maxima and claims -/
def finMax (w : WorldM atm) (f a b c : Int) : Int := max (max (max f (if liveAt w 0 = true then f else a)) (if liveAt w 1 = true then f else b)) (if liveAt w 2 = true then f else c)
structure MaxJ (f a b c : Int) (w : WorldM atm) : Prop where
  at' : AtW [⟨1, 0, a⟩, ⟨1, 0, b⟩, ⟨1, 0, c⟩] w
  val : (Wd w.m 0).val = finMax w f a b c
theorem maxJ_step {f a b c : Int} {w : WorldM atm} (h : MaxJ f a b c w) (p : PickV) (hp : p.kind = 0) : MaxJ f a b c (stepM w p).1 := by
  obtain ⟨hw, hcs⟩ := atW_step h.at' p (by omega)
  rcases hcs with ⟨e, _⟩ | ⟨m, o, s, s', y, y', h0, h1, h2, h3, h4, h5, h6, h7, h8, h9, h10, h11, h12⟩ | ⟨h0, h1, h2⟩
  · rw [e]; exact h
  · have hm := (List.getElem?_eq_some_iff.1 h3).1
    have hlm := live_of h3
    rw [h4] at hlm
    have hls := fun i => live_set h7 hm i
    have ho : o.kind = 1 ∧ o.loc = 0 ∧ ((m = 0 ∧ o.n = a) ∨ (m = 1 ∧ o.n = b) ∨ (m = 2 ∧ o.n = c)) := by
      rcases three_cases h2 with ⟨e, rfl⟩ | ⟨e, rfl⟩ | ⟨e, rfl⟩
      · exact ⟨rfl, rfl, .inl ⟨e, rfl⟩⟩
      · exact ⟨rfl, rfl, .inr (.inl ⟨e, rfl⟩)⟩
      · exact ⟨rfl, rfl, .inr (.inr ⟨e, rfl⟩)⟩
    obtain ⟨ok, ol, on⟩ := ho
    have hck := (h.at'.ops o (List.mem_of_getElem? h2)).1
    have hv := h.val
    have hmax : y'.live = false → finMax (stepM w p).1 f a b c = max (finMax w f a b c) o.n := fun hd => by
      unfold finMax
      rw [hls 0, hls 1, hls 2]
      rcases on with ⟨rfl, e⟩ | ⟨rfl, e⟩ | ⟨rfl, e⟩ <;> simp only [if_true, hd, hlm, Bool.false_eq_true, if_false, e, show (0 : Nat) ≠ 1 by decide, show (0 : Nat) ≠ 2 by decide, show (1 : Nat) ≠ 0 by decide, show (1 : Nat) ≠ 2 by decide, show (2 : Nat) ≠ 0 by decide, show (2 : Nat) ≠ 1 by decide] <;> (repeat' split) <;> omega
    have hmk : ∀ v, (doA o v).1 = max v o.n := fun v => by rw [doA_ok hck]; unfold mkA; rw [if_neg (by omega), if_pos ok]
    cases h12 with
    | hit ha' hne hf hans ht hd hs =>
      have e0 := h9 0
      rw [set_hit ha', if_pos ol.symm, ol] at e0
      refine ⟨hw, ?_⟩
      rw [e0, hmax hd]
      show (doA o (Wd w.m 0).val).1 = _
      rw [hmk, hv]
    | same hn he hf hans ht hd =>
      have e0 : Wd (stepM w p).1.m 0 = Wd w.m 0 := by rw [h9, set_not hn]
      refine ⟨hw, ?_⟩
      rw [e0, hmax hd]
      rw [hmk, ol] at he
      rw [hv] at he ⊢
      omega
    | again hn hne hf ha' ht hd hs =>
      have e0 : Wd (stepM w p).1.m 0 = Wd w.m 0 := by rw [h9, set_not hn]
      refine ⟨hw, ?_⟩
      have : finMax (stepM w p).1 f a b c = finMax w f a b c := by
        unfold finMax
        rw [hls 0, hls 1, hls 2]
        rcases on with ⟨rfl, e⟩ | ⟨rfl, e⟩ | ⟨rfl, e⟩ <;> simp only [if_true, hd, hlm, if_false, show (0 : Nat) ≠ 1 by decide, show (0 : Nat) ≠ 2 by decide, show (1 : Nat) ≠ 0 by decide, show (1 : Nat) ≠ 2 by decide, show (2 : Nat) ≠ 0 by decide, show (2 : Nat) ≠ 1 by decide]
      rw [e0, this]; exact hv
  · omega
/-- Nobody has claimed, or just one has. -/
structure ClaimJ (l : List OpV) (w : WorldM atm) : Prop where
  at' : AtW l w
  ops : ∀ o ∈ l, o.kind = 3 ∧ o.loc = 0 ∧ o.n ≠ 0
  val : ((Wd w.m 0).val = 0 ∧ ∀ i, i < l.length → liveAt w i = true) ∨
    ∃ (k : Nat) (o : OpV) (y : TaskM atm) (s : AtmV), l[k]? = some o ∧ w.tasks[k]? = some y ∧ y.code = some s ∧ s.fin = true ∧ s.answer = 0 ∧ (Wd w.m 0).val = o.n ∧
      ∀ (i : Nat) (y : TaskM atm) (s : AtmV), i ≠ k → w.tasks[i]? = some y → y.code = some s → s.fin = true → s.answer = o.n
theorem claimJ_step {l : List OpV} {w : WorldM atm} (h : ClaimJ l w) (p : PickV) (hp : p.kind = 0) : ClaimJ l (stepM w p).1 := by
  obtain ⟨hw, hcs⟩ := atW_step h.at' p (by omega)
  rcases hcs with ⟨e, _⟩ | ⟨m, o, s, s', y, y', h0, h1, h2, h3, h4, h5, h6, h7, h8, h9, h10, h11, h12⟩ | ⟨h0, h1, h2⟩
  · rw [e]; exact h
  · have hm := (List.getElem?_eq_some_iff.1 h3).1
    have hls := fun i => live_set h7 hm i
    obtain ⟨ok, ol, on⟩ := h.ops o (List.mem_of_getElem? h2)
    have hck := (h.at'.ops o (List.mem_of_getElem? h2)).1
    have hmk : ∀ v, doA o v = (if v = 0 then o.n else v, v) := fun v => by rw [doA_ok hck]; unfold mkA; rw [if_neg (by omega), if_neg (by omega), if_neg (by omega)]
    have hget : ∀ i, (stepM w p).1.tasks[i]? = if m = i then some y' else w.tasks[i]? := fun i => by
      rw [h7, List.getElem?_set]
      split
      · rename_i e; subst e; first | rfl | rw [if_pos hm]
      · rfl
    have hmn : ∀ {k : Nat} {y2 : TaskM atm} {s2 : AtmV}, w.tasks[k]? = some y2 → y2.code = some s2 → s2.fin = true → k ≠ m := fun {k y2 s2} hy2 hs2 hf e => by
      subst e
      rw [h3] at hy2; cases hy2
      rw [h10.code] at hs2; cases hs2
      have := h10.live
      rw [h4, hf] at this; cases this
    cases h12 with
    | hit ha' hne hf hans ht hd hs =>
      have e0 := h9 0
      rw [set_hit ha', if_pos ol.symm, ol] at e0
      rw [ol] at hne hans
      have hv0 : (Wd w.m 0).val = 0 := by
        rw [hmk] at hne
        simp only at hne
        by_cases hz : (Wd w.m 0).val = 0
        · exact hz
        · rw [if_neg hz] at hne; exact absurd rfl hne
      have hno : ∀ (i : Nat) (y : TaskM atm) (s : AtmV), i ≠ m → w.tasks[i]? = some y → y.code = some s → s.fin = true → False := fun i y2 s2 hi hy2 hs2 hf2 => by
        rcases h.val with ⟨_, hall⟩ | ⟨k, o2, y3, s3, a1, a2, a3, a4, a5, a6, a7⟩
        · have hil := (List.getElem?_eq_some_iff.1 hy2).1
          have := hall i (by rw [← h.at'.len]; exact hil)
          obtain ⟨o3, ho3⟩ : ∃ o, l[i]? = some o := ⟨_, List.getElem?_eq_getElem (by rw [← h.at'.len]; exact hil)⟩
          obtain ⟨s4, hs4⟩ := h.at'.task i o3 y2 ho3 hy2
          rw [live_of hy2, hs4.live] at this
          have e := hs4.code
          rw [hs2] at e; cases e
          rw [hf2] at this; cases this
        · have := (h.ops o2 (List.mem_of_getElem? a1)).2.2
          omega
      refine ⟨hw, h.ops, .inr ⟨m, o, y', s', h2, by rw [hget, if_pos rfl], h11.code, hf, by rw [hans, hv0], ?_, fun i y2 s2 hi hy2 hs2 hf2 => ?_⟩⟩
      · rw [e0]
        show (doA o (Wd w.m 0).val).1 = _
        rw [hmk, hv0]; rfl
      · rw [hget, if_neg (fun e => hi e.symm)] at hy2
        exact (hno i y2 s2 hi hy2 hs2 hf2).elim
    | same hn he hf hans ht hd =>
      have e0 : Wd (stepM w p).1.m 0 = Wd w.m 0 := by rw [h9, set_not hn]
      rw [ol] at he hans
      rw [hmk] at he hans
      simp only at he hans
      have hvn : (Wd w.m 0).val ≠ 0 := fun hz => by rw [if_pos hz, hz] at he; exact on he
      rcases h.val with ⟨hz, _⟩ | ⟨k, o2, y3, s3, a1, a2, a3, a4, a5, a6, a7⟩
      · exact absurd hz hvn
      · have hkm := hmn a2 a3 a4
        refine ⟨hw, h.ops, .inr ⟨k, o2, y3, s3, a1, by rw [hget, if_neg (fun e => hkm e.symm)]; exact a2, a3, a4, a5, by rw [e0]; exact a6, fun i y2 s2 hi hy2 hs2 hf2 => ?_⟩⟩
        rw [hget] at hy2
        split at hy2
        · cases hy2
          rw [h11.code] at hs2; cases hs2
          rw [hans, a6]
        · exact a7 i y2 s2 hi hy2 hs2 hf2
    | again hn hne hf ha' ht hd hs =>
      have e0 : Wd (stepM w p).1.m 0 = Wd w.m 0 := by rw [h9, set_not hn]
      refine ⟨hw, h.ops, ?_⟩
      rcases h.val with ⟨hz, hall⟩ | ⟨k, o2, y3, s3, a1, a2, a3, a4, a5, a6, a7⟩
      · refine .inl ⟨by rw [e0]; exact hz, fun i hi => ?_⟩
        rw [hls]
        split
        · exact hd
        · exact hall i hi
      · have hkm := hmn a2 a3 a4
        refine .inr ⟨k, o2, y3, s3, a1, by rw [hget, if_neg (fun e => hkm e.symm)]; exact a2, a3, a4, a5, by rw [e0]; exact a6, fun i y2 s2 hi hy2 hs2 hf2 => ?_⟩
        rw [hget] at hy2
        split at hy2
        · cases hy2
          rw [h11.code] at hs2; cases hs2
          rw [hf] at hf2; cases hf2
        · exact a7 i y2 s2 hi hy2 hs2 hf2
  · omega
end Go.Proofs.Ytcbdgnjdpfgobaa

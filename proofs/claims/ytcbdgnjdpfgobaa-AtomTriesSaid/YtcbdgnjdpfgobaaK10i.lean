/-
  AtomTries, by shadows.
-/
import Derived.Test.YtcbdgnjdpfgobaaK10c
import Derived.Test.YtcbdgnjdpfgobaaK10g
import Derived.Test.YtcbdgnjdpfgobaaScAtomTries
import Derived.Test.YtcbdgnjdpfgobaaMC
namespace Go.Proofs.Ytcbdgnjdpfgobaa
set_option linter.unusedSimpArgs false
set_option linter.unusedVariables false
open Go.RowKit Go.Maps

/-! ### How often the words of the operations changed -/
def chAt (ch : List Int) (i : Nat) : Int := (ch[i]?).getD 0
def chM (l : List OpV) (t : Nat) (f g : Int → WordV) (ch : List Int) : Nat → List Int
  | 0 => ch
  | j + 1 => match l[j]? with
    | some o => if j ≠ t ∧ weq (f o.loc) (g o.loc) = false then (chM l t f g ch j).set j (chAt (chM l t f g ch j) j + 1) else chM l t f g ch j
    | none => chM l t f g ch j
theorem chM_len (l : List OpV) (t : Nat) (f g : Int → WordV) (ch : List Int) : ∀ j, (chM l t f g ch j).length = ch.length
  | 0 => rfl
  | j + 1 => by
    unfold chM
    split
    · split
      · rw [List.length_set]; exact chM_len l t f g ch j
      · exact chM_len l t f g ch j
    · exact chM_len l t f g ch j
theorem chM_at (l : List OpV) (t : Nat) (f g : Int → WordV) (ch : List Int) {i : Nat} {o : OpV} (ho : l[i]? = some o) (hi : i < ch.length) : ∀ j, chAt (chM l t f g ch j) i = chAt ch i + if i < j ∧ i ≠ t ∧ weq (f o.loc) (g o.loc) = false then 1 else 0
  | 0 => by rw [if_neg (by omega)]; show chAt ch i = _; omega
  | j + 1 => by
    have ih := chM_at l t f g ch ho hi j
    have hl := chM_len l t f g ch j
    unfold chM
    by_cases e : j = i
    · subst e
      rw [ho]
      simp only
      rw [if_neg (by omega)] at ih
      by_cases hc : j ≠ t ∧ weq (f o.loc) (g o.loc) = false
      · rw [if_pos hc, if_pos ⟨by omega, hc⟩]
        unfold chAt
        rw [List.getElem?_set_self (by omega)]
        show chAt (chM l t f g ch j) j + 1 = chAt ch j + 1
        omega
      · rw [if_neg hc, if_neg (fun h => hc h.2)]
        exact ih
    · have hs : ∀ v, chAt ((chM l t f g ch j).set j v) i = chAt (chM l t f g ch j) i := fun v => by
        unfold chAt; rw [List.getElem?_set_ne e]
      have hlt : (i < j + 1 ∧ i ≠ t ∧ weq (f o.loc) (g o.loc) = false) ↔ (i < j ∧ i ≠ t ∧ weq (f o.loc) (g o.loc) = false) := by
        constructor
        · rintro ⟨a, b⟩; exact ⟨by omega, b⟩
        · rintro ⟨a, b⟩; exact ⟨by omega, b⟩
      have hr : (if i < j + 1 ∧ i ≠ t ∧ weq (f o.loc) (g o.loc) = false then (1 : Int) else 0) = if i < j ∧ i ≠ t ∧ weq (f o.loc) (g o.loc) = false then 1 else 0 := by
        by_cases hc : i < j ∧ i ≠ t ∧ weq (f o.loc) (g o.loc) = false
        · rw [if_pos hc, if_pos (hlt.2 hc)]
        · rw [if_neg hc, if_neg (fun h => hc (hlt.1 h))]
      rw [hr, ← ih]
      split
      · split
        · exact hs _
        · rfl
      · rfl
structure TrJ (l : List OpV) (w : WorldM atm) (ch : List Int) (N : Nat) : Prop where
  at' : AtJ l w 0
  len : ch.length = l.length
  lo : ∀ i, i < l.length → 0 ≤ chAt ch i
  hi : ∀ i, i < l.length → chAt ch i ≤ N
  task : ∀ (i : Nat) (o : OpV) (y : TaskM atm) (s : AtmV), l[i]? = some o → w.tasks[i]? = some y → AtT o s y →
    (s.fin = true → s.tries ≤ chAt ch i + 1) ∧
    (s.fin = false → (s.swapped = false ∧ s.tries = 0) ∨ (s.swapped = true ∧ ∃ g, y.act = swapA o g ∧ s.tries ≤ chAt ch i ∧ (g ≠ Wd w.m o.loc → s.tries + 1 ≤ chAt ch i)))
theorem atT_same {o o' : OpV} {s s' : AtmV} {y : TaskM atm} (h : AtT o s y) (h' : AtT o' s' y) : s = s' := by
  have := h.code
  rw [h'.code] at this
  exact (Option.some.inj this).symm
theorem trJ_most {l : List OpV} {w : WorldM atm} {ch : List Int} {N : Nat} (h : TrJ l w ch N) {i : Nat} {o : OpV} {y : TaskM atm} {s : AtmV} (ho : l[i]? = some o) (hy : w.tasks[i]? = some y) (hs : AtT o s y) : s.tries ≤ chAt ch i + 1 := by
  have hlt := (List.getElem?_eq_some_iff.1 ho).1
  have := h.lo i hlt
  obtain ⟨a, b⟩ := h.task i o y s ho hy hs
  cases hf : s.fin
  · rcases b hf with ⟨_, e⟩ | ⟨_, g, _, e, _⟩ <;> omega
  · exact a hf
theorem trJ_begun {l : List OpV} {w0 w1 : WordV} (hl : l.length ≤ 8) (ho : ∀ o ∈ l, checkA o = 0 ∧ (o.loc = 0 ∨ o.loc = 1)) : TrJ l (begunW l w0 w1) (List.replicate l.length 0) 0 := by
  have hz : ∀ i, i < l.length → chAt (List.replicate l.length 0) i = 0 := fun i hi => by
    unfold chAt; rw [List.getElem?_replicate, if_pos hi]; rfl
  refine ⟨atJ_begun hl ho, by simp, fun i hi => by rw [hz i hi]; omega, fun i hi => by rw [hz i hi]; omega, fun i o y s hi hy hs => ?_⟩
  have e : begunW l w0 w1 = ⟨machR l w0 w1, (codesA l).map (startM (C := atm)), List.replicate l.length false⟩ := by unfold begunW; rw [(begun_ok l w0 w1 hl).2.1]
  rw [e] at hy
  simp only [codesA, List.map_map, List.getElem?_map, hi, Option.map_some, Option.some.injEq] at hy
  subst hy
  have := atT_same (at_start o) hs
  subst this
  exact ⟨(fun h => nomatch h), fun _ => .inl ⟨rfl, rfl⟩⟩
theorem trJ_not {l : List OpV} {w : WorldM atm} {ch : List Int} {N : Nat} (h : TrJ l w ch N) : TrJ l w ch (N + 1) := ⟨h.at', h.len, h.lo, fun i hi => by have := h.hi i hi; omega, h.task⟩
theorem trJ_step {l : List OpV} {w : WorldM atm} {ch : List Int} {N : Nat} (h : TrJ l w ch N) (p : PickV) (hp : p.kind = 0) (hd : (stepM w p).2 = true) : ∃ m : Nat, p.thread = (m : Int) + 1 ∧ m < l.length ∧ TrJ l (stepM w p).1 (chM l m (Wd w.m) (Wd (stepM w p).1.m) ch l.length) (N + 1) := by
  have hJ := atJ_step h.at' p hp
  obtain ⟨hw, hcs⟩ := atW_step h.at'.at' p (by omega)
  rcases hcs with ⟨e, _⟩ | ⟨m, o, s, s', y, y', h0, h1, h2, h3, h4, h5, h6, h7, h8, h9, h10, h11, h12⟩ | ⟨h0, h1, h2⟩
  · rw [e] at hd; cases hd
  · have hm := (List.getElem?_eq_some_iff.1 h3).1
    have hml : m < l.length := by rw [← h.at'.at'.len]; exact hm
    have hat := fun {i : Nat} {o' : OpV} (ho' : l[i]? = some o') => chM_at l m (Wd w.m) (Wd (stepM w p).1.m) ch ho' (by rw [h.len]; exact (List.getElem?_eq_some_iff.1 ho').1) l.length
    refine ⟨m, h1, hml, hJ, by rw [chM_len]; exact h.len, fun i hi => ?_, fun i hi => ?_, fun i o' y2 s2 hi hy2 hs2 => ?_⟩
    · obtain ⟨o', ho'⟩ : ∃ o', l[i]? = some o' := ⟨_, List.getElem?_eq_getElem hi⟩
      rw [hat ho']
      have := h.lo i hi
      split <;> omega
    · obtain ⟨o', ho'⟩ : ∃ o', l[i]? = some o' := ⟨_, List.getElem?_eq_getElem hi⟩
      rw [hat ho']
      have := h.hi i hi
      split <;> omega
    · have hlt := (List.getElem?_eq_some_iff.1 hi).1
      have hge : chAt ch i ≤ chAt (chM l m (Wd w.m) (Wd (stepM w p).1.m) ch l.length) i := by rw [hat hi]; split <;> omega
      rw [h7, List.getElem?_set] at hy2
      by_cases e : m = i
      · subst e
        rw [if_pos rfl, if_pos hm] at hy2
        cases hy2
        rw [h2] at hi; cases hi
        have := atT_same h11 hs2
        subst this
        have hc : chAt (chM l m (Wd w.m) (Wd (stepM w p).1.m) ch l.length) m = chAt ch m := by rw [hat h2, if_neg (by simp)]; omega
        rw [hc]
        obtain ⟨_, hb⟩ := h.task m o y s h2 h3 h10
        have hf0 : s.fin = false := by have := h10.live; rw [h4] at this; simpa using this.symm
        have hlo := h.lo m hml
        have hle : s.tries ≤ chAt ch m := by rcases hb hf0 with ⟨_, e⟩ | ⟨_, g, _, e, _⟩ <;> omega
        cases h12 with
        | hit ha hne hf hans ht hd' hs => exact ⟨fun _ => by rw [ht]; omega, fun h => by rw [hf] at h; cases h⟩
        | same hn he hf hans ht hd' => exact ⟨fun _ => by rw [ht]; split <;> omega, fun h => by rw [hf] at h; cases h⟩
        | again hn hne hf ha ht hd' hs =>
          refine ⟨fun h => (by rw [hf] at h; cases h), fun _ => .inr ⟨hs, _, ha, ?_, fun hx => absurd (by rw [h9, set_not hn]) hx⟩⟩
          rw [ht]
          rcases hb hf0 with ⟨e1, e2⟩ | ⟨e1, g, e2, e3, e4⟩
          · rw [if_neg (by rw [e1]; simp)]; omega
          · rw [if_pos e1]
            refine e4 fun hg => ?_
            rw [e2, hg] at hn
            unfold scHits swapA at hn
            simp only [beq_self_eq_true, Bool.true_and, weq_self, Bool.or_true] at hn
            cases hn
      · rw [if_neg e] at hy2
        obtain ⟨ha, hb⟩ := h.task i o' y2 s2 hi hy2 hs2
        refine ⟨fun hf => by have := ha hf; omega, fun hf => ?_⟩
        rcases hb hf with ⟨e1, e2⟩ | ⟨e1, g, e2, e3, e4⟩
        · exact .inl ⟨e1, e2⟩
        · refine .inr ⟨e1, g, e2, by omega, fun hg => ?_⟩
          by_cases hq : weq (Wd w.m o'.loc) (Wd (stepM w p).1.m o'.loc) = true
          · have := e4 (by rw [weq_iff.1 hq]; exact hg)
            omega
          · have hq : weq (Wd w.m o'.loc) (Wd (stepM w p).1.m o'.loc) = false := by simpa using hq
            rw [hat hi, if_pos ⟨hlt, fun e' => e e'.symm, hq⟩]
            omega
  · omega

theorem trJ_get {l : List OpV} {w : WorldM atm} {ch : List Int} {N : Nat} (h : TrJ l w ch N) {j : Nat} (hj : j < l.length) : ∃ (o : OpV) (y : TaskM atm) (s : AtmV) (c : Int), l[j]? = some o ∧ w.tasks[j]? = some y ∧ eCode atm y.code = .ifc 141 (.agg (cAtm s)) ∧ ch[j]? = some c ∧ s.tries ≤ c + 1 ∧ 0 ≤ c ∧ c ≤ N ∧ j < w.tasks.length ∧ (j : Int) < (w.tasks.length : Int) ∧ j < ch.length ∧ (j : Int) < (ch.length : Int) := by
  have hw := h.at'.at'.len
  have hc := h.len
  obtain ⟨o, ho⟩ : ∃ o, l[j]? = some o := ⟨_, List.getElem?_eq_getElem hj⟩
  obtain ⟨y, hy⟩ : ∃ y, w.tasks[j]? = some y := ⟨_, List.getElem?_eq_getElem (by omega)⟩
  obtain ⟨c, hc'⟩ : ∃ c, ch[j]? = some c := ⟨_, List.getElem?_eq_getElem (by omega)⟩
  obtain ⟨s, hs⟩ := h.at'.at'.task j o y ho hy
  have e : chAt ch j = c := by unfold chAt; rw [hc']; rfl
  have h1 := trJ_most h ho hy hs
  have h2 := h.lo j hj
  have h3 := h.hi j hj
  rw [e] at h1 h2 h3
  exact ⟨o, y, s, c, ho, hy, by rw [hs.code]; rfl, hc', h1, h2, h3, by omega, by omega, by omega, by omega⟩

/-! ### The walk -/
abbrev eI1 (x : Int) : List Sh := [sI x]
noncomputable abbrev trW (r : RunV) (L : List OpV) (i : Nat) : WorldM atm := runI (begunW L r.w0 r.w1) isStep r.picks i
def TiInv (r : RunV) (L : List OpV) (k : Nat) (S : St) : Prop :=
  ∃ (i : Nat) (ch : List Int), i ≤ r.picks.length ∧ k = r.picks.length - i ∧ TrJ L (trW r L i) ch i ∧ S = ⟨[(3, .ptr 0 0 0), (4, .sl 3 0 (L.map eOp)), (6, .own 1), (33, .sl 3 r.gp (r.picks.map ePick)), (34, sI r.picks.length), (35, sI i)], [(0, boxW (trW r L i)), (1, .row 3 1 (ch.map eI1))], 2⟩
def TiInv1 (r : RunV) (L : List OpV) (i : Nat) (m : Nat) (W X : WorldM atm) (ch : List Int) (k : Nat) (S : St) : Prop :=
  ∃ j : Nat, j ≤ L.length ∧ k = L.length - j ∧ S = ⟨[(3, .ptr 0 0 0), (4, .sl 3 0 (L.map eOp)), (6, .own 1), (9, .ptr 2 0 0), (11, sI (m : Int)), (33, .sl 3 r.gp (r.picks.map ePick)), (34, sI r.picks.length), (35, sI i), (58, .sl 3 0 (L.map eOp)), (59, sI L.length), (60, sI j)], [(0, boxW W), (1, .row 3 1 ((chM L m (Wd W.m) (Wd X.m) ch j).map eI1)), (2, boxW X)], 3⟩
def TiInv2 (r : RunV) (L : List OpV) (i : Nat) (X : WorldM atm) (ch : List Int) (k : Nat) (S : St) : Prop :=
  ∃ j : Nat, j ≤ L.length ∧ k = L.length - j ∧ S = ⟨[(3, .ptr 0 0 0), (4, .sl 3 0 (L.map eOp)), (6, .own 1), (33, .sl 3 r.gp (r.picks.map ePick)), (34, sI r.picks.length), (35, sI i), (88, sI L.length), (89, sI j)], [(0, boxW X), (1, .row 3 1 (ch.map eI1))], 2⟩
def TiInv3 (L : List OpV) (W : WorldM atm) (k : Nat) (S : St) : Prop :=
  ∃ i : Nat, i ≤ L.length ∧ k = L.length - i ∧ S = ⟨[(3, .ptr 0 0 0), (4, .sl 3 0 (L.map eOp)), (15, sI ((i + 1 : Nat) : Int))], [(0, boxW (aloneN W 4 i))], 1⟩
set_option maxHeartbeats 16000000 in
theorem ok_AtomTries (r : RunV) : Ok 14 [.agg (cRun r)] (sB true) := by
  refine ok_of_tr Try.func14 tr_AtomTries rfl ?_
  have ka := ok_l10awake
  have k0 := ok_l10Great r
  cases hg : greatR r
  case true =>
    rw [hg] at k0
    unfold evFn sc_AtomTries rv_AtomTries
    refine ev_seq_k fun K1 hn1 hr1 he1 => ?_
    refine ev_ops_k fun K2 hk2 => ?_
    refine sh0 ?_
    refine hk2 _ ?_
    refine hn1 (some ([1], none)) _ ?_
    refine ev_seq_k fun K3 hn3 hr3 he3 => ?_
    refine ev_seq_k fun K4 hn4 hr4 he4 => ?_
    refine ev_ops_k fun K5 hk5 => ?_
    refine evL_take 1 fun K6 hk6 => ?_
    refine sh0 ?_
    refine sd ?_
    refine hk6 _ ?_
    refine sh0 ?_
    refine Or.inl (Or.inl ⟨_, k0, ?_⟩)
    refine hk5 _ ?_
    refine hn4 (some ([1, 19], none)) _ ?_
    refine ev_cond_k rfl (fun hc0 => ?_) (fun hx => absurd hx (by simp at hx))
    clear hc0
    refine ev_seq_k fun K7 hn7 hr7 he7 => ?_
    refine ev_ops_k fun K8 hk8 => ?_
    refine evL_take 1 fun K9 hk9 => ?_
    refine sh0 ?_
    refine Or.inl (Or.inl ⟨_, ka, ?_⟩)
    refine hk9 _ ?_
    refine sh0 ?_
    refine hk8 _ ?_
    refine hn7 (some ([2], none)) _ ?_
    refine hr3 _ ?_
    exact sf0
  rw [hg] at k0
  have g123 : r.ops.length ≤ 3 ∧ 1 ≤ r.ops.length ∧ r.picks.length ≤ 120 := by have := of_decide_eq_false hg; omega
  obtain ⟨g1, g2, g3⟩ := g123
  have hK := shK atm
  have k2 := ok_l10begun r g1
  have hLl := opsM_len r.ops
  have hLo : ∀ o ∈ opsM r.ops, checkA o = 0 ∧ (o.loc = 0 ∨ o.loc = 1) := fun o ho => opsM_mem ho
  have hb : TrJ (opsM r.ops) (trW r (opsM r.ops) 0) (List.replicate (opsM r.ops).length 0) 0 := trJ_begun (by omega) hLo
  have hio : ∀ i, WorldOk (trW r (opsM r.ops) i) (2 + i) := fun i => runI_ok (begun_ok _ _ _ (by omega)).1 _ _ _
  change Ok _ _ (.tup [eWorld (trW r (opsM r.ops) 0), _, _]) at k2
  have hsucc := fun {i p} => runI_succ (w := begunW (opsM r.ops) r.w0 r.w1) (q := isStep) (ps := r.picks) (i := i) (p := p)
  generalize opsM r.ops = L at k2 hLl hio hb hsucc
  clear hLo
  have q1 : L.length ≤ 1000000 := by omega
  have q2 : L.length * 8 ≤ 140737488355328 := by omega
  have e1 : List.replicate L.length [Sh.v (.int .i64 0)] = (List.replicate L.length (0 : Int)).map eI1 := by simp
  unfold evFn sc_AtomTries rv_AtomTries
  have F1 := And.intro @hK (And.intro @q1 (And.intro @q2 @e1))
  refine ev_seq_k fun K1 hn1 hr1 he1 => ?_
  refine ev_ops_k fun K2 hk2 => ?_
  refine sh1 F1 ?_
  refine hk2 _ ?_
  refine hn1 (some ([1], none)) _ ?_
  refine ev_seq_k fun K3 hn3 hr3 he3 => ?_
  refine ev_seq_k fun K4 hn4 hr4 he4 => ?_
  refine ev_ops_k fun K5 hk5 => ?_
  refine evL_take 1 fun K6 hk6 => ?_
  refine sh1 F1 ?_
  refine sd ?_
  refine hk6 _ ?_
  refine sh1 F1 ?_
  refine Or.inl (Or.inl ⟨_, k0, ?_⟩)
  refine hk5 _ ?_
  refine hn4 (some ([1, 19], none)) _ ?_
  refine ev_cond_k rfl (fun hx => absurd hx (by simp at hx)) (fun hc0 => ?_)
  clear hc0
  refine hn3 (some ([1], none)) _ ?_
  refine ev_seq_k fun K7 hn7 hr7 he7 => ?_
  refine ev_ops_k fun K8 hk8 => ?_
  refine evL_take 1 fun K9 hk9 => ?_
  refine sh1 F1 ?_
  refine sd ?_
  refine hk9 _ ?_
  refine evL_take 1 fun K10 hk10 => ?_
  refine sh1 F1 ?_
  refine Or.inl (Or.inl ⟨_, k2, ?_⟩)
  refine hk10 _ ?_
  refine evL_take 6 fun K11 hk11 => ?_
  refine sh1 F1 ?_
  refine sd ?_
  refine hk11 _ ?_
  refine sh1 F1 ?_
  refine hk8 _ ?_
  refine hn7 (some ([1, 3, 4, 5], none)) _ ?_
  refine ev_seq_k fun K12 hn12 hr12 he12 => ?_
  refine ev_seq_k fun K13 hn13 hr13 he13 => ?_
  refine ev_ops_k fun K14 hk14 => ?_
  refine sh1 F1 ?_
  refine hk14 _ ?_
  refine hn13 (some ([1, 3, 4, 28], none)) _ ?_
  refine ev_cond_k rfl (fun hx => absurd hx (by simp at hx)) (fun hc1 => ?_)
  clear hc1
  refine hn12 (some ([1, 3, 4], none)) _ ?_
  refine ev_seq_k fun K15 hn15 hr15 he15 => ?_
  refine ev_ops_k fun K16 hk16 => ?_
  refine evL_take 3 fun K17 hk17 => ?_
  refine sh1 F1 ?_
  refine sd ?_
  refine hk17 _ ?_
  refine sh1 F1 ?_
  refine hk16 _ ?_
  refine hn15 (some ([1, 3, 4, 6], none)) _ ?_
  refine ev_seq_k fun K18 hn18 hr18 he18 => ?_
  refine ev_seq_k fun K19 hn19 hr19 he19 => ?_
  refine ev_ops_k fun K20 hk20 => ?_
  refine evL_take 2 fun K21 hk21 => ?_
  refine sh1 F1 ?_
  refine sd ?_
  refine hk21 _ ?_
  refine sh1 F1 ?_
  refine hk20 _ ?_
  refine hn19 (some ([3, 4, 6, 33, 34, 35], none)) _ ?_
  refine ev_block_k fun K22 hn22 hx22 hr22 he22 => ?_
  refine ev_loop_k (TiInv r L) (r.picks.length) (some ([3, 4, 6, 33, 34, 35], some ([1, 2], 2))) ([]) ?_ ?_
  · try refine lp0 ?_
    exact ⟨0, _, by omega, by omega, hb, by rfl⟩
  · intro k S1 hI
    obtain ⟨i, ch, hi', rfl, hT, rfl⟩ := hI
    have hO := hio i
    have hcase : i = r.picks.length ∨ (∃ p, r.picks[i]? = some p ∧ ¬ p.kind = 0) ∨ (∃ p, r.picks[i]? = some p ∧ p.kind = 0 ∧ (stepM (trW r L i) p).2 = false) ∨ (∃ p, r.picks[i]? = some p ∧ p.kind = 0 ∧ (stepM (trW r L i) p).2 = true) := by
      rcases Nat.lt_or_ge i r.picks.length with h | h
      · by_cases h2 : (r.picks[i]).kind = 0
        · cases h3 : (stepM (trW r L i) r.picks[i]).2
          · exact .inr (.inr (.inl ⟨_, List.getElem?_eq_getElem h, h2, h3⟩))
          · exact .inr (.inr (.inr ⟨_, List.getElem?_eq_getElem h, h2, h3⟩))
        · exact .inr (.inl ⟨_, List.getElem?_eq_getElem h, h2⟩)
      · exact .inl (by omega)
    intro K23 hn23 hr23 he23
    rcases hcase with hcc | ⟨p, hp, hpk⟩ | ⟨p, hp, hpk, hdd⟩ | ⟨p, hp, hpk, hdd⟩
    · skip
      have w2 : ¬ (i : Int) < (r.picks.length : Int) := by omega
      have hOn := fun k => aloneN_ok hO 4 k
      have hJn := fun k hk => atJ_alone hT.at' (N := 4) (by decide) k hk
      have hJL := hJn L.length (Nat.le_refl _)
      have k9 := ok_kWDone (aloneN (trW r L i) 4 L.length) (worldOk_eight (hOn _))
      rw [doneW_of fun j hj => hJL.done j (by rw [hJL.at'.len] at hj; exact hj)] at k9
      have F2 := And.intro F1 @w2
      refine ev_seq_k fun K24 hn24 hr24 he24 => ?_
      refine ev_ops_k fun K25 hk25 => ?_
      refine sh1 F2 ?_
      refine sd ?_
      refine hk25 _ ?_
      refine hn24 (some ([3, 4, 6, 33, 34, 35, 36], none)) _ ?_
      refine ev_seq_k fun K26 hn26 hr26 he26 => ?_
      refine ev_cond_k rfl (fun hx => absurd hx (by simp at hx)) (fun hc2 => ?_)
      clear hc2
      refine he26 0 _ ?_
      refine he23 0 _ ?_
      refine hx22 _ ?_
      refine hn18 (some ([3, 4], none)) _ ?_
      refine ev_seq_k fun K27 hn27 hr27 he27 => ?_
      refine ev_seq_k fun K28 hn28 hr28 he28 => ?_
      refine ev_ops_k fun K29 hk29 => ?_
      refine sh1 F2 ?_
      refine hk29 _ ?_
      refine hn28 (some ([3, 4, 15], none)) _ ?_
      refine ev_block_k fun K30 hn30 hx30 hr30 he30 => ?_
      refine ev_loop_k (TiInv3 L (trW r L i)) (L.length) (some ([3, 4, 15], some ([0], 1))) ([]) ?_ ?_
      · try refine lp0 ?_
        exact ⟨0, by omega, by omega, by rfl⟩
      · intro k S1 hI
        obtain ⟨t, ht', rfl, rfl⟩ := hI
        have hcase3 : t = L.length ∨ t < L.length := by omega
        intro K31 hn31 hr31 he31
        rcases hcase3 with hce | hce
        · skip
          have y2 : ¬ ((t + 1 : Nat) : Int) ≤ (L.length : Int) := by omega
          subst hce
          have F3 := And.intro F2 @y2
          refine ev_seq_k fun K32 hn32 hr32 he32 => ?_
          refine ev_seq_k fun K33 hn33 hr33 he33 => ?_
          refine ev_ops_k fun K34 hk34 => ?_
          refine sh1 F3 ?_
          refine sd ?_
          refine hk34 _ ?_
          refine hn33 (some ([3, 4, 15, 110], none)) _ ?_
          refine ev_cond_k rfl (fun hx => absurd hx (by simp at hx)) (fun hc10 => ?_)
          clear hc10
          refine he32 6 _ ?_
          refine he31 6 _ ?_
          refine hx30 _ ?_
          refine hn27 (some ([3], none)) _ ?_
          refine ev_seq_k fun K35 hn35 hr35 he35 => ?_
          refine ev_ops_k fun K36 hk36 => ?_
          refine evL_take 1 fun K37 hk37 => ?_
          refine sh1 F3 ?_
          refine sd ?_
          refine hk37 _ ?_
          refine evL_take 1 fun K38 hk38 => ?_
          refine sh1 F3 ?_
          refine Or.inl (Or.inl ⟨_, k9, ?_⟩)
          refine hk38 _ ?_
          refine evL_take 1 fun K39 hk39 => ?_
          refine sh1 F3 ?_
          refine hk39 _ ?_
          refine evL_take 1 fun K40 hk40 => ?_
          refine sh1 F3 ?_
          refine Or.inl (Or.inl ⟨_, ka, ?_⟩)
          refine hk40 _ ?_
          refine sh1 F3 ?_
          refine hk36 _ ?_
          refine hn35 (some ([2], none)) _ ?_
          exact sf1 F3
        · skip
          have y2 : ((t + 1 : Nat) : Int) ≤ (L.length : Int) := by omega
          have y3 : IntKind.i64.wrap (((t + 1 : Nat) : Int) + 1) = ((t + 1 + 1 : Nat) : Int) := by rw [IntKind.wrap_i64]; omega
          have k8 := ok_kAlone (aloneN (trW r L i) 4 t) ((t + 1 : Nat) : Int) 4 (hOn t) (by show 2 + i + t * 4 + 4 ≤ 900; omega)
          have hal := alone_eq (w := aloneN (trW r L i) 4 t) (m := t) (by rw [(hJn t (by omega)).at'.len]; exact hce) ((hJn t (by omega)).go t) 4
          rw [show ((t + 1 : Nat) : Int) = (t : Int) + 1 by omega, show (4 : Int) = ((4 : Nat) : Int) from rfl, hal, atm_alone (hJn t (by omega)) hce (by decide)] at k8
          change Ok _ _ (.tup [eWorld (aloneN (trW r L i) 4 (t + 1)), sB true]) at k8
          rw [show (t : Int) + 1 = ((t + 1 : Nat) : Int) by omega] at k8
          have F4 := And.intro F2 (And.intro @y2 @y3)
          refine ev_seq_k fun K41 hn41 hr41 he41 => ?_
          refine ev_seq_k fun K42 hn42 hr42 he42 => ?_
          refine ev_ops_k fun K43 hk43 => ?_
          refine sh1 F4 ?_
          refine sd ?_
          refine hk43 _ ?_
          refine hn42 (some ([3, 4, 15, 110], none)) _ ?_
          refine ev_cond_k rfl (fun hc10 => ?_) (fun hx => absurd hx (by simp at hx))
          clear hc10
          refine hn41 (some ([3, 4, 15], none)) _ ?_
          refine ev_seq_k fun K44 hn44 hr44 he44 => ?_
          refine ev_block_k fun K45 hn45 hx45 hr45 he45 => ?_
          refine ev_seq_k fun K46 hn46 hr46 he46 => ?_
          refine ev_ops_k fun K47 hk47 => ?_
          refine evL_take 1 fun K48 hk48 => ?_
          refine sh1 F4 ?_
          refine sd ?_
          refine hk48 _ ?_
          refine evL_take 1 fun K49 hk49 => ?_
          refine sh1 F4 ?_
          refine hk49 _ ?_
          refine evL_take 1 fun K50 hk50 => ?_
          refine sh1 F4 ?_
          refine Or.inl (Or.inl ⟨_, k8, ?_⟩)
          refine hk50 _ ?_
          refine evL_take 5 fun K51 hk51 => ?_
          refine sh1 F4 ?_
          refine sd ?_
          refine hk51 _ ?_
          refine sh1 F4 ?_
          refine hk47 _ ?_
          refine hn46 (some ([3, 4, 15, 16, 17], none)) _ ?_
          refine ev_seq_k fun K52 hn52 hr52 he52 => ?_
          refine ev_seq_k fun K53 hn53 hr53 he53 => ?_
          refine ev_ops_k fun K54 hk54 => ?_
          refine sh1 F4 ?_
          refine hk54 _ ?_
          refine hn53 (some ([3, 4, 15, 16, 120], none)) _ ?_
          refine ev_cond_k rfl (fun hx => absurd hx (by simp at hx)) (fun hc11 => ?_)
          clear hc11
          refine hn52 (some ([3, 4, 15, 16], none)) _ ?_
          refine ev_ops_k fun K55 hk55 => ?_
          refine evL_take 1 fun K56 hk56 => ?_
          refine sh1 F4 ?_
          refine sd ?_
          refine hk56 _ ?_
          refine sh1 F4 ?_
          refine sd ?_
          refine hk55 _ ?_
          refine hn45 _ ?_
          refine hn44 (some ([3, 4, 15], none)) _ ?_
          refine ev_ops_k fun K57 hk57 => ?_
          refine evL_take 2 fun K58 hk58 => ?_
          refine sh1 F4 ?_
          refine sd ?_
          refine hk58 _ ?_
          refine sh1 F4 ?_
          refine hk57 _ ?_
          refine hn31 (L.length - (t + 1)) (some ([3, 4, 15], some ([0], 1))) _ ?_ ?_
          all_goals try refine lp0 ?_
          · omega
          · exact ⟨t + 1, by omega, by omega, rfl⟩
    · skip
      have hlt := (List.getElem?_eq_some_iff.1 hp).1
      have w2 : (i : Int) < (r.picks.length : Int) := by omega
      have w3 : IntKind.i64.wrap ((i : Int) + 1) = ((i + 1 : Nat) : Int) := by rw [IntKind.wrap_i64]; omega
      have w4 : (p.kind != 0) = true := by simpa using hpk
      have hn := hsucc hp
      rw [if_neg (show ¬ isStep p = true by simpa [isStep] using hpk)] at hn
      have F5 := And.intro F1 (And.intro @w2 (And.intro @w3 (And.intro @w4 @hp)))
      refine ev_seq_k fun K59 hn59 hr59 he59 => ?_
      refine ev_ops_k fun K60 hk60 => ?_
      refine sh1 F5 ?_
      refine sd ?_
      refine hk60 _ ?_
      refine hn59 (some ([3, 4, 6, 33, 34, 35, 36], none)) _ ?_
      refine ev_seq_k fun K61 hn61 hr61 he61 => ?_
      refine ev_cond_k rfl (fun hc2 => ?_) (fun hx => absurd hx (by simp at hx))
      clear hc2
      refine hn61 (some ([3, 4, 6, 33, 34, 35], none)) _ ?_
      refine ev_seq_k fun K62 hn62 hr62 he62 => ?_
      refine ev_block_k fun K63 hn63 hx63 hr63 he63 => ?_
      refine ev_seq_k fun K64 hn64 hr64 he64 => ?_
      refine ev_ops_k fun K65 hk65 => ?_
      refine evL_take 1 fun K66 hk66 => ?_
      refine sh1 F5 ?_
      refine sd ?_
      refine hk66 _ ?_
      refine evL_take 1 fun K67 hk67 => ?_
      refine sh1 F5 ?_
      refine sd ?_
      refine hk67 _ ?_
      refine sh1 F5 ?_
      refine sd ?_
      refine hk65 _ ?_
      refine hn64 (some ([3, 4, 6, 8, 33, 34, 35], none)) _ ?_
      refine ev_seq_k fun K68 hn68 hr68 he68 => ?_
      refine ev_seq_k fun K69 hn69 hr69 he69 => ?_
      refine ev_ops_k fun K70 hk70 => ?_
      refine evL_take 2 fun K71 hk71 => ?_
      refine sh1 F5 ?_
      refine sd ?_
      refine hk71 _ ?_
      refine sh1 F5 ?_
      refine sd ?_
      refine hk70 _ ?_
      refine hn69 (some ([3, 4, 6, 8, 33, 34, 35, 41], none)) _ ?_
      refine ev_cond_k rfl (fun hc3 => ?_) (fun hx => absurd hx (by simp at hx))
      clear hc3
      refine he68 1 _ ?_
      refine hx63 _ ?_
      refine hn62 (some ([3, 4, 6, 33, 34, 35], none)) _ ?_
      refine ev_ops_k fun K72 hk72 => ?_
      refine evL_take 1 fun K73 hk73 => ?_
      refine sh1 F5 ?_
      refine sd ?_
      refine hk73 _ ?_
      refine sh1 F5 ?_
      refine hk72 _ ?_
      refine hn23 (r.picks.length - (i + 1)) (some ([3, 4, 6, 33, 34, 35], some ([0, 1], 2))) _ ?_ ?_
      all_goals try refine lp0 ?_
      · omega
      · exact ⟨i + 1, ch, by omega, by omega, (by show TrJ L (runI _ _ _ (i + 1)) ch _; rw [hn]; exact trJ_not hT), by show _ = St.mk _ [(0, boxW (runI _ _ _ (i + 1))), _] _; rw [hn]⟩
    · skip
      have hlt := (List.getElem?_eq_some_iff.1 hp).1
      have w2 : (i : Int) < (r.picks.length : Int) := by omega
      have w3 : IntKind.i64.wrap ((i : Int) + 1) = ((i + 1 : Nat) : Int) := by rw [IntKind.wrap_i64]; omega
      have w4 : (p.kind != 0) = false := by simpa using hpk
      have hn := hsucc hp
      rw [if_pos (show isStep p = true by simpa [isStep] using hpk)] at hn
      have k3 := ok_kStep (trW r L i) p hO (by omega)
      rw [hdd, step_no hdd] at k3
      rw [step_no hdd] at hn
      have hTT := hT
      have w5 : (((trW r L i).tasks.length : Int) != (L.length : Int)) = false := by rw [hT.at'.at'.len]; simp
      have F6 := And.intro F1 (And.intro @w2 (And.intro @w3 (And.intro @w4 (And.intro @w5 @hp))))
      refine ev_seq_k fun K74 hn74 hr74 he74 => ?_
      refine ev_ops_k fun K75 hk75 => ?_
      refine sh1 F6 ?_
      refine sd ?_
      refine hk75 _ ?_
      refine hn74 (some ([3, 4, 6, 33, 34, 35, 36], none)) _ ?_
      refine ev_seq_k fun K76 hn76 hr76 he76 => ?_
      refine ev_cond_k rfl (fun hc2 => ?_) (fun hx => absurd hx (by simp at hx))
      clear hc2
      refine hn76 (some ([3, 4, 6, 33, 34, 35], none)) _ ?_
      refine ev_seq_k fun K77 hn77 hr77 he77 => ?_
      refine ev_block_k fun K78 hn78 hx78 hr78 he78 => ?_
      refine ev_seq_k fun K79 hn79 hr79 he79 => ?_
      refine ev_ops_k fun K80 hk80 => ?_
      refine evL_take 1 fun K81 hk81 => ?_
      refine sh1 F6 ?_
      refine sd ?_
      refine hk81 _ ?_
      refine evL_take 1 fun K82 hk82 => ?_
      refine sh1 F6 ?_
      refine sd ?_
      refine hk82 _ ?_
      refine sh1 F6 ?_
      refine sd ?_
      refine hk80 _ ?_
      refine hn79 (some ([3, 4, 6, 8, 33, 34, 35], none)) _ ?_
      refine ev_seq_k fun K83 hn83 hr83 he83 => ?_
      refine ev_seq_k fun K84 hn84 hr84 he84 => ?_
      refine ev_ops_k fun K85 hk85 => ?_
      refine evL_take 2 fun K86 hk86 => ?_
      refine sh1 F6 ?_
      refine sd ?_
      refine hk86 _ ?_
      refine sh1 F6 ?_
      refine sd ?_
      refine hk85 _ ?_
      refine hn84 (some ([3, 4, 6, 8, 33, 34, 35, 41], none)) _ ?_
      refine ev_cond_k rfl (fun hx => absurd hx (by simp at hx)) (fun hc3 => ?_)
      clear hc3
      refine hn83 (some ([3, 4, 6, 8, 33, 34, 35], none)) _ ?_
      refine ev_seq_k fun K87 hn87 hr87 he87 => ?_
      refine ev_ops_k fun K88 hk88 => ?_
      refine evL_take 1 fun K89 hk89 => ?_
      refine sh1 F6 ?_
      refine sd ?_
      refine hk89 _ ?_
      refine evL_take 1 fun K90 hk90 => ?_
      refine sh1 F6 ?_
      refine sd ?_
      refine hk90 _ ?_
      refine evL_take 1 fun K91 hk91 => ?_
      refine sh1 F6 ?_
      refine Or.inl (Or.inl ⟨_, k3, ?_⟩)
      refine hk91 _ ?_
      refine evL_take 5 fun K92 hk92 => ?_
      refine sh1 F6 ?_
      refine sd ?_
      refine hk92 _ ?_
      refine sh1 F6 ?_
      refine hk88 _ ?_
      refine hn87 (some ([3, 4, 6, 8, 9, 10, 33, 34, 35], none)) _ ?_
      refine ev_seq_k fun K93 hn93 hr93 he93 => ?_
      refine ev_ops_k fun K94 hk94 => ?_
      refine evL_take 2 fun K95 hk95 => ?_
      refine sh1 F6 ?_
      refine sd ?_
      refine hk95 _ ?_
      refine evL_take 1 fun K96 hk96 => ?_
      refine sh1 F6 ?_
      refine sd ?_
      refine hk96 _ ?_
      refine sh1 F6 ?_
      refine hk94 _ ?_
      refine hn93 (some ([3, 4, 6, 9, 10, 11, 33, 34, 35], none)) _ ?_
      refine ev_seq_k fun K97 hn97 hr97 he97 => ?_
      refine ev_seq_k fun K98 hn98 hr98 he98 => ?_
      refine ev_ops_k fun K99 hk99 => ?_
      refine evL_take 2 fun K100 hk100 => ?_
      refine sh1 F6 ?_
      refine sd ?_
      refine hk100 _ ?_
      refine sh1 F6 ?_
      refine sd ?_
      refine hk99 _ ?_
      refine hn98 (some ([3, 4, 6, 9, 10, 11, 33, 34, 35, 56], none)) _ ?_
      refine ev_cond_k rfl (fun hx => absurd hx (by simp at hx)) (fun hc4 => ?_)
      clear hc4
      refine hn97 (some ([3, 4, 6, 9, 10, 11, 33, 34, 35], none)) _ ?_
      refine ev_seq_k fun K101 hn101 hr101 he101 => ?_
      refine ev_seq_k fun K102 hn102 hr102 he102 => ?_
      refine ev_ops_k fun K103 hk103 => ?_
      refine sh1 F6 ?_
      refine hk103 _ ?_
      refine hn102 (some ([3, 4, 6, 9, 11, 33, 34, 35, 57], none)) _ ?_
      refine ev_cond_k rfl (fun hx => absurd hx (by simp at hx)) (fun hc5 => ?_)
      clear hc5
      refine hn101 (some ([3, 4, 6, 9, 33, 34, 35], none)) _ ?_
      refine ev_seq_k fun K104 hn104 hr104 he104 => ?_
      refine ev_ops_k fun K105 hk105 => ?_
      refine evL_take 1 fun K106 hk106 => ?_
      refine sh1 F6 ?_
      refine sd ?_
      refine hk106 _ ?_
      refine sh1 F6 ?_
      refine sd ?_
      refine hk105 _ ?_
      refine hn104 (some ([3, 4, 6, 33, 34, 35], none)) _ ?_
      refine ev_seq_k fun K107 hn107 hr107 he107 => ?_
      refine ev_ops_k fun K108 hk108 => ?_
      refine sh1 F6 ?_
      refine hk108 _ ?_
      refine hn107 (some ([3, 4, 6, 33, 34, 35, 88, 89], none)) _ ?_
      refine ev_block_k fun K109 hn109 hx109 hr109 he109 => ?_
      refine ev_loop_k (TiInv2 r L i (trW r L i) ch) (L.length) (some ([3, 4, 6, 33, 34, 35, 88, 89], some ([0, 1], 2))) ([]) ?_ ?_
      · try refine lp0 ?_
        exact ⟨0, by omega, by omega, by rfl⟩
      · intro k S1 hI
        obtain ⟨j, hj', rfl, rfl⟩ := hI
        have hcase2 : j = L.length ∨ j < L.length := by omega
        intro K110 hn110 hr110 he110
        rcases hcase2 with hcd | hcd
        · skip
          have z2 : ¬ (j : Int) < (L.length : Int) := by omega
          have F7 := And.intro F6 @z2
          refine ev_seq_k fun K111 hn111 hr111 he111 => ?_
          refine ev_ops_k fun K112 hk112 => ?_
          refine sh1 F7 ?_
          refine sd ?_
          refine hk112 _ ?_
          refine hn111 (some ([3, 4, 6, 33, 34, 35, 88, 89, 90], none)) _ ?_
          refine ev_seq_k fun K113 hn113 hr113 he113 => ?_
          refine ev_cond_k rfl (fun hx => absurd hx (by simp at hx)) (fun hc8 => ?_)
          clear hc8
          refine he113 4 _ ?_
          refine he110 4 _ ?_
          refine hx109 _ ?_
          refine hn78 _ ?_
          refine hn77 (some ([3, 4, 6, 33, 34, 35], none)) _ ?_
          refine ev_ops_k fun K114 hk114 => ?_
          refine evL_take 1 fun K115 hk115 => ?_
          refine sh1 F7 ?_
          refine sd ?_
          refine hk115 _ ?_
          refine sh1 F7 ?_
          refine hk114 _ ?_
          refine hn23 (r.picks.length - (i + 1)) (some ([3, 4, 6, 33, 34, 35], some ([0, 1], 2))) _ ?_ ?_
          all_goals try refine lp0 ?_
          · omega
          · exact ⟨i + 1, ch, by omega, by omega, (by show TrJ L (runI _ _ _ (i + 1)) ch _; rw [hn]; exact trJ_not hT), by show _ = St.mk _ [(0, boxW (runI _ _ _ (i + 1))), _] _; rw [hn]⟩
        · skip
          have z2 : (j : Int) < (L.length : Int) := by omega
          have z3 : IntKind.i64.wrap ((j : Int) + 1) = ((j + 1 : Nat) : Int) := by rw [IntKind.wrap_i64]; omega
          obtain ⟨o, y, s, c, ho, hy, hcd2, hc, hmost, hb1, hb2, z4, z5, z6, z7⟩ := trJ_get hTT hcd
          have k6 := ok_kCode y
          rw [hcd2] at k6
          have k7 := ok_aTries s
          have z8 : IntKind.i64.wrap (c + 1) = c + 1 := by rw [IntKind.wrap_i64]; omega
          have z9 : ¬ c + 1 < s.tries := by omega
          have F8 := And.intro F6 (And.intro @z2 (And.intro @z3 (And.intro @z4 (And.intro @z5 (And.intro @z6 (And.intro @z7 (And.intro @z8 (And.intro @z9 (And.intro @hy @hc)))))))))
          refine ev_seq_k fun K116 hn116 hr116 he116 => ?_
          refine ev_ops_k fun K117 hk117 => ?_
          refine sh1 F8 ?_
          refine sd ?_
          refine hk117 _ ?_
          refine hn116 (some ([3, 4, 6, 33, 34, 35, 88, 89, 90], none)) _ ?_
          refine ev_seq_k fun K118 hn118 hr118 he118 => ?_
          refine ev_cond_k rfl (fun hc8 => ?_) (fun hx => absurd hx (by simp at hx))
          clear hc8
          refine hn118 (some ([3, 4, 6, 33, 34, 35, 88, 89], none)) _ ?_
          refine ev_seq_k fun K119 hn119 hr119 he119 => ?_
          refine ev_block_k fun K120 hn120 hx120 hr120 he120 => ?_
          refine ev_seq_k fun K121 hn121 hr121 he121 => ?_
          refine ev_ops_k fun K122 hk122 => ?_
          refine sh1 F8 ?_
          refine hk122 _ ?_
          refine hn121 (some ([3, 4, 6, 14, 33, 34, 35, 88, 89], none)) _ ?_
          refine ev_seq_k fun K123 hn123 hr123 he123 => ?_
          refine ev_drw_k [] (n := 12) fun K124 hk124 => ?_
          refine sq0 ?_
          refine evF_take 2 fun K126 hk126 => ?_
          refine sh1 F8 ?_
          refine sd ?_
          refine hk126 _ _ _ ?_
          refine evF_take 2 fun K127 hk127 => ?_
          refine sh1 F8 ?_
          refine sd ?_
          refine hk127 _ _ _ ?_
          refine evF_take 1 fun K128 hk128 => ?_
          refine sh1 F8 ?_
          refine sd ?_
          refine hk128 _ _ _ ?_
          refine evF_take 1 fun K129 hk129 => ?_
          refine sh1 F8 ?_
          refine ⟨_, k6, ?_⟩
          refine hk129 _ _ _ ?_
          refine evF_take 1 fun K130 hk130 => ?_
          refine sh1 F8 ?_
          refine ⟨_, k7, ?_⟩
          refine hk130 _ _ _ ?_
          refine evF_take 3 fun K131 hk131 => ?_
          refine sh1 F8 ?_
          refine sd ?_
          refine hk131 _ _ _ ?_
          refine evF_take 1 fun K132 hk132 => ?_
          refine sh1 F8 ?_
          refine sd ?_
          refine hk132 _ _ _ ?_
          refine sh1 F8 ?_
          refine sd ?_
          refine hk124 _ ?_
          refine sr0 ?_
          refine sh1 F8 ?_
          refine sd ?_
          refine hn123 (some ([3, 4, 6, 33, 34, 35, 88, 89, 104], none)) _ ?_
          refine ev_cond_k rfl (fun hx => absurd hx (by simp at hx)) (fun hc9 => ?_)
          clear hc9
          refine hn120 _ ?_
          refine hn119 (some ([3, 4, 6, 33, 34, 35, 88, 89], none)) _ ?_
          refine ev_ops_k fun K133 hk133 => ?_
          refine evL_take 1 fun K134 hk134 => ?_
          refine sh1 F8 ?_
          refine sd ?_
          refine hk134 _ ?_
          refine sh1 F8 ?_
          refine hk133 _ ?_
          refine hn110 (L.length - (j + 1)) (some ([3, 4, 6, 33, 34, 35, 88, 89], some ([0, 1], 2))) _ ?_ ?_
          all_goals try refine lp0 ?_
          · omega
          · exact ⟨j + 1, by omega, by omega, rfl⟩
    · skip
      have hlt := (List.getElem?_eq_some_iff.1 hp).1
      have w2 : (i : Int) < (r.picks.length : Int) := by omega
      have w3 : IntKind.i64.wrap ((i : Int) + 1) = ((i + 1 : Nat) : Int) := by rw [IntKind.wrap_i64]; omega
      have w4 : (p.kind != 0) = false := by simpa using hpk
      have hn := hsucc hp
      rw [if_pos (show isStep p = true by simpa [isStep] using hpk)] at hn
      have k3 := ok_kStep (trW r L i) p hO (by omega)
      obtain ⟨m, hpm, hml, hT'⟩ := trJ_step hT p hpk hdd
      rw [hdd] at k3
      have hXO := stepOk hO p
      obtain ⟨X, hX⟩ : ∃ X, X = (stepM (trW r L i) p).1 := ⟨_, rfl⟩
      obtain ⟨ch', hch'⟩ : ∃ ch', ch' = chM L m (Wd (trW r L i).m) (Wd X.m) ch L.length := ⟨_, rfl⟩
      rw [← hX] at k3 hT' hXO hn
      rw [← hch'] at hT'
      have w5 : ((X.tasks.length : Int) != (L.length : Int)) = false := by rw [hT'.at'.at'.len]; simp
      have w6 : IntKind.i64.wrap (p.thread - 1) = (m : Int) := by rw [hpm, IntKind.wrap_i64]; omega
      have hch := chM_len L m (Wd (trW r L i).m) (Wd X.m) ch
      have F9 := And.intro F1 (And.intro @w2 (And.intro @w3 (And.intro @w4 (And.intro @w5 (And.intro @w6 @hp)))))
      refine ev_seq_k fun K135 hn135 hr135 he135 => ?_
      refine ev_ops_k fun K136 hk136 => ?_
      refine sh1 F9 ?_
      refine sd ?_
      refine hk136 _ ?_
      refine hn135 (some ([3, 4, 6, 33, 34, 35, 36], none)) _ ?_
      refine ev_seq_k fun K137 hn137 hr137 he137 => ?_
      refine ev_cond_k rfl (fun hc2 => ?_) (fun hx => absurd hx (by simp at hx))
      clear hc2
      refine hn137 (some ([3, 4, 6, 33, 34, 35], none)) _ ?_
      refine ev_seq_k fun K138 hn138 hr138 he138 => ?_
      refine ev_block_k fun K139 hn139 hx139 hr139 he139 => ?_
      refine ev_seq_k fun K140 hn140 hr140 he140 => ?_
      refine ev_ops_k fun K141 hk141 => ?_
      refine evL_take 1 fun K142 hk142 => ?_
      refine sh1 F9 ?_
      refine sd ?_
      refine hk142 _ ?_
      refine evL_take 1 fun K143 hk143 => ?_
      refine sh1 F9 ?_
      refine sd ?_
      refine hk143 _ ?_
      refine sh1 F9 ?_
      refine sd ?_
      refine hk141 _ ?_
      refine hn140 (some ([3, 4, 6, 8, 33, 34, 35], none)) _ ?_
      refine ev_seq_k fun K144 hn144 hr144 he144 => ?_
      refine ev_seq_k fun K145 hn145 hr145 he145 => ?_
      refine ev_ops_k fun K146 hk146 => ?_
      refine evL_take 2 fun K147 hk147 => ?_
      refine sh1 F9 ?_
      refine sd ?_
      refine hk147 _ ?_
      refine sh1 F9 ?_
      refine sd ?_
      refine hk146 _ ?_
      refine hn145 (some ([3, 4, 6, 8, 33, 34, 35, 41], none)) _ ?_
      refine ev_cond_k rfl (fun hx => absurd hx (by simp at hx)) (fun hc3 => ?_)
      clear hc3
      refine hn144 (some ([3, 4, 6, 8, 33, 34, 35], none)) _ ?_
      refine ev_seq_k fun K148 hn148 hr148 he148 => ?_
      refine ev_ops_k fun K149 hk149 => ?_
      refine evL_take 1 fun K150 hk150 => ?_
      refine sh1 F9 ?_
      refine sd ?_
      refine hk150 _ ?_
      refine evL_take 1 fun K151 hk151 => ?_
      refine sh1 F9 ?_
      refine sd ?_
      refine hk151 _ ?_
      refine evL_take 1 fun K152 hk152 => ?_
      refine sh1 F9 ?_
      refine Or.inl (Or.inl ⟨_, k3, ?_⟩)
      refine hk152 _ ?_
      refine evL_take 5 fun K153 hk153 => ?_
      refine sh1 F9 ?_
      refine sd ?_
      refine hk153 _ ?_
      refine sh1 F9 ?_
      refine hk149 _ ?_
      refine hn148 (some ([3, 4, 6, 8, 9, 10, 33, 34, 35], none)) _ ?_
      refine ev_seq_k fun K154 hn154 hr154 he154 => ?_
      refine ev_ops_k fun K155 hk155 => ?_
      refine evL_take 2 fun K156 hk156 => ?_
      refine sh1 F9 ?_
      refine sd ?_
      refine hk156 _ ?_
      refine evL_take 1 fun K157 hk157 => ?_
      refine sh1 F9 ?_
      refine sd ?_
      refine hk157 _ ?_
      refine sh1 F9 ?_
      refine hk155 _ ?_
      refine hn154 (some ([3, 4, 6, 9, 10, 11, 33, 34, 35], none)) _ ?_
      refine ev_seq_k fun K158 hn158 hr158 he158 => ?_
      refine ev_seq_k fun K159 hn159 hr159 he159 => ?_
      refine ev_ops_k fun K160 hk160 => ?_
      refine evL_take 2 fun K161 hk161 => ?_
      refine sh1 F9 ?_
      refine sd ?_
      refine hk161 _ ?_
      refine sh1 F9 ?_
      refine sd ?_
      refine hk160 _ ?_
      refine hn159 (some ([3, 4, 6, 9, 10, 11, 33, 34, 35, 56], none)) _ ?_
      refine ev_cond_k rfl (fun hx => absurd hx (by simp at hx)) (fun hc4 => ?_)
      clear hc4
      refine hn158 (some ([3, 4, 6, 9, 10, 11, 33, 34, 35], none)) _ ?_
      refine ev_seq_k fun K162 hn162 hr162 he162 => ?_
      refine ev_seq_k fun K163 hn163 hr163 he163 => ?_
      refine ev_ops_k fun K164 hk164 => ?_
      refine sh1 F9 ?_
      refine hk164 _ ?_
      refine hn163 (some ([3, 4, 6, 9, 11, 33, 34, 35, 57], none)) _ ?_
      refine ev_cond_k rfl (fun hc5 => ?_) (fun hx => absurd hx (by simp at hx))
      clear hc5
      refine ev_seq_k fun K165 hn165 hr165 he165 => ?_
      refine ev_ops_k fun K166 hk166 => ?_
      refine sh1 F9 ?_
      refine hk166 _ ?_
      refine hn165 (some ([3, 4, 6, 9, 11, 33, 34, 35, 58, 59, 60], none)) _ ?_
      refine ev_block_k fun K167 hn167 hx167 hr167 he167 => ?_
      refine ev_loop_k (TiInv1 r L i m (trW r L i) X ch) (L.length) (some ([3, 4, 6, 9, 11, 33, 34, 35, 58, 59, 60], some ([0, 1, 3], 3))) ([]) ?_ ?_
      · try refine lp0 ?_
        exact ⟨0, by omega, by omega, by rfl⟩
      · intro k S1 hI
        obtain ⟨a, ha', rfl, rfl⟩ := hI
        have hcase1 : a = L.length ∨ (∃ o, L[a]? = some o ∧ a = m) ∨ (∃ o, L[a]? = some o ∧ a ≠ m ∧ weq (Wd (trW r L i).m o.loc) (Wd X.m o.loc) = false) ∨ (∃ o, L[a]? = some o ∧ a ≠ m ∧ weq (Wd (trW r L i).m o.loc) (Wd X.m o.loc) = true) := by
          rcases Nat.lt_or_ge a L.length with h | h
          · by_cases h2 : a = m
            · exact .inr (.inl ⟨_, List.getElem?_eq_getElem h, h2⟩)
            · cases h3 : weq (Wd (trW r L i).m (L[a]).loc) (Wd X.m (L[a]).loc)
              · exact .inr (.inr (.inl ⟨_, List.getElem?_eq_getElem h, h2, h3⟩))
              · exact .inr (.inr (.inr ⟨_, List.getElem?_eq_getElem h, h2, h3⟩))
          · exact .inl (by omega)
        intro K168 hn168 hr168 he168
        rcases hcase1 with hcf | ⟨o, ho, ham⟩ | ⟨o, ho, ham, hq⟩ | ⟨o, ho, ham, hq⟩
        · skip
          have y2 : ¬ (a : Int) < (L.length : Int) := by omega
          have y3 : chM L m (Wd (trW r L i).m) (Wd X.m) ch a = ch' := by rw [hch', hcf]
          have hTT := hT'
          have F10 := And.intro F9 (And.intro @y2 @y3)
          refine ev_seq_k fun K169 hn169 hr169 he169 => ?_
          refine ev_ops_k fun K170 hk170 => ?_
          refine sh1 F10 ?_
          refine sd ?_
          refine hk170 _ ?_
          refine hn169 (some ([3, 4, 6, 9, 11, 33, 34, 35, 58, 59, 60, 61], none)) _ ?_
          refine ev_seq_k fun K171 hn171 hr171 he171 => ?_
          refine ev_cond_k rfl (fun hx => absurd hx (by simp at hx)) (fun hc6 => ?_)
          clear hc6
          refine he171 2 _ ?_
          refine he168 2 _ ?_
          refine hx167 _ ?_
          refine hn162 (some ([3, 4, 6, 9, 33, 34, 35], none)) _ ?_
          refine ev_seq_k fun K172 hn172 hr172 he172 => ?_
          refine ev_ops_k fun K173 hk173 => ?_
          refine evL_take 1 fun K174 hk174 => ?_
          refine sh1 F10 ?_
          refine sd ?_
          refine hk174 _ ?_
          refine sh1 F10 ?_
          refine sd ?_
          refine hk173 _ ?_
          refine hn172 (some ([3, 4, 6, 33, 34, 35], none)) _ ?_
          refine ev_seq_k fun K175 hn175 hr175 he175 => ?_
          refine ev_ops_k fun K176 hk176 => ?_
          refine sh1 F10 ?_
          refine hk176 _ ?_
          refine hn175 (some ([3, 4, 6, 33, 34, 35, 88, 89], none)) _ ?_
          refine ev_block_k fun K177 hn177 hx177 hr177 he177 => ?_
          refine ev_loop_k (TiInv2 r L i X ch') (L.length) (some ([3, 4, 6, 33, 34, 35, 88, 89], some ([0, 1], 2))) ([]) ?_ ?_
          · try refine lp0 ?_
            exact ⟨0, by omega, by omega, by rfl⟩
          · intro k S1 hI
            obtain ⟨j, hj', rfl, rfl⟩ := hI
            have hcase2 : j = L.length ∨ j < L.length := by omega
            intro K178 hn178 hr178 he178
            rcases hcase2 with hcd | hcd
            · skip
              have z2 : ¬ (j : Int) < (L.length : Int) := by omega
              have F11 := And.intro F10 @z2
              refine ev_seq_k fun K179 hn179 hr179 he179 => ?_
              refine ev_ops_k fun K180 hk180 => ?_
              refine sh1 F11 ?_
              refine sd ?_
              refine hk180 _ ?_
              refine hn179 (some ([3, 4, 6, 33, 34, 35, 88, 89, 90], none)) _ ?_
              refine ev_seq_k fun K181 hn181 hr181 he181 => ?_
              refine ev_cond_k rfl (fun hx => absurd hx (by simp at hx)) (fun hc8 => ?_)
              clear hc8
              refine he181 4 _ ?_
              refine he178 4 _ ?_
              refine hx177 _ ?_
              refine hn139 _ ?_
              refine hn138 (some ([3, 4, 6, 33, 34, 35], none)) _ ?_
              refine ev_ops_k fun K182 hk182 => ?_
              refine evL_take 1 fun K183 hk183 => ?_
              refine sh1 F11 ?_
              refine sd ?_
              refine hk183 _ ?_
              refine sh1 F11 ?_
              refine hk182 _ ?_
              refine hn23 (r.picks.length - (i + 1)) (some ([3, 4, 6, 33, 34, 35], some ([0, 1], 2))) _ ?_ ?_
              all_goals try refine lp0 ?_
              · omega
              · exact ⟨i + 1, ch', by omega, by omega, (by show TrJ L (runI _ _ _ (i + 1)) ch' _; rw [hn]; exact hT'), by show _ = St.mk _ [(0, boxW (runI _ _ _ (i + 1))), _] _; rw [hn]⟩
            · skip
              have z2 : (j : Int) < (L.length : Int) := by omega
              have z3 : IntKind.i64.wrap ((j : Int) + 1) = ((j + 1 : Nat) : Int) := by rw [IntKind.wrap_i64]; omega
              obtain ⟨o, y, s, c, ho, hy, hcd2, hc, hmost, hb1, hb2, z4, z5, z6, z7⟩ := trJ_get hTT hcd
              have k6 := ok_kCode y
              rw [hcd2] at k6
              have k7 := ok_aTries s
              have z8 : IntKind.i64.wrap (c + 1) = c + 1 := by rw [IntKind.wrap_i64]; omega
              have z9 : ¬ c + 1 < s.tries := by omega
              have F12 := And.intro F10 (And.intro @z2 (And.intro @z3 (And.intro @z4 (And.intro @z5 (And.intro @z6 (And.intro @z7 (And.intro @z8 (And.intro @z9 (And.intro @hy @hc)))))))))
              refine ev_seq_k fun K184 hn184 hr184 he184 => ?_
              refine ev_ops_k fun K185 hk185 => ?_
              refine sh1 F12 ?_
              refine sd ?_
              refine hk185 _ ?_
              refine hn184 (some ([3, 4, 6, 33, 34, 35, 88, 89, 90], none)) _ ?_
              refine ev_seq_k fun K186 hn186 hr186 he186 => ?_
              refine ev_cond_k rfl (fun hc8 => ?_) (fun hx => absurd hx (by simp at hx))
              clear hc8
              refine hn186 (some ([3, 4, 6, 33, 34, 35, 88, 89], none)) _ ?_
              refine ev_seq_k fun K187 hn187 hr187 he187 => ?_
              refine ev_block_k fun K188 hn188 hx188 hr188 he188 => ?_
              refine ev_seq_k fun K189 hn189 hr189 he189 => ?_
              refine ev_ops_k fun K190 hk190 => ?_
              refine sh1 F12 ?_
              refine hk190 _ ?_
              refine hn189 (some ([3, 4, 6, 14, 33, 34, 35, 88, 89], none)) _ ?_
              refine ev_seq_k fun K191 hn191 hr191 he191 => ?_
              refine ev_drw_k [] (n := 12) fun K192 hk192 => ?_
              refine sq0 ?_
              refine evF_take 2 fun K194 hk194 => ?_
              refine sh1 F12 ?_
              refine sd ?_
              refine hk194 _ _ _ ?_
              refine evF_take 2 fun K195 hk195 => ?_
              refine sh1 F12 ?_
              refine sd ?_
              refine hk195 _ _ _ ?_
              refine evF_take 1 fun K196 hk196 => ?_
              refine sh1 F12 ?_
              refine sd ?_
              refine hk196 _ _ _ ?_
              refine evF_take 1 fun K197 hk197 => ?_
              refine sh1 F12 ?_
              refine ⟨_, k6, ?_⟩
              refine hk197 _ _ _ ?_
              refine evF_take 1 fun K198 hk198 => ?_
              refine sh1 F12 ?_
              refine ⟨_, k7, ?_⟩
              refine hk198 _ _ _ ?_
              refine evF_take 3 fun K199 hk199 => ?_
              refine sh1 F12 ?_
              refine sd ?_
              refine hk199 _ _ _ ?_
              refine evF_take 1 fun K200 hk200 => ?_
              refine sh1 F12 ?_
              refine sd ?_
              refine hk200 _ _ _ ?_
              refine sh1 F12 ?_
              refine sd ?_
              refine hk192 _ ?_
              refine sr0 ?_
              refine sh1 F12 ?_
              refine sd ?_
              refine hn191 (some ([3, 4, 6, 33, 34, 35, 88, 89, 104], none)) _ ?_
              refine ev_cond_k rfl (fun hx => absurd hx (by simp at hx)) (fun hc9 => ?_)
              clear hc9
              refine hn188 _ ?_
              refine hn187 (some ([3, 4, 6, 33, 34, 35, 88, 89], none)) _ ?_
              refine ev_ops_k fun K201 hk201 => ?_
              refine evL_take 1 fun K202 hk202 => ?_
              refine sh1 F12 ?_
              refine sd ?_
              refine hk202 _ ?_
              refine sh1 F12 ?_
              refine hk201 _ ?_
              refine hn178 (L.length - (j + 1)) (some ([3, 4, 6, 33, 34, 35, 88, 89], some ([0, 1], 2))) _ ?_ ?_
              all_goals try refine lp0 ?_
              · omega
              · exact ⟨j + 1, by omega, by omega, rfl⟩
        · skip
          have hlt1 := (List.getElem?_eq_some_iff.1 ho).1
          have y2 : (a : Int) < (L.length : Int) := by omega
          have y3 : IntKind.i64.wrap ((a : Int) + 1) = ((a + 1 : Nat) : Int) := by rw [IntKind.wrap_i64]; omega
          have y4 : ((a : Int) != (m : Int)) = false := by rw [ham]; simp
          have hcs : chM L m (Wd (trW r L i).m) (Wd X.m) ch (a + 1) = chM L m (Wd (trW r L i).m) (Wd X.m) ch a := by rw [chM, ho]; simp only; rw [if_neg (fun h => h.1 ham)]
          have F13 := And.intro F9 (And.intro @y2 (And.intro @y3 (And.intro @y4 @ho)))
          refine ev_seq_k fun K203 hn203 hr203 he203 => ?_
          refine ev_ops_k fun K204 hk204 => ?_
          refine sh1 F13 ?_
          refine sd ?_
          refine hk204 _ ?_
          refine hn203 (some ([3, 4, 6, 9, 11, 33, 34, 35, 58, 59, 60, 61], none)) _ ?_
          refine ev_seq_k fun K205 hn205 hr205 he205 => ?_
          refine ev_cond_k rfl (fun hc6 => ?_) (fun hx => absurd hx (by simp at hx))
          clear hc6
          refine hn205 (some ([3, 4, 6, 9, 11, 33, 34, 35, 58, 59, 60], none)) _ ?_
          refine ev_seq_k fun K206 hn206 hr206 he206 => ?_
          refine ev_block_k fun K207 hn207 hx207 hr207 he207 => ?_
          refine ev_seq_k fun K208 hn208 hr208 he208 => ?_
          refine ev_ops_k fun K209 hk209 => ?_
          refine evL_take 2 fun K210 hk210 => ?_
          refine sh1 F13 ?_
          refine sd ?_
          refine hk210 _ ?_
          refine evL_take 1 fun K211 hk211 => ?_
          refine sh1 F13 ?_
          refine sd ?_
          refine hk211 _ ?_
          refine sh1 F13 ?_
          refine sd ?_
          refine hk209 _ ?_
          refine hn208 (some ([3, 4, 6, 9, 11, 12, 13, 33, 34, 35, 58, 59, 60], none)) _ ?_
          refine ev_seq_k fun K212 hn212 hr212 he212 => ?_
          refine ev_drw_k [] (n := 11) fun K213 hk213 => ?_
          refine sq0 ?_
          refine evF_take 3 fun K215 hk215 => ?_
          refine sh1 F13 ?_
          refine sd ?_
          refine hk215 _ _ _ ?_
          refine evF_take 2 fun K216 hk216 => ?_
          refine sh1 F13 ?_
          refine sd ?_
          refine hk216 _ _ _ ?_
          refine evF_take 2 fun K217 hk217 => ?_
          refine sh1 F13 ?_
          refine sd ?_
          refine hk217 _ _ _ ?_
          refine evF_take 1 fun K218 hk218 => ?_
          refine sh1 F13 ?_
          skip
          refine hk218 _ _ _ ?_
          refine evF_take 1 fun K219 hk219 => ?_
          refine sh1 F13 ?_
          refine sd ?_
          refine hk219 _ _ _ ?_
          refine sh1 F13 ?_
          refine sd ?_
          refine hk213 _ ?_
          refine sr0 ?_
          refine evL_take 1 fun K220 hk220 => ?_
          refine sh1 F13 ?_
          skip
          refine hk220 _ ?_
          refine evL_take 1 fun K221 hk221 => ?_
          refine sh1 F13 ?_
          skip
          refine hk221 _ ?_
          refine sh1 F13 ?_
          refine hn212 (some ([3, 4, 6, 9, 11, 12, 33, 34, 35, 58, 59, 60, 78], none)) _ ?_
          refine ev_cond_k rfl (fun hx => absurd hx (by simp at hx)) (fun hc7 => ?_)
          clear hc7
          refine hn207 _ ?_
          refine hn206 (some ([3, 4, 6, 9, 11, 33, 34, 35, 58, 59, 60], none)) _ ?_
          refine ev_ops_k fun K222 hk222 => ?_
          refine evL_take 1 fun K223 hk223 => ?_
          refine sh1 F13 ?_
          refine sd ?_
          refine hk223 _ ?_
          refine sh1 F13 ?_
          refine hk222 _ ?_
          refine hn168 (L.length - (a + 1)) (some ([3, 4, 6, 9, 11, 33, 34, 35, 58, 59, 60], some ([0, 1, 2], 3))) _ ?_ ?_
          all_goals try refine lp0 ?_
          · omega
          · exact ⟨a + 1, by omega, by omega, by rw [hcs]⟩
        · skip
          have hlt1 := (List.getElem?_eq_some_iff.1 ho).1
          have y2 : (a : Int) < (L.length : Int) := by omega
          have y3 : IntKind.i64.wrap ((a : Int) + 1) = ((a + 1 : Nat) : Int) := by rw [IntKind.wrap_i64]; omega
          have y4 : ((a : Int) != (m : Int)) = true := by simp only [bne_iff_ne, ne_eq]; omega
          have k4 := ok_l10word (trW r L i) o.loc hO (by omega)
          have k5 := ok_l10word X o.loc hXO (by omega)
          have hEq : EqSh 39 (.agg (eWord (Wd (trW r L i).m o.loc))) (.agg (eWord (Wd X.m o.loc))) false := by rw [← hq]; exact eqsh_word _ _
          have hla := hch a
          obtain ⟨c, hc⟩ : ∃ c, (chM L m (Wd (trW r L i).m) (Wd X.m) ch a)[a]? = some c := ⟨_, List.getElem?_eq_getElem (by rw [hla, hT.len]; exact hlt1)⟩
          have hca : chAt (chM L m (Wd (trW r L i).m) (Wd X.m) ch a) a = c := by unfold chAt; rw [hc]; rfl
          have hcb := chM_at L m (Wd (trW r L i).m) (Wd X.m) ch ho (by rw [hT.len]; exact hlt1) a
          rw [hca, if_neg (by omega)] at hcb
          have hb1 := hT.lo a hlt1
          have hb2 := hT.hi a hlt1
          have hcs : (chM L m (Wd (trW r L i).m) (Wd X.m) ch (a + 1)).map eI1 = ((chM L m (Wd (trW r L i).m) (Wd X.m) ch a).map eI1).set a [sI (c + 1)] := by
            rw [chM, ho]; simp only; rw [if_pos ⟨ham, hq⟩, List.map_set, hca]
          have y5 : a < (chM L m (Wd (trW r L i).m) (Wd X.m) ch a).length := by rw [hla, hT.len]; exact hlt1
          have y6 : (a : Int) < ((chM L m (Wd (trW r L i).m) (Wd X.m) ch a).length : Int) := by omega
          have y7 : IntKind.i64.wrap (c + 1) = c + 1 := by rw [IntKind.wrap_i64]; omega
          generalize Wd (trW r L i).m o.loc = u1 at k4 hEq
          generalize Wd X.m o.loc = u2 at k5 hEq
          have F14 := And.intro F9 (And.intro @y2 (And.intro @y3 (And.intro @y4 (And.intro @y5 (And.intro @y6 (And.intro @y7 (And.intro @hc @ho)))))))
          refine ev_seq_k fun K224 hn224 hr224 he224 => ?_
          refine ev_ops_k fun K225 hk225 => ?_
          refine sh1 F14 ?_
          refine sd ?_
          refine hk225 _ ?_
          refine hn224 (some ([3, 4, 6, 9, 11, 33, 34, 35, 58, 59, 60, 61], none)) _ ?_
          refine ev_seq_k fun K226 hn226 hr226 he226 => ?_
          refine ev_cond_k rfl (fun hc6 => ?_) (fun hx => absurd hx (by simp at hx))
          clear hc6
          refine hn226 (some ([3, 4, 6, 9, 11, 33, 34, 35, 58, 59, 60], none)) _ ?_
          refine ev_seq_k fun K227 hn227 hr227 he227 => ?_
          refine ev_block_k fun K228 hn228 hx228 hr228 he228 => ?_
          refine ev_seq_k fun K229 hn229 hr229 he229 => ?_
          refine ev_ops_k fun K230 hk230 => ?_
          refine evL_take 2 fun K231 hk231 => ?_
          refine sh1 F14 ?_
          refine sd ?_
          refine hk231 _ ?_
          refine evL_take 1 fun K232 hk232 => ?_
          refine sh1 F14 ?_
          refine sd ?_
          refine hk232 _ ?_
          refine sh1 F14 ?_
          refine sd ?_
          refine hk230 _ ?_
          refine hn229 (some ([3, 4, 6, 9, 11, 12, 13, 33, 34, 35, 58, 59, 60], none)) _ ?_
          refine ev_seq_k fun K233 hn233 hr233 he233 => ?_
          refine ev_drw_k [] (n := 11) fun K234 hk234 => ?_
          refine sq0 ?_
          refine evF_take 3 fun K236 hk236 => ?_
          refine sh1 F14 ?_
          refine sd ?_
          refine hk236 _ _ _ ?_
          refine evF_take 2 fun K237 hk237 => ?_
          refine sh1 F14 ?_
          refine sd ?_
          refine hk237 _ _ _ ?_
          refine evF_take 2 fun K238 hk238 => ?_
          refine sh1 F14 ?_
          refine sd ?_
          refine hk238 _ _ _ ?_
          refine evF_take 1 fun K239 hk239 => ?_
          refine sh1 F14 ?_
          refine ⟨_, k4, ?_⟩
          refine hk239 _ _ _ ?_
          refine evF_take 1 fun K240 hk240 => ?_
          refine sh1 F14 ?_
          refine sd ?_
          refine hk240 _ _ _ ?_
          refine sh1 F14 ?_
          refine sd ?_
          refine hk234 _ ?_
          refine sr0 ?_
          refine evL_take 1 fun K241 hk241 => ?_
          refine sh1 F14 ?_
          refine Or.inl (Or.inl ⟨_, k5, ?_⟩)
          refine hk241 _ ?_
          refine evL_take 1 fun K242 hk242 => ?_
          refine sh1 F14 ?_
          refine Or.inl ⟨_, hEq, ?_⟩
          refine hk242 _ ?_
          refine sh1 F14 ?_
          refine hn233 (some ([3, 4, 6, 9, 11, 12, 33, 34, 35, 58, 59, 60, 78], none)) _ ?_
          refine ev_cond_k rfl (fun hc7 => ?_) (fun hx => absurd hx (by simp at hx))
          clear hc7
          refine ev_ops_k fun K243 hk243 => ?_
          refine evL_take 3 fun K244 hk244 => ?_
          refine sh1 F14 ?_
          refine sd ?_
          refine hk244 _ ?_
          refine evL_take 1 fun K245 hk245 => ?_
          refine sh1 F14 ?_
          refine sd ?_
          refine hk245 _ ?_
          refine evL_take 1 fun K246 hk246 => ?_
          refine sh1 F14 ?_
          refine sd ?_
          refine hk246 _ ?_
          refine evL_take 1 fun K247 hk247 => ?_
          refine sh1 F14 ?_
          refine sd ?_
          refine hk247 _ ?_
          refine sh1 F14 ?_
          refine sd ?_
          refine hk243 _ ?_
          refine hn228 _ ?_
          refine hn227 (some ([3, 4, 6, 9, 11, 33, 34, 35, 58, 59, 60], none)) _ ?_
          refine ev_ops_k fun K248 hk248 => ?_
          refine evL_take 1 fun K249 hk249 => ?_
          refine sh1 F14 ?_
          refine sd ?_
          refine hk249 _ ?_
          refine sh1 F14 ?_
          refine hk248 _ ?_
          refine hn168 (L.length - (a + 1)) (some ([3, 4, 6, 9, 11, 33, 34, 35, 58, 59, 60], some ([0, 1, 2], 3))) _ ?_ ?_
          all_goals try refine lp0 ?_
          · omega
          · exact ⟨a + 1, by omega, by omega, by rw [hcs]⟩
        · skip
          have hlt1 := (List.getElem?_eq_some_iff.1 ho).1
          have y2 : (a : Int) < (L.length : Int) := by omega
          have y3 : IntKind.i64.wrap ((a : Int) + 1) = ((a + 1 : Nat) : Int) := by rw [IntKind.wrap_i64]; omega
          have y4 : ((a : Int) != (m : Int)) = true := by simp only [bne_iff_ne, ne_eq]; omega
          have k4 := ok_l10word (trW r L i) o.loc hO (by omega)
          have k5 := ok_l10word X o.loc hXO (by omega)
          have hEq : EqSh 39 (.agg (eWord (Wd (trW r L i).m o.loc))) (.agg (eWord (Wd X.m o.loc))) true := by rw [← hq]; exact eqsh_word _ _
          have hcs : chM L m (Wd (trW r L i).m) (Wd X.m) ch (a + 1) = chM L m (Wd (trW r L i).m) (Wd X.m) ch a := by rw [chM, ho]; simp only; rw [if_neg (fun h => by rw [hq] at h; cases h.2)]
          generalize Wd (trW r L i).m o.loc = u1 at k4 hEq
          generalize Wd X.m o.loc = u2 at k5 hEq
          have F15 := And.intro F9 (And.intro @y2 (And.intro @y3 (And.intro @y4 @ho)))
          refine ev_seq_k fun K250 hn250 hr250 he250 => ?_
          refine ev_ops_k fun K251 hk251 => ?_
          refine sh1 F15 ?_
          refine sd ?_
          refine hk251 _ ?_
          refine hn250 (some ([3, 4, 6, 9, 11, 33, 34, 35, 58, 59, 60, 61], none)) _ ?_
          refine ev_seq_k fun K252 hn252 hr252 he252 => ?_
          refine ev_cond_k rfl (fun hc6 => ?_) (fun hx => absurd hx (by simp at hx))
          clear hc6
          refine hn252 (some ([3, 4, 6, 9, 11, 33, 34, 35, 58, 59, 60], none)) _ ?_
          refine ev_seq_k fun K253 hn253 hr253 he253 => ?_
          refine ev_block_k fun K254 hn254 hx254 hr254 he254 => ?_
          refine ev_seq_k fun K255 hn255 hr255 he255 => ?_
          refine ev_ops_k fun K256 hk256 => ?_
          refine evL_take 2 fun K257 hk257 => ?_
          refine sh1 F15 ?_
          refine sd ?_
          refine hk257 _ ?_
          refine evL_take 1 fun K258 hk258 => ?_
          refine sh1 F15 ?_
          refine sd ?_
          refine hk258 _ ?_
          refine sh1 F15 ?_
          refine sd ?_
          refine hk256 _ ?_
          refine hn255 (some ([3, 4, 6, 9, 11, 12, 13, 33, 34, 35, 58, 59, 60], none)) _ ?_
          refine ev_seq_k fun K259 hn259 hr259 he259 => ?_
          refine ev_drw_k [] (n := 11) fun K260 hk260 => ?_
          refine sq0 ?_
          refine evF_take 3 fun K262 hk262 => ?_
          refine sh1 F15 ?_
          refine sd ?_
          refine hk262 _ _ _ ?_
          refine evF_take 2 fun K263 hk263 => ?_
          refine sh1 F15 ?_
          refine sd ?_
          refine hk263 _ _ _ ?_
          refine evF_take 2 fun K264 hk264 => ?_
          refine sh1 F15 ?_
          refine sd ?_
          refine hk264 _ _ _ ?_
          refine evF_take 1 fun K265 hk265 => ?_
          refine sh1 F15 ?_
          refine ⟨_, k4, ?_⟩
          refine hk265 _ _ _ ?_
          refine evF_take 1 fun K266 hk266 => ?_
          refine sh1 F15 ?_
          refine sd ?_
          refine hk266 _ _ _ ?_
          refine sh1 F15 ?_
          refine sd ?_
          refine hk260 _ ?_
          refine sr0 ?_
          refine evL_take 1 fun K267 hk267 => ?_
          refine sh1 F15 ?_
          refine Or.inl (Or.inl ⟨_, k5, ?_⟩)
          refine hk267 _ ?_
          refine evL_take 1 fun K268 hk268 => ?_
          refine sh1 F15 ?_
          refine Or.inl ⟨_, hEq, ?_⟩
          refine hk268 _ ?_
          refine sh1 F15 ?_
          refine hn259 (some ([3, 4, 6, 9, 11, 12, 33, 34, 35, 58, 59, 60, 78], none)) _ ?_
          refine ev_cond_k rfl (fun hx => absurd hx (by simp at hx)) (fun hc7 => ?_)
          clear hc7
          refine hn254 _ ?_
          refine hn253 (some ([3, 4, 6, 9, 11, 33, 34, 35, 58, 59, 60], none)) _ ?_
          refine ev_ops_k fun K269 hk269 => ?_
          refine evL_take 1 fun K270 hk270 => ?_
          refine sh1 F15 ?_
          refine sd ?_
          refine hk270 _ ?_
          refine sh1 F15 ?_
          refine hk269 _ ?_
          refine hn168 (L.length - (a + 1)) (some ([3, 4, 6, 9, 11, 33, 34, 35, 58, 59, 60], some ([0, 1, 2], 3))) _ ?_ ?_
          all_goals try refine lp0 ?_
          · omega
          · exact ⟨a + 1, by omega, by omega, by rw [hcs]⟩
end Go.Proofs.Ytcbdgnjdpfgobaa

/-
  AtomRuns: the plain law, and the maps of a row as parts of one's own.
-/
import Derived.Test.YtenbagffdlljdaaK10c
import Derived.Test.YtenbagffdlljdaaK10e
import Derived.Test.YtenbagffdlljdaaMK8
import Derived.Test.YtenbagffdlljdaaMC
namespace Go.Proofs.Ytenbagffdlljdaa
set_option linter.unusedSimpArgs false
set_option linter.unusedVariables false
open Go.RowKit Go.Maps
set_option maxHeartbeats 2000000 in
theorem ok_r10DoR (o : OpV) (v : Int) (h : checkA o = 0) : Ok 31 [sI o.kind, sI o.n, sI v] (.tup [sI (doA o v).1, sI (doA o v).2]) := by
  refine ok_of_tr Try.func31 tr_r10Do rfl ?_
  unfold doA
  rw [if_pos h]
  obtain ⟨⟨h1, h2⟩, _⟩ := checkA_zero h
  clear h
  obtain ⟨kd, lc, n⟩ := o
  simp only at h1 h2 ⊢
  have hcase : kd = 0 ∨ kd = 1 ∨ kd = 2 ∨ kd = 3 := by omega
  unfold mkA
  rcases hcase with rfl | rfl | rfl | rfl
  · rw [if_pos rfl]
    unfold evFn sc_r10Do rv_r10Do
    refine eS fun K1 hn1 hr1 he1 => ?_;refine eO fun K2 hk2 => ?_;refine tL0 ?_;refine hk2 _ ?_;refine hn1 (some ([0,1,2], none)) _ ?_;refine eS fun K3 hn3 hr3 he3 => ?_;refine eS fun K4 hn4 hr4 he4 => ?_;refine eO fun K5 hk5 => ?_;refine tZ0 ?_;refine hk5 _ ?_;refine hn4 (some ([0,1,2,9], none)) _ ?_;refine eCt ?_;refine eS fun K6 hn6 hr6 he6 => ?_;refine eO fun K7 hk7 => ?_;refine tC0 3 ?_;refine tL0 ?_;refine hk7 _ ?_;refine hn6 (some ([6,7], none)) _ ?_;refine hr3 _ ?_
    exact sf0
  · rw [if_neg (by decide), if_pos rfl]
    by_cases hv : v < n
    · rw [show max v n = n by omega]
      unfold evFn sc_r10Do rv_r10Do
      have F1 := @hv
      refine eS fun K1 hn1 hr1 he1 => ?_;refine eO fun K2 hk2 => ?_;refine tL F1 ?_;refine hk2 _ ?_;refine hn1 (some ([0,1,2], none)) _ ?_;refine eS fun K3 hn3 hr3 he3 => ?_;refine eS fun K4 hn4 hr4 he4 => ?_;refine eO fun K5 hk5 => ?_;refine tZ F1 ?_;refine hk5 _ ?_;refine hn4 (some ([0,1,2,9], none)) _ ?_;refine eCf ?_;refine hn3 (some ([0,1,2], none)) _ ?_;refine eS fun K6 hn6 hr6 he6 => ?_;refine eS fun K7 hn7 hr7 he7 => ?_;refine eO fun K8 hk8 => ?_;refine tC 2 F1 ?_;refine tC 4 F1 ?_;refine tL F1 ?_;refine hk8 _ ?_;refine hn7 (some ([0,1,2,20], none)) _ ?_;refine eCt ?_;refine eS fun K9 hn9 hr9 he9 => ?_;refine eO fun K10 hk10 => ?_;refine tL F1 ?_;refine hk10 _ ?_;refine hn9 (some ([6,7], none)) _ ?_;refine hr6 _ ?_
      exact sf1 F1
    · rw [show max v n = v by omega]
      unfold evFn sc_r10Do rv_r10Do
      have F1 := @hv
      refine eS fun K1 hn1 hr1 he1 => ?_;refine eO fun K2 hk2 => ?_;refine tL F1 ?_;refine hk2 _ ?_;refine hn1 (some ([0,1,2], none)) _ ?_;refine eS fun K3 hn3 hr3 he3 => ?_;refine eS fun K4 hn4 hr4 he4 => ?_;refine eO fun K5 hk5 => ?_;refine tZ F1 ?_;refine hk5 _ ?_;refine hn4 (some ([0,1,2,9], none)) _ ?_;refine eCf ?_;refine hn3 (some ([0,1,2], none)) _ ?_;refine eS fun K6 hn6 hr6 he6 => ?_;refine eS fun K7 hn7 hr7 he7 => ?_;refine eO fun K8 hk8 => ?_;refine tC 2 F1 ?_;refine tC 4 F1 ?_;refine tL F1 ?_;refine hk8 _ ?_;refine hn7 (some ([0,1,2,20], none)) _ ?_;refine eCf ?_;refine hn6 (some ([0,1,2], none)) _ ?_;refine eS fun K9 hn9 hr9 he9 => ?_;refine eS fun K10 hn10 hr10 he10 => ?_;refine eO fun K11 hk11 => ?_;refine tZ F1 ?_;refine hk11 _ ?_;refine hn10 (some ([0,1,2,24], none)) _ ?_;refine eCf ?_;refine hn9 (some ([0,1,2], none)) _ ?_;refine eS fun K12 hn12 hr12 he12 => ?_;refine eS fun K13 hn13 hr13 he13 => ?_
      refine eO fun K14 hk14 => ?_;refine tC 2 F1 ?_;refine tC 3 F1 ?_;refine tL F1 ?_;refine hk14 _ ?_;refine hn13 (some ([1,2,32], none)) _ ?_;refine eCf ?_;refine hn12 (some ([2], none)) _ ?_;refine eS fun K15 hn15 hr15 he15 => ?_;refine eO fun K16 hk16 => ?_;refine tL F1 ?_;refine hk16 _ ?_;refine hn15 (some ([6,7], none)) _ ?_
      exact sf1 F1
  · rw [if_neg (by decide), if_neg (by decide), if_pos rfl]
    unfold evFn sc_r10Do rv_r10Do
    refine eS fun K1 hn1 hr1 he1 => ?_;refine eO fun K2 hk2 => ?_;refine tL0 ?_;refine hk2 _ ?_;refine hn1 (some ([0,1,2], none)) _ ?_;refine eS fun K3 hn3 hr3 he3 => ?_;refine eS fun K4 hn4 hr4 he4 => ?_;refine eO fun K5 hk5 => ?_;refine tZ0 ?_;refine hk5 _ ?_;refine hn4 (some ([0,1,2,9], none)) _ ?_;refine eCf ?_;refine hn3 (some ([0,1,2], none)) _ ?_;refine eS fun K6 hn6 hr6 he6 => ?_;refine eS fun K7 hn7 hr7 he7 => ?_;refine eO fun K8 hk8 => ?_;refine tC0 2 ?_;refine tC0 4 ?_;refine tL0 ?_;refine hk8 _ ?_;refine hn7 (some ([0,1,2,20], none)) _ ?_;refine eCf ?_;refine hn6 (some ([0,1,2], none)) _ ?_;refine eS fun K9 hn9 hr9 he9 => ?_;refine eS fun K10 hn10 hr10 he10 => ?_;refine eO fun K11 hk11 => ?_;refine tZ0 ?_;refine hk11 _ ?_;refine hn10 (some ([0,1,2,24], none)) _ ?_;refine eCt ?_;refine eS fun K12 hn12 hr12 he12 => ?_;refine eO fun K13 hk13 => ?_;refine tL0 ?_;refine hk13 _ ?_;refine hn12 (some ([6,7], none)) _ ?_
    refine hr9 _ ?_
    exact sf0
  · rw [if_neg (by decide), if_neg (by decide), if_neg (by decide)]
    by_cases hv : v = 0
    · subst hv
      rw [if_pos rfl]
      unfold evFn sc_r10Do rv_r10Do
      refine eS fun K1 hn1 hr1 he1 => ?_;refine eO fun K2 hk2 => ?_;refine tL0 ?_;refine hk2 _ ?_;refine hn1 (some ([0,1,2], none)) _ ?_;refine eS fun K3 hn3 hr3 he3 => ?_;refine eS fun K4 hn4 hr4 he4 => ?_;refine eO fun K5 hk5 => ?_;refine tZ0 ?_;refine hk5 _ ?_;refine hn4 (some ([0,1,2,9], none)) _ ?_;refine eCf ?_;refine hn3 (some ([0,1,2], none)) _ ?_;refine eS fun K6 hn6 hr6 he6 => ?_;refine eS fun K7 hn7 hr7 he7 => ?_;refine eO fun K8 hk8 => ?_;refine tC0 2 ?_;refine tC0 4 ?_;refine tL0 ?_;refine hk8 _ ?_;refine hn7 (some ([0,1,2,20], none)) _ ?_;refine eCf ?_;refine hn6 (some ([0,1,2], none)) _ ?_;refine eS fun K9 hn9 hr9 he9 => ?_;refine eS fun K10 hn10 hr10 he10 => ?_;refine eO fun K11 hk11 => ?_;refine tZ0 ?_;refine hk11 _ ?_;refine hn10 (some ([0,1,2,24], none)) _ ?_;refine eCf ?_;refine hn9 (some ([0,1,2], none)) _ ?_;refine eS fun K12 hn12 hr12 he12 => ?_;refine eS fun K13 hn13 hr13 he13 => ?_
      refine eO fun K14 hk14 => ?_;refine tC0 2 ?_;refine tC0 3 ?_;refine tL0 ?_;refine hk14 _ ?_;refine hn13 (some ([1,2,32], none)) _ ?_;refine eCt ?_;refine eS fun K15 hn15 hr15 he15 => ?_;refine eO fun K16 hk16 => ?_;refine tL0 ?_;refine hk16 _ ?_;refine hn15 (some ([6,7], none)) _ ?_;refine hr12 _ ?_
      exact sf0
    · rw [if_neg hv]
      have d : (v == 0) = false := by simpa using hv
      unfold evFn sc_r10Do rv_r10Do
      have F1 := @d
      refine eS fun K1 hn1 hr1 he1 => ?_;refine eO fun K2 hk2 => ?_;refine tL F1 ?_;refine hk2 _ ?_;refine hn1 (some ([0,1,2], none)) _ ?_;refine eS fun K3 hn3 hr3 he3 => ?_;refine eS fun K4 hn4 hr4 he4 => ?_;refine eO fun K5 hk5 => ?_;refine tZ F1 ?_;refine hk5 _ ?_;refine hn4 (some ([0,1,2,9], none)) _ ?_;refine eCf ?_;refine hn3 (some ([0,1,2], none)) _ ?_;refine eS fun K6 hn6 hr6 he6 => ?_;refine eS fun K7 hn7 hr7 he7 => ?_;refine eO fun K8 hk8 => ?_;refine tC 2 F1 ?_;refine tC 4 F1 ?_;refine tL F1 ?_;refine hk8 _ ?_;refine hn7 (some ([0,1,2,20], none)) _ ?_;refine eCf ?_;refine hn6 (some ([0,1,2], none)) _ ?_;refine eS fun K9 hn9 hr9 he9 => ?_;refine eS fun K10 hn10 hr10 he10 => ?_;refine eO fun K11 hk11 => ?_;refine tZ F1 ?_;refine hk11 _ ?_;refine hn10 (some ([0,1,2,24], none)) _ ?_;refine eCf ?_;refine hn9 (some ([0,1,2], none)) _ ?_;refine eS fun K12 hn12 hr12 he12 => ?_;refine eS fun K13 hn13 hr13 he13 => ?_
      refine eO fun K14 hk14 => ?_;refine tC 2 F1 ?_;refine tC 3 F1 ?_;refine tL F1 ?_;refine hk14 _ ?_;refine hn13 (some ([1,2,32], none)) _ ?_;refine eCf ?_;refine hn12 (some ([2], none)) _ ?_;refine eS fun K15 hn15 hr15 he15 => ?_;refine eO fun K16 hk16 => ?_;refine tL F1 ?_;refine hk16 _ ?_;refine hn15 (some ([6,7], none)) _ ?_
      exact sf1 F1
theorem doA_eq {o : OpV} {v : Int} (h : checkA o = 0) : doA o v = (mkA o.kind o.n v, v) := by unfold doA; rw [if_pos h]
theorem mkA_in {k n v : Int} (hn : In64 n) (hv : In64 v) : In64 (mkA k n v) := by
  unfold In64 at *
  unfold mkA
  split
  · rw [IntKind.wrap_i64]; omega
  · split
    · rcases Int.le_total v n with h | h
      · rw [show max v n = n by omega]; exact hn
      · rw [show max v n = v by omega]; exact hv
    · split
      · exact hn
      · split
        · exact hn
        · exact hv
abbrev ovL (w : WorldM atm) : List (List Sh) := w.tasks.map fun y => [sB (!y.live)]
inductive RunOut (o : OpV) (x z : WordV) (s' : AtmV) : Prop
  | hit (h1 : z = ⟨mkA o.kind o.n x.val, x.ver, x.ref⟩) (h2 : mkA o.kind o.n x.val ≠ x.val) (h3 : s'.fin = true) (h4 : s'.answer = x.val)
  | same (h1 : z = x) (h2 : mkA o.kind o.n x.val = x.val) (h3 : s'.fin = true) (h4 : s'.answer = x.val)
  | again (h1 : z = x) (h3 : s'.fin = false)
structure RunStep (l : List OpV) (w w' : WorldM atm) (p : PickV) (m : Nat) (o : OpV) (s' : AtmV) (y y' : TaskM atm) : Prop where
  kind : p.kind = 0
  thread : p.thread = (m : Int) + 1
  op : l[m]? = some o
  task : w'.tasks[m]? = some y'
  code : y'.code = some s'
  live : y'.live = !s'.fin
  task0 : w.tasks[m]? = some y
  live0 : y.live = true
  ov1 : ovL w' = (ovL w).set m [sB s'.fin]
  other : Wd w'.m (1 - o.loc) = Wd w.m (1 - o.loc)
  out : RunOut o (Wd w.m o.loc) (Wd w'.m o.loc) s'
theorem run_cases {l : List OpV} {w : WorldM atm} (h : AtW l w) (p : PickV) (hp : p.kind ≠ 2) : AtW l (stepM w p).1 ∧
    (((stepM w p).2 = false ∧ (stepM w p).1.m = w.m ∧ ovL (stepM w p).1 = ovL w ∧ ∀ q, Wd (stepM w p).1.m q = Wd w.m q) ∨
     ((stepM w p).2 = true ∧ p.kind ≠ 0 ∧ ovL (stepM w p).1 = ovL w ∧ ∀ q, Wd (stepM w p).1.m q = Wd w.m q) ∨
     ((stepM w p).2 = true ∧ ∃ m o s' y y', RunStep l w (stepM w p).1 p m o s' y y')) := by
  obtain ⟨h1, h2⟩ := atW_step h p hp
  refine ⟨h1, ?_⟩
  rcases h2 with ⟨e, _⟩ | ⟨m, o, s, s', y, y', k1, k2, k3, k4, k5, k6, k7, k8, k9, k10, hT, hT', hgo⟩ | ⟨k1, k2, k3⟩
  · rw [e]; exact .inl ⟨rfl, rfl, rfl, fun _ => rfl⟩
  · refine .inr (.inr ⟨k7, m, o, s', y, y', ?_⟩)
    have hlt := (List.getElem?_eq_some_iff.1 k4).1
    have ho := h.ops o (List.mem_of_getElem? k3)
    have hloc : 1 - o.loc ≠ o.loc := by omega
    have hs : ∀ q, q ≠ o.loc → Wd (stepM w p).1.m q = Wd w.m q := fun q hq => by
      rw [k10]
      have : y.act.place = o.loc := (atT_act hT k5).1
      unfold scSet
      rw [if_neg (fun hh => hq (by rw [hh.1, this]))]
    refine ⟨k1, k2, k3, ?_, hT'.code, hT'.live, k4, k5, ?_, hs _ hloc, ?_⟩
    · rw [k8, List.getElem?_set_self hlt]
    · show (stepM w p).1.tasks.map _ = _
      rw [k8, List.map_set, hT'.live]
      simp
    · cases hgo with
      | hit ha hne hf hans ht hd hsw =>
        rw [doA_eq ho.1] at hne
        refine .hit ?_ hne hf hans
        rw [k10, set_hit ha, if_pos rfl, doA_eq ho.1]
      | same hn he hf hans ht hd =>
        rw [doA_eq ho.1] at he hans
        exact .same (by rw [k10, set_not hn]) he hf hans
      | again hn hne hf ha ht hd hsw => exact .again (by rw [k10, set_not hn]) hf
  · by_cases hb : (stepM w p).2 = true
    · exact .inr (.inl ⟨hb, by omega, by show List.map _ _ = _; rw [k2], fun q => by rw [k3]⟩)
    · exact .inl ⟨by simpa using hb, k3, by show List.map _ _ = _; rw [k2], fun q => by rw [k3]⟩
def InW (w : WorldM atm) : Prop := ∀ q, q = 0 ∨ q = 1 → In64 (Wd w.m q).val
theorem inW_step {l : List OpV} {w : WorldM atm} (h : AtW l w) (hn : ∀ o ∈ l, In64 o.n) (hI : InW w) (p : PickV) (hp : p.kind ≠ 2) : InW (stepM w p).1 := by
  intro q hq
  rcases (run_cases h p hp).2 with ⟨_, _, _, e⟩ | ⟨_, _, _, e⟩ | ⟨_, m, o, s', y, y', hs⟩
  · rw [e]; exact hI q hq
  · rw [e]; exact hI q hq
  · have ho := h.ops o (List.mem_of_getElem? hs.op)
    have hno := hn o (List.mem_of_getElem? hs.op)
    by_cases e : q = o.loc
    · subst e
      cases hs.out with
      | hit h1 h2 h3 h4 => rw [h1]; exact mkA_in hno (hI _ ho.2)
      | same h1 h2 h3 h4 => rw [h1]; exact hI _ ho.2
      | again h1 h3 => rw [h1]; exact hI _ ho.2
    · have : q = 1 - o.loc := by omega
      rw [this, hs.other]; exact hI _ (by omega)
theorem inW_run {l : List OpV} {w : WorldM atm} (h : AtW l w) (hn : ∀ o ∈ l, In64 o.n) (hI : InW w) (ps : List PickV) (hp : ∀ p ∈ ps, p.kind ≠ 2) : AtW l (runW w ps) ∧ InW (runW w ps) :=
  run_keeps (I := fun w => AtW l w ∧ InW w) (fun w p hp h => ⟨(atW_step h.1 p hp).1, inW_step h.1 hn h.2 p hp⟩) ps hp ⟨h, hI⟩
theorem inW_begun {l : List OpV} {w0 w1 : WordV} (hl : l.length ≤ 8) (h0 : In64 w0.val) (h1 : In64 w1.val) : InW (begunW l w0 w1) := by
  obtain ⟨_, h2, _, _, h5, h6⟩ := begun_ok l w0 w1 hl
  have e : begunW l w0 w1 = ⟨machR l w0 w1, (codesA l).map (startM (C := atm)), List.replicate l.length false⟩ := by unfold begunW; rw [h2]
  rw [e]
  rintro q (rfl | rfl)
  · rw [h5]; exact h0
  · rw [h6]; exact h1
theorem ovL_begun {l : List OpV} {w0 w1 : WordV} (hl : l.length ≤ 8) : ovL (begunW l w0 w1) = List.replicate l.length [sB false] := by
  obtain ⟨_, h2, _⟩ := begun_ok l w0 w1 hl
  have e : begunW l w0 w1 = ⟨machR l w0 w1, (codesA l).map (startM (C := atm)), List.replicate l.length false⟩ := by unfold begunW; rw [h2]
  rw [e]
  show ((codesA l).map (startM (C := atm))).map _ = _
  refine List.ext_getElem (by simp [codesA]) fun i h1 h2 => ?_
  simp only [codesA, List.getElem_map, List.getElem_replicate]
  rfl
theorem getA_delA (l : List (Nat × Ob)) (i j : Nat) : getA (delA l i) j = if i = j then none else getA l j := by
  split
  · rename_i e; subst e; exact getA_delA_self l i
  · rename_i e; exact getA_delA_other l e
abbrev eT : Sh := sB true
def MayI (B : Nat) (O : List (Nat × Ob)) (m : Nat) (cells : List Sh) : Prop :=
  (∀ (i : Nat) (c : Sh), cells[i]? = some c → c = Sh.v (.map none) ∨ ∃ d N f, c = Sh.own d ∧ 4 ≤ d ∧ d < m ∧ getA O d = some (.map 2 N f) ∧ N ≤ B ∧ ∀ k, f k = none ∨ f k = some eT) ∧
    ∀ (i j d : Nat), cells[i]? = some (Sh.own d) → cells[j]? = some (Sh.own d) → i = j
def MayHas (O : List (Nat × Ob)) (cells : List Sh) (i : Nat) (a : Int) : Prop := ∃ d N f, cells[i]? = some (Sh.own d) ∧ getA O d = some (.map 2 N f) ∧ f a = some eT
theorem mayI_same {B B' : Nat} {O O' : List (Nat × Ob)} {m m' : Nat} {cells : List Sh} (h : MayI B O m cells) (hB : B ≤ B') (hm : m ≤ m') (hO : ∀ d, 4 ≤ d → d < m → getA O' d = getA O d) : MayI B' O' m' cells :=
  ⟨fun i c hc => (h.1 i c hc).elim .inl fun ⟨d, N, f, e, h1, h2, h3, h4, h5⟩ => .inr ⟨d, N, f, e, h1, by omega, by rw [hO d h1 h2]; exact h3, by omega, h5⟩, h.2⟩
theorem mayI_put {B : Nat} {O O' : List (Nat × Ob)} {m m' : Nat} {cells : List Sh} {i d N : Nat} {f : Int → Option Sh} (h : MayI B O m cells) (hm : m ≤ m') (hi : cells[i]? = some (Sh.own d)) (hd : getA O d = some (.map 2 N f)) (a : Int)
    (hO : ∀ e, 4 ≤ e → e < m → e ≠ d → getA O' e = getA O e) (hO' : getA O' d = some (.map 2 (N + 1) fun j => if j = a then some eT else f j)) : MayI (B + 1) O' m' cells := by
  refine ⟨fun j c hc => ?_, h.2⟩
  rcases h.1 j c hc with e | ⟨d2, N2, f2, e, h1, h2, h3, h4, h5⟩
  · exact .inl e
  · by_cases ed : d2 = d
    · subst ed
      rw [h3] at hd
      cases hd
      exact .inr ⟨d2, _, _, e, h1, by omega, hO', by omega, fun k => by
        by_cases hk : k = a
        · exact .inr (if_pos hk)
        · rw [if_neg hk]; exact h5 k⟩
    · exact .inr ⟨d2, N2, f2, e, h1, by omega, by rw [hO d2 h1 h2 ed]; exact h3, by omega, h5⟩
theorem mayI_new {B : Nat} {O O' : List (Nat × Ob)} {m m' : Nat} {cells : List Sh} {i d : Nat} (h : MayI B O m cells) (hd : m ≤ d) (h4 : 4 ≤ d) (hm : d < m') (hi : i < cells.length)
    (hO : ∀ e, 4 ≤ e → e < m → getA O' e = getA O e) (hO' : getA O' d = some (.map 2 0 fun _ => none)) : MayI B O' m' (cells.set i (.own d)) := by
  have hget : ∀ j, (cells.set i (.own d))[j]? = if j = i then some (.own d) else cells[j]? := fun j => by
    rw [List.getElem?_set]
    by_cases e : i = j
    · subst e; simp [hi]
    · rw [if_neg e, if_neg (fun x => e x.symm)]
  have hlt : ∀ j d2, cells[j]? = some (Sh.own d2) → d2 < m := fun j d2 hc => by
    rcases h.1 j _ hc with e | ⟨d3, N2, f2, e, h1, h2, h3, h4, h5⟩
    · cases e
    · cases e; exact h2
  refine ⟨fun j c hc => ?_, fun j k d2 hj hk => ?_⟩
  · rw [hget] at hc
    split at hc
    · cases hc
      exact .inr ⟨d, 0, _, rfl, h4, hm, hO', by omega, fun _ => .inl rfl⟩
    · rcases h.1 j c hc with e | ⟨d2, N2, f2, e, h1, h2, h3, h4, h5⟩
      · exact .inl e
      · exact .inr ⟨d2, N2, f2, e, h1, by omega, by rw [hO d2 h1 h2]; exact h3, by omega, h5⟩
  · rw [hget] at hj hk
    split at hj
    · split at hk
      · omega
      · cases hj; exact absurd (hlt _ _ hk) (by omega)
    · split at hk
      · cases hk; exact absurd (hlt _ _ hj) (by omega)
      · exact h.2 j k d2 hj hk
theorem mayHas_same {O O' : List (Nat × Ob)} {cells : List Sh} {i : Nat} {a : Int} {m B : Nat} (hI : MayI B O m cells) (h : MayHas O cells i a) (hO : ∀ d, 4 ≤ d → d < m → getA O' d = getA O d) : MayHas O' cells i a := by
  obtain ⟨d, N, f, h1, h2, h3⟩ := h
  rcases hI.1 i _ h1 with e | ⟨d2, _, _, e, h4, h5, _⟩
  · cases e
  · cases e; exact ⟨d, N, f, h1, by rw [hO d h4 h5]; exact h2, h3⟩
theorem mayHas_put {O O' : List (Nat × Ob)} {cells : List Sh} {i j : Nat} {a b : Int} {m B d N : Nat} {f : Int → Option Sh} (hI : MayI B O m cells) (h : MayHas O cells i a) (hj : cells[j]? = some (Sh.own d)) (hd : getA O d = some (.map 2 N f))
    (hO : ∀ e, 4 ≤ e → e < m → e ≠ d → getA O' e = getA O e) (hO' : getA O' d = some (.map 2 (N + 1) fun j => if j = b then some eT else f j)) : MayHas O' cells i a := by
  obtain ⟨d1, N1, f1, h1, h2, h3⟩ := h
  by_cases e : d1 = d
  · subst e
    rw [hd] at h2
    cases h2
    exact ⟨d1, _, _, h1, hO', by split; rfl; exact h3⟩
  · rcases hI.1 i _ h1 with e' | ⟨d2, _, _, e', h4, h5, _⟩
    · cases e'
    · cases e'; exact ⟨d1, N1, f1, h1, by rw [hO d1 h4 h5 e]; exact h2, h3⟩
structure CrF (w : WorldM atm) (L : List OpV) (M : Ob) (cells : List Sh) (B : Nat) (O : List (Nat × Ob)) (n : Nat) : Prop where
  hn : 4 ≤ n
  g1 : getA O 1 = some (boxW w)
  g2 : getA O 2 = some M
  g3 : getA O 3 = some (.row 4 1 (ovL w))
  hM : L ≠ [] → M = .obx 96 cells
  len : cells.length = L.length
  may : MayI B O n cells
structure BrF (w w' : WorldM atm) (L : List OpV) (cells : List Sh) (nx a b m : Nat) (o : OpV) (x z : WordV) (B : Nat) (O : List (Nat × Ob)) (n : Nat) : Prop where
  hn : nx + 5 ≤ n
  hx : 4 ≤ nx
  la : a < nx + 5
  lb : b < nx + 5
  g1 : getA O 1 = some (boxW w)
  g2 : getA O 2 = some (.obx 96 cells)
  g3 : getA O 3 = some (.row 4 1 (ovL w))
  a1 : getA O (nx + 1) = some (boxW w')
  a2 : getA O (nx + 2) = some (.box 94 (eOp o))
  a3 : getA O a = some (.box 27 (eWord x))
  a4 : getA O b = some (.box 27 (eWord z))
  len : cells.length = L.length
  may : MayI B O n cells
  own : ∃ d, cells[m]? = some (Sh.own d)
theorem obne {O : List (Nat × Ob)} {a b : Nat} {x y : Ob} (h1 : getA O a = some x) (h2 : getA O b = some y) (h : x ≠ y) : b ≠ a := fun e => by
  subst e
  rw [h1] at h2
  cases h2
  exact h rfl
section
variable {w w' : WorldM atm} {L : List OpV} {M : Ob} {cells : List Sh} {nx a b m : Nat} {o : OpV} {x z : WordV} {B B' n n' d N : Nat} {O O' : List (Nat × Ob)} {f : Int → Option Sh}
theorem CrF.same (h : CrF w L M cells B O n) (hB : B ≤ B') (hm : n ≤ n') (hO : ∀ e, e < n → getA O' e = getA O e) : CrF w L M cells B' O' n' := by
  have := h.hn
  exact ⟨by omega, by rw [hO 1 (by omega)]; exact h.g1, by rw [hO 2 (by omega)]; exact h.g2, by rw [hO 3 (by omega)]; exact h.g3, h.hM, h.len, mayI_same h.may hB hm fun d _ h => hO d h⟩
theorem CrF.world (h : CrF w L M cells B O n) (hB : B ≤ B') (hm : n ≤ n') (hO : ∀ e, e < n → e ≠ 1 → getA O' e = getA O e) (h1 : getA O' 1 = some (boxW w')) (hov : ovL w' = ovL w) : CrF w' L M cells B' O' n' := by
  have := h.hn
  exact ⟨by omega, h1, by rw [hO 2 (by omega) (by decide)]; exact h.g2, by rw [hO 3 (by omega) (by decide), hov]; exact h.g3, h.hM, h.len, mayI_same h.may hB hm fun d h4 h => hO d h (by omega)⟩
theorem CrF.put (h : CrF w L M cells B O n) (hm : n ≤ n') {i : Nat} (hi : cells[i]? = some (Sh.own d)) (hd : getA O d = some (.map 2 N f)) (u : Int)
    (hO : ∀ e, e < n → e ≠ d → getA O' e = getA O e) (hO' : getA O' d = some (.map 2 (N + 1) fun j => if j = u then some eT else f j)) : CrF w L M cells (B + 1) O' n' := by
  have := h.hn
  have hL : L ≠ [] := fun e => by
    have hlt := (List.getElem?_eq_some_iff.1 hi).1
    have h2 := h.len
    rw [e] at h2
    simp only [List.length_nil] at h2
    omega
  have d1 : d ≠ 1 := obne h.g1 hd (by intro e; cases e)
  have d2 : d ≠ 2 := obne h.g2 hd (by rw [h.hM hL]; intro e; cases e)
  have d3 : d ≠ 3 := obne h.g3 hd (by intro e; cases e)
  exact ⟨by omega, by rw [hO 1 (by omega) d1.symm]; exact h.g1, by rw [hO 2 (by omega) d2.symm]; exact h.g2, by rw [hO 3 (by omega) d3.symm]; exact h.g3, h.hM, h.len,
    mayI_put h.may hm hi hd u (fun e _ h1 h2 => hO e h1 h2) hO'⟩
theorem BrF.same (h : BrF w w' L cells nx a b m o x z B O n) (hB : B ≤ B') (hm : n ≤ n') (hO : ∀ e, e < n → getA O' e = getA O e) : BrF w w' L cells nx a b m o x z B' O' n' := by
  have := h.hn
  have := h.hx
  have := h.la
  have := h.lb
  exact ⟨by omega, by omega, h.la, h.lb, by rw [hO 1 (by omega)]; exact h.g1, by rw [hO 2 (by omega)]; exact h.g2, by rw [hO 3 (by omega)]; exact h.g3, by rw [hO _ (by omega)]; exact h.a1, by rw [hO _ (by omega)]; exact h.a2,
    by rw [hO _ (by omega)]; exact h.a3, by rw [hO _ (by omega)]; exact h.a4, h.len, mayI_same h.may hB hm fun d _ h => hO d h, h.own⟩
theorem BrF.ids (h : BrF w w' L cells nx a b m o x z B O n) (hd : getA O d = some (.map 2 N f)) : d ≠ 1 ∧ d ≠ 2 ∧ d ≠ 3 ∧ d ≠ nx + 1 ∧ d ≠ nx + 2 ∧ d ≠ a ∧ d ≠ b :=
  ⟨obne h.g1 hd (by intro e; cases e), obne h.g2 hd (by intro e; cases e), obne h.g3 hd (by intro e; cases e), obne h.a1 hd (by intro e; cases e), obne h.a2 hd (by intro e; cases e), obne h.a3 hd (by intro e; cases e), obne h.a4 hd (by intro e; cases e)⟩
theorem BrF.put (h : BrF w w' L cells nx a b m o x z B O n) (hm : n ≤ n') {i : Nat} (hi : cells[i]? = some (Sh.own d)) (hd : getA O d = some (.map 2 N f)) (u : Int)
    (hO : ∀ e, e < n → e ≠ d → getA O' e = getA O e) (hO' : getA O' d = some (.map 2 (N + 1) fun j => if j = u then some eT else f j)) : BrF w w' L cells nx a b m o x z (B + 1) O' n' := by
  have := h.hn
  have := h.hx
  have := h.la
  have := h.lb
  obtain ⟨d1, d2, d3, d4, d5, d6, d7⟩ := h.ids hd
  exact ⟨by omega, by omega, h.la, h.lb, by rw [hO 1 (by omega) d1.symm]; exact h.g1, by rw [hO 2 (by omega) d2.symm]; exact h.g2, by rw [hO 3 (by omega) d3.symm]; exact h.g3, by rw [hO _ (by omega) d4.symm]; exact h.a1, by rw [hO _ (by omega) d5.symm]; exact h.a2,
    by rw [hO _ (by omega) d6.symm]; exact h.a3, by rw [hO _ (by omega) d7.symm]; exact h.a4, h.len, mayI_put h.may hm hi hd u (fun e _ h1 h2 => hO e h1 h2) hO', h.own⟩
theorem BrF.toC (h : BrF w w' L cells nx a b m o x z B O n) (hB : B ≤ B') (hm : n ≤ n') (hO : ∀ e, e < n → e ≠ 1 → e ≠ 3 → getA O' e = getA O e) (h1 : getA O' 1 = some (boxW w')) (h3 : getA O' 3 = some (.row 4 1 (ovL w'))) : CrF w' L (.obx 96 cells) cells B' O' n' := by
  have := h.hn
  have := h.hx
  have := h.la
  have := h.lb
  exact ⟨by omega, h1, by rw [hO 2 (by omega) (by decide) (by decide)]; exact h.g2, h3, fun _ => rfl, h.len, mayI_same h.may hB hm fun d h4 h => hO d h (by omega) (by omega)⟩
theorem mayI_at (hI : MayI B O n cells) {i : Nat} (hi : i < cells.length) : cells[i]? = some (Sh.v (.map none)) ∨ ∃ d N f, cells[i]? = some (Sh.own d) ∧ 4 ≤ d ∧ d < n ∧ getA O d = some (.map 2 N f) ∧ N ≤ B := by
  obtain ⟨c, hc⟩ : ∃ c, cells[i]? = some c := ⟨_, List.getElem?_eq_getElem hi⟩
  rcases hI.1 i c hc with e | ⟨d, N, f, e, h1, h2, h3, h4, _⟩
  · exact .inl (by rw [hc, e])
  · exact .inr ⟨d, N, f, by rw [hc, e], h1, h2, h3, h4⟩
theorem mayI_nil (n L : Nat) (O : List (Nat × Ob)) : MayI 0 O n (List.replicate L (.v (.map none))) := by
  refine ⟨fun i c hc => .inl ?_, fun i j d hi _ => ?_⟩
  · have := List.mem_of_getElem? hc
    exact List.eq_of_mem_replicate this
  · have := List.mem_of_getElem? hi
    exact absurd (List.eq_of_mem_replicate this) (by intro e; cases e)
end
theorem nid {n : Nat} (h : 4 ≤ n) : (∀ a b : Nat, n + a + b = n + (a + b)) ∧ (∀ (l : List (Nat × Ob)) (i j : Nat), getA (delA l i) j = if i = j then none else getA l j) ∧ (∀ a : Nat, a + 0 = a) ∧
    ((n = 0) = False) ∧ ((n = 1) = False) ∧ ((n = 2) = False) ∧ ((n = 3) = False) ∧ ((0 = n) = False) ∧ ((1 = n) = False) ∧ ((2 = n) = False) ∧ ((3 = n) = False) ∧
    ((n + 1 = n) = False) ∧ ((n + 2 = n) = False) ∧ ((n + 3 = n) = False) ∧ ((n + 4 = n) = False) ∧ ((n + 5 = n) = False) ∧ ((n + 6 = n) = False) ∧ ((n + 7 = n) = False) ∧ ((n + 8 = n) = False) ∧
    ((n = n + 1) = False) ∧ ((n = n + 2) = False) ∧ ((n = n + 3) = False) ∧ ((n = n + 4) = False) ∧ ((n = n + 5) = False) ∧ ((n = n + 6) = False) ∧ ((n = n + 7) = False) ∧ ((n = n + 8) = False) ∧
    (∀ k, (n + (k + 1) = 1) = False) ∧ (∀ k, (n + (k + 1) = 2) = False) ∧ (∀ k, (n + (k + 1) = 3) = False) ∧ (∀ k, (1 = n + (k + 1)) = False) ∧ (∀ k, (2 = n + (k + 1)) = False) ∧ (∀ k, (3 = n + (k + 1)) = False) := by
  refine ⟨fun a b => by omega, getA_delA, fun a => rfl, ?_⟩
  refine ⟨?_, ?_, ?_, ?_, ?_, ?_, ?_, ?_, ?_, ?_, ?_, ?_, ?_, ?_, ?_, ?_, ?_, ?_, ?_, ?_, ?_, ?_, ?_, ?_, ?_, ?_, ?_, ?_, ?_, ?_⟩ <;> first | exact eq_false (by omega) | (intro k; exact eq_false (by omega))
theorem did {n d : Nat} (h4 : 4 ≤ d) (h : d < n) : ((d = 0) = False) ∧ ((d = 1) = False) ∧ ((d = 2) = False) ∧ ((d = 3) = False) ∧ ((0 = d) = False) ∧ ((1 = d) = False) ∧ ((2 = d) = False) ∧ ((3 = d) = False) ∧ ((n = d) = False) ∧ ((d = n) = False) ∧
    (∀ k : Nat, (n + k = d) = False) ∧ (∀ k : Nat, (d = n + k) = False) := by
  refine ⟨?_, ?_, ?_, ?_, ?_, ?_, ?_, ?_, ?_, ?_, ?_, ?_⟩ <;> first | exact eq_false (by omega) | (intro k; exact eq_false (by omega))
theorem eqsh_nilnil {t k e : TypeId} (h : Try.prog.underlying t = some (.map k e)) : EqSh t (.v (.map none)) (.v (.map none)) true := by
  intro H E w u1 u2 o1 o2 hs h1 h2
  cases h1; cases h2
  have hq := run_eql_map_nil_sl (P := Try.prog) w t k e none h
  refine ⟨by simpa [eqGuard] using hq, ?_⟩
  simp only [binOp, Sem.run_bind] at hq
  cases hr : Sem.run Try.prog (Op.equal t (.map none) (.map none)) w with
  | ok v w1 =>
    rw [hr] at hq
    simp at hq
    obtain ⟨rfl, rfl⟩ := hq
    simp [eqGuard, binOp, hr]
  | halt x w1 => rw [hr] at hq; simp at hq
theorem eqsh_nilmap : EqSh 96 (.v (.map none)) (.v (.map none)) true := by
  refine eqsh_nilnil Try.underlying96
end Go.Proofs.Ytenbagffdlljdaa

/-
  The reference of layer 5 and the program say the same: plain law.
-/
import Derived.Test.YtlbhfpcbbembgaaK5q
namespace Go.Proofs.Ytlbhfpcbbembgaa
set_option linter.unusedSimpArgs false
set_option linter.unusedVariables false
open Go.RowKit Go.Maps

/-- The puts of a line, in order. -/
def lineP (ps : List StoreV) (i : Int) : List StoreV := ps.filter fun p => decide (p.loc.tdiv 8 = i)
theorem take_succ_of {α : Type} {l : List α} {k : Nat} {x : α} (h : l[k]? = some x) : l.take (k + 1) = l.take k ++ [x] := by
  rw [List.take_add_one, h]; rfl
theorem cntR_eq (ps : List StoreV) (i : Int) : ∀ k, cntR ps i k = ((lineP (ps.take k) i).length : Int)
  | 0 => rfl
  | k + 1 => by
    unfold cntR
    have ih := cntR_eq ps i k
    cases e : ps[k]? with
    | none =>
      have h : ps.length ≤ k := by simpa using e
      simp only [ih, List.take_of_length_le h, List.take_of_length_le (Nat.le_succ_of_le h)]
    | some p =>
      rw [take_succ_of e]
      unfold lineP at ih ⊢
      rw [List.filter_append]
      by_cases hp : p.loc.tdiv 8 = i
      · simp [hp, ih]
      · simp [hp, ih]
theorem inR_eq (ps : List StoreV) (i K : Int) (out : List WordV) : ∀ k, inR ps i K out k = ((lineP (ps.take k) i).take K.toNat).foldl putS out
  | 0 => by simp [inR, lineP]
  | k + 1 => by
    unfold inR
    have ih := inR_eq ps i K out k
    have hc := cntR_eq ps i k
    cases e : ps[k]? with
    | none =>
      have h : ps.length ≤ k := by simpa using e
      simp only [ih, List.take_of_length_le h, List.take_of_length_le (Nat.le_succ_of_le h)]
    | some p =>
      rw [take_succ_of e]
      unfold lineP at ih hc ⊢
      rw [List.filter_append]
      by_cases hp : p.loc.tdiv 8 = i
      · simp only [hp, true_and, List.filter_cons, decide_true, if_true, List.filter_nil]
        rw [hc]
        generalize List.filter (fun p => decide (p.loc.tdiv 8 = i)) (ps.take k) = F at ih ⊢
        by_cases hK : (F.length : Int) < K
        · rw [if_pos hK, ih, List.take_of_length_le (l := F) (by omega), List.take_of_length_le (l := F ++ [p]) (by rw [List.length_append]; simp only [List.length_cons, List.length_nil]; omega), List.foldl_append]
          rfl
        · rw [if_neg hK, ih, List.take_append_of_le_length (by omega)]
      · simp [hp, ih]
theorem inR_all (ps : List StoreV) (i K : Int) (out : List WordV) : inR ps i K out ps.length = ((lineP ps i).take K.toNat).foldl putS out := by
  rw [inR_eq, List.take_length]

structure RelR (L : LinesM) (R : RefM) : Prop where
  first : R.first = L.first
  kept : R.kept = L.logs.map (·.kept)
  stores : ∀ (i : Nat) y, L.logs[i]? = some y → y.stores = lineP R.puts i
  asks : ∀ t k m, askOf L t k = some m → ⟨t, k, m⟩ ∈ R.asks
  most : ∀ a ∈ R.asks, ∃ m, askOf L a.thread a.line = some m ∧ a.upto ≤ m
  place : ∀ p ∈ R.puts, 0 ≤ p.loc ∧ p.loc < (R.first.length : Int)

theorem rel_log {L : LinesM} {R : RefM} (h : RelR L R) {i : Nat} {y : LogV} (hy : L.logs[i]? = some y) : cntR R.puts i R.puts.length = (y.stores.length : Int) := by
  rw [cntR_eq, List.take_length, h.stores i y hy]
theorem outR_lef {L : LinesM} {R : RefM} (h : RelR L R) (more : Int → Int → Int) (ks : List Int) (hk : ∀ (i : Nat) y, L.logs[i]? = some y → ks[i]? = some (y.kept + more i (y.stores.length - y.kept))) : ∀ n, n ≤ L.logs.length → outR R ks n = lefN L more n
  | 0, _ => h.first
  | n + 1, hn => by
    obtain ⟨y, hy⟩ : ∃ y, L.logs[n]? = some y := ⟨_, List.getElem?_eq_getElem (by omega)⟩
    have ih := outR_lef h more ks hk n (by omega)
    unfold outR lefN
    rw [hy, hk n y hy]
    simp only [ih]
    rw [inR_all, h.stores n y hy]
theorem rel_least {L : LinesM} {R : RefM} (h : RelR L R) : outR R R.kept R.kept.length = leftM L fun _ _ => 0 := by
  have e : R.kept.length = L.logs.length := by rw [h.kept, List.length_map]
  rw [e]
  exact outR_lef h _ _ (fun i y hy => by rw [h.kept, List.getElem?_map, hy]; simp) _ (Nat.le_refl _)
/-- What the reference takes to survive. -/
def crashK (R : RefM) (c : Int) : List Int := R.kept.mapIdx fun i k => k + mixF c i (cntR R.puts i R.puts.length - k)
theorem rel_crash {L : LinesM} {R : RefM} (h : RelR L R) (c : Int) : outR R (crashK R c) (crashK R c).length = leftM L (mixF c) := by
  have e : (crashK R c).length = L.logs.length := by rw [crashK, List.length_mapIdx, h.kept, List.length_map]
  rw [e]
  exact outR_lef h _ _ (fun i y hy => by rw [crashK, List.getElem?_mapIdx, h.kept, List.getElem?_map, hy, rel_log h hy]; rfl) _ (Nat.le_refl _)

/-! ### The operations of the reference -/
def r5newM (l : List WordV) : RefM := ⟨l, [], List.replicate ((l.length + 7) / 8) 0, []⟩
def r5storeM (R : RefM) (a : Int) (w : WordV) : RefM := { R with puts := R.puts ++ [⟨a, w⟩] }
def r5flushM (R : RefM) (t a : Int) : RefM := { R with asks := R.asks ++ [⟨t, a.tdiv 8, cntR R.puts (a.tdiv 8) R.puts.length⟩] }
/-- One request completed. -/
def askStep (t : Int) (ks : List Int) (a : AskV) : List Int :=
  if a.thread = t then (match ks[a.line.toNat]? with | some k => if k < a.upto then ks.set a.line.toNat a.upto else ks | none => ks) else ks
def r5syncM (R : RefM) (t : Int) : RefM := { R with kept := R.asks.foldl (askStep t) R.kept, asks := R.asks.filter fun a => decide (¬ a.thread = t) }
theorem askStep_len (t : Int) (ks : List Int) (a : AskV) : (askStep t ks a).length = ks.length := by
  unfold askStep; split
  · split
    · split
      · simp
      · rfl
    · rfl
  · rfl
theorem foldl_askStep_len (t : Int) : ∀ (l : List AskV) (ks : List Int), (l.foldl (askStep t) ks).length = ks.length
  | [], _ => rfl
  | a :: l, ks => by rw [List.foldl_cons, foldl_askStep_len t l, askStep_len]
theorem foldl_askStep (t : Int) : ∀ (l : List AskV) (ks : List Int), (∀ a ∈ l, 0 ≤ a.line) → ∀ (i : Nat) v, ks[i]? = some v →
    ∃ v', (l.foldl (askStep t) ks)[i]? = some v' ∧ v ≤ v' ∧ (∀ a ∈ l, a.thread = t → a.line = (i : Int) → a.upto ≤ v') ∧ (v' = v ∨ ∃ a ∈ l, a.thread = t ∧ a.line = (i : Int) ∧ v' = a.upto)
  | [], ks, _, i, v, h => ⟨v, h, Int.le_refl _, fun a ha => (by cases ha), .inl rfl⟩
  | a :: l, ks, hl, i, v, h => by
    have ha0 := hl a (List.mem_cons_self ..)
    have hs : ∃ v1, (askStep t ks a)[i]? = some v1 ∧ v ≤ v1 ∧ (a.thread = t → a.line = (i : Int) → a.upto ≤ v1) ∧ (v1 = v ∨ (a.thread = t ∧ a.line = (i : Int) ∧ v1 = a.upto)) := by
      unfold askStep
      by_cases ht : a.thread = t
      · rw [if_pos ht]
        by_cases hi : a.line.toNat = i
        · rw [hi, h]
          simp only
          have hil : i < ks.length := (List.getElem?_eq_some_iff.1 h).1
          by_cases hk : v < a.upto
          · rw [if_pos hk]
            exact ⟨a.upto, by simp [hil], by omega, fun _ _ => Int.le_refl _, .inr ⟨ht, by omega, rfl⟩⟩
          · rw [if_neg hk]
            exact ⟨v, h, Int.le_refl _, fun _ _ => by omega, .inl rfl⟩
        · have hne : ¬ a.line = (i : Int) := by omega
          refine ⟨v, ?_, Int.le_refl _, fun _ e => absurd e hne, .inl rfl⟩
          split
          · split
            · rw [List.getElem?_set, if_neg hi]; exact h
            · exact h
          · exact h
      · rw [if_neg ht]
        exact ⟨v, h, Int.le_refl _, fun e => absurd e ht, .inl rfl⟩
    obtain ⟨v1, h1, h2, h3, h4⟩ := hs
    obtain ⟨v', g1, g2, g3, g4⟩ := foldl_askStep t l _ (fun b hb => hl b (List.mem_cons_of_mem _ hb)) i v1 h1
    refine ⟨v', g1, by omega, fun b hb e1 e2 => ?_, ?_⟩
    · rcases List.mem_cons.1 hb with rfl | hb
      · have := h3 e1 e2; omega
      · exact g3 b hb e1 e2
    · rcases g4 with rfl | ⟨b, hb, e⟩
      · rcases h4 with rfl | ⟨e1, e2, e3⟩
        · exact .inl rfl
        · exact .inr ⟨a, List.mem_cons_self .., e1, e2, e3⟩
      · exact .inr ⟨b, List.mem_cons_of_mem _ hb, e⟩

theorem rel_new (l : List WordV) : RelR (newM l) (r5newM l) := by
  refine ⟨rfl, by simp [newM, r5newM], fun i y hy => ?_, fun t k m h => by simp [askOf, newM] at h, fun a ha => (by cases ha), fun p hp => (by cases hp)⟩
  have := List.mem_of_getElem? hy
  simp only [newM, List.mem_replicate] at this
  rw [this.2]; rfl
theorem rel_store {L : LinesM} {R : RefM} (h : RelR L R) (a : Int) (w : WordV) (h0 : 0 ≤ a) (h1 : a < (L.first.length : Int)) : RelR (storeM L a w) (r5storeM R a w) := by
  refine ⟨h.first, ?_, fun i y hy => ?_, h.asks, h.most, fun p hp => ?_⟩
  · show R.kept = _
    rw [h.kept]
    refine List.ext_getElem? fun i => ?_
    simp only [storeM, List.getElem?_map, List.getElem?_modify]
    cases L.logs[i]? with
    | none => rfl
    | some z => by_cases e : a.toNat / 8 = i <;> simp [e]
  · simp only [storeM, List.getElem?_modify] at hy
    have e0 : a.tdiv 8 = ((a.toNat / 8 : Nat) : Int) := by rw [Int.tdiv_eq_ediv_of_nonneg h0]; omega
    cases e : L.logs[i]? with
    | none => rw [e] at hy; simp at hy
    | some y0 =>
      rw [e] at hy
      have hs := h.stores i y0 e
      simp only [r5storeM, lineP, List.filter_append] at hs ⊢
      by_cases e2 : a.toNat / 8 = i
      · simp only [if_pos e2, Option.map_eq_map, Option.map_some, Option.some.injEq] at hy; subst hy
        have e3 : a.tdiv 8 = (i : Int) := by omega
        simp [hs, e3]
      · simp only [if_neg e2, Option.map_eq_map, Option.map_some, Option.some.injEq, id] at hy; subst hy
        have e3 : ¬ a.tdiv 8 = (i : Int) := by omega
        simp [hs, e3]
  · rcases List.mem_append.1 hp with hp | hp
    · exact h.place p hp
    · simp only [List.mem_singleton] at hp; subst hp
      exact ⟨h0, by show a < (R.first.length : Int); rw [h.first]; exact h1⟩
theorem rel_flush {L : LinesM} {R : RefM} {n : Nat} (hG : LGood L n) (h : RelR L R) (t a : Int) (h0 : 0 ≤ a) (h1 : a < (L.first.length : Int)) : RelR (flushM L t a) (r5flushM R t a) := by
  obtain ⟨p1, p2⟩ := flush_first L t a
  have hm := hG.lines.many
  obtain ⟨y, hy⟩ : ∃ y, L.logs[a.toNat / 8]? = some y := ⟨_, List.getElem?_eq_getElem (by omega)⟩
  have e0 : a.tdiv 8 = ((a.toNat / 8 : Nat) : Int) := by rw [Int.tdiv_eq_ediv_of_nonneg h0]; omega
  have hask : ∀ s k, askOf (flushM L t a) s k = if s = t ∧ k = ((a.toNat / 8 : Nat) : Int) then some (y.stores.length : Int) else askOf L s k := fun s k => by
    unfold flushM; rw [hy]
    by_cases hs : s = t
    · subst hs
      simp [askOf]
    · simp [askOf, hs]
  have hcnt : cntR R.puts (a.tdiv 8) R.puts.length = (y.stores.length : Int) := by rw [e0]; exact rel_log h hy
  have hold : ∀ s k m, askOf L s k = some m → s = t → k = ((a.toNat / 8 : Nat) : Int) → m ≤ (y.stores.length : Int) := fun s k m e _ e2 => by
    obtain ⟨i, y', rfl, g1, g2, g3⟩ := hG.asks.line s k m e
    have : i = a.toNat / 8 := by omega
    subst this
    rw [hy] at g1; cases g1; exact g3
  refine ⟨?_, ?_, ?_, fun s k m hm => ?_, fun b hb => ?_, h.place⟩
  · rw [p2]; exact h.first
  · rw [p1]; exact h.kept
  · rw [p1]; exact h.stores
  · rw [hask] at hm
    show _ ∈ R.asks ++ _
    by_cases hc : s = t ∧ k = ((a.toNat / 8 : Nat) : Int)
    · rw [if_pos hc] at hm; cases hm
      refine List.mem_append_right _ (List.mem_singleton.2 ?_)
      rw [hcnt, hc.1, e0, hc.2]
    · rw [if_neg hc] at hm
      exact List.mem_append_left _ (h.asks s k m hm)
  · rw [hask]
    rcases List.mem_append.1 hb with hb | hb
    · obtain ⟨m, g1, g2⟩ := h.most b hb
      by_cases hc : b.thread = t ∧ b.line = ((a.toNat / 8 : Nat) : Int)
      · rw [if_pos hc]
        have := hold _ _ _ g1 hc.1 hc.2
        exact ⟨_, rfl, by omega⟩
      · rw [if_neg hc]; exact ⟨m, g1, g2⟩
    · simp only [List.mem_singleton] at hb; subst hb
      rw [if_pos ⟨rfl, e0⟩]
      exact ⟨_, rfl, by show cntR _ _ _ ≤ _; rw [hcnt]; exact Int.le_refl _⟩
theorem rel_sync {L : LinesM} {R : RefM} {n : Nat} (hG : LGood L n) (h : RelR L R) (t : Int) : RelR (syncM L t) (r5syncM R t) := by
  have hask : ∀ s k, askOf (syncM L t) s k = if s = t then none else askOf L s k := fun s k => by
    by_cases hs : s = t <;> simp [askOf, syncM, hs]
  have hline : ∀ a ∈ R.asks, 0 ≤ a.line := fun a ha => by
    obtain ⟨m, g1, _⟩ := h.most a ha
    obtain ⟨i, _, e, _⟩ := hG.asks.line _ _ _ g1
    omega
  refine ⟨h.first, ?_, fun i y hy => ?_, fun s k m hm => ?_, fun b hb => ?_, h.place⟩
  · show R.asks.foldl (askStep t) R.kept = _
    refine List.ext_getElem? fun i => ?_
    simp only [syncM, List.getElem?_map, List.getElem?_mapIdx]
    cases e : L.logs[i]? with
    | none =>
      have : L.logs.length ≤ i := by simpa using e
      simp only [Option.map_none]
      rw [List.getElem?_eq_none]
      rw [foldl_askStep_len, h.kept, List.length_map]; exact this
    | some y =>
      obtain ⟨v', g1, g2, g3, g4⟩ := foldl_askStep t R.asks R.kept hline i y.kept (by rw [h.kept, List.getElem?_map, e]; rfl)
      rw [g1]
      simp only [Option.map_some, syncLog]
      cases ea : askOf L t (i : Int) with
      | none =>
        rcases g4 with rfl | ⟨a, ha, e1, e2, e3⟩
        · rfl
        · obtain ⟨m, f1, _⟩ := h.most a ha
          rw [e1, e2, ea] at f1; cases f1
      | some m =>
        have l1 := g3 _ (h.asks t i m ea) rfl rfl
        simp only at l1
        rcases g4 with rfl | ⟨a, ha, e1, e2, e3⟩
        · simp only [Option.some.injEq]; omega
        · obtain ⟨m', f1, f2⟩ := h.most a ha
          rw [e1, e2, ea] at f1; cases f1
          simp only [Option.some.injEq]; omega
  · simp only [syncM, List.getElem?_mapIdx] at hy
    cases e : L.logs[i]? with
    | none => rw [e] at hy; simp at hy
    | some y0 =>
      rw [e] at hy
      simp only [Option.map_some, Option.some.injEq] at hy
      rw [show (r5syncM R t).puts = R.puts from rfl, ← h.stores i y0 e, ← hy]
      unfold syncLog; split <;> rfl
  · rw [hask] at hm
    by_cases hs : s = t
    · rw [if_pos hs] at hm; cases hm
    · rw [if_neg hs] at hm
      exact List.mem_filter.2 ⟨h.asks s k m hm, by simpa using hs⟩
  · obtain ⟨b1, b2⟩ := List.mem_filter.1 hb
    obtain ⟨m, g1, g2⟩ := h.most b b1
    rw [hask, if_neg (by simpa using b2)]
    exact ⟨m, g1, g2⟩

/-- An operation of the law with the reference. -/
def meantM (R : RefM) (a : ActV) : RefM × Int :=
  if a.kind % 3 = 0 then (if 0 ≤ a.place ∧ a.place < (R.first.length : Int) then (r5storeM R a.place a.word, 0) else (R, 1))
  else if a.kind % 3 = 1 then (if ¬ (1 ≤ a.thread ∧ a.thread ≤ 8) then (R, 3) else if ¬ (0 ≤ a.place ∧ a.place < (R.first.length : Int)) then (R, 1) else (r5flushM R a.thread a.place, 0))
  else (if 1 ≤ a.thread ∧ a.thread ≤ 8 then (r5syncM R a.thread, 0) else (R, 3))
theorem rel_done {L : LinesM} {R : RefM} {n : Nat} (hG : LGood L n) (h : RelR L R) (a : ActV) : RelR (doneM L a).1 (meantM R a).1 ∧ (doneM L a).2 = (meantM R a).2 := by
  have e := h.first
  unfold doneM meantM
  rw [e]
  split
  · split
    · rename_i hp; exact ⟨rel_store h _ _ hp.1 hp.2, rfl⟩
    · exact ⟨h, rfl⟩
  · split
    · split
      · exact ⟨h, rfl⟩
      · split
        · exact ⟨h, rfl⟩
        · rename_i hp
          have hp := Decidable.not_not.1 hp
          exact ⟨rel_flush hG h _ _ hp.1 hp.2, rfl⟩
    · split
      · exact ⟨rel_sync hG h _, rfl⟩
      · exact ⟨h, rfl⟩
end Go.Proofs.Ytlbhfpcbbembgaa

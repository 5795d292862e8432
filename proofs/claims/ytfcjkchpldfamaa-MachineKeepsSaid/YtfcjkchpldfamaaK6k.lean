/-
  Layer 6, plain laws: what survives a crash.
-/
import Derived.Test.YtfcjkchpldfamaaK6g
namespace Go.Proofs.Ytfcjkchpldfamaa
set_option linter.unusedSimpArgs false
set_option linter.unusedVariables false
open Go.RowKit Go.Maps

def lastAt (l : List StoreV) (a : Int) (w : WordV) : WordV := l.foldl (fun w s => if s.loc = a then s.word else w) w
def stOf (L : LinesM) (k : Nat) : List StoreV := ((L.logs[k]?).map LogV.stores).getD []
def kpOf (L : LinesM) (k : Nat) : Int := ((L.logs[k]?).map LogV.kept).getD 0
theorem lastAt_app (l : List StoreV) (s : StoreV) (a : Int) (w : WordV) : lastAt (l ++ [s]) a w = if s.loc = a then s.word else lastAt l a w := by
  unfold lastAt; rw [List.foldl_append]; rfl
theorem lastAt_no : ∀ (l : List StoreV) (a : Int) (w : WordV), (∀ s ∈ l, s.loc ≠ a) → lastAt l a w = w
  | [], _, _, _ => rfl
  | s :: l, a, w, h => by
    show lastAt l a (if s.loc = a then s.word else w) = w
    rw [if_neg (h s (List.mem_cons_self ..))]
    exact lastAt_no l a w fun t ht => h t (List.mem_cons_of_mem _ ht)
theorem foldl_get : ∀ (l : List StoreV) (out : List WordV) (a : Nat) (w : WordV), (∀ s ∈ l, 0 ≤ s.loc) → out[a]? = some w → (l.foldl putS out)[a]? = some (lastAt l a w)
  | [], _, _, _, _, h => h
  | s :: l, out, a, w, hs, h => by
    have h0 := hs s (List.mem_cons_self ..)
    refine foldl_get l (putS out s) a (if s.loc = (a : Int) then s.word else w) (fun t ht => hs t (List.mem_cons_of_mem _ ht)) ?_
    unfold putS
    rw [List.getElem?_set]
    by_cases e : s.loc = (a : Int)
    · have hl := (List.getElem?_eq_some_iff.1 h).1
      rw [if_pos (by omega), if_pos (by omega), if_pos e]
    · rw [if_neg (by omega), if_neg e, h]
theorem lefN_get {L : LinesM} (hL : LinesOk L) (more : Int → Int → Int) {a : Nat} {w : WordV} (ha : L.first[a]? = some w) : ∀ n, n ≤ L.logs.length →
    (lefN L more n)[a]? = some (if a / 8 < n then lastAt ((stOf L (a / 8)).take (kpOf L (a / 8) + more ((a / 8 : Nat) : Int) ((stOf L (a / 8)).length - kpOf L (a / 8))).toNat) a w else w)
  | 0, _ => ha
  | n + 1, hn => by
    have ih := lefN_get hL more ha n (by omega)
    obtain ⟨y, hy⟩ : ∃ y, L.logs[n]? = some y := ⟨_, List.getElem?_eq_getElem (by omega)⟩
    have hp := hL.place n y hy
    unfold lefN
    rw [hy]
    simp only
    have hmem : ∀ s ∈ y.stores.take (y.kept + more n (y.stores.length - y.kept)).toNat, s ∈ y.stores := fun s hs => List.mem_of_mem_take hs
    rw [foldl_get _ _ a _ (fun s hs => (hp s (hmem s hs)).1) ih]
    congr 1
    by_cases h1 : a / 8 = n
    · have e1 : stOf L (a / 8) = y.stores := by unfold stOf; rw [h1, hy]; rfl
      have e2 : kpOf L (a / 8) = y.kept := by unfold kpOf; rw [h1, hy]; rfl
      rw [if_neg (by omega), if_pos (by omega), e1, e2, h1]
    · rw [lastAt_no _ _ _ fun s hs e => by have := hp s (hmem s hs); omega]
      by_cases h2 : a / 8 < n
      · rw [if_pos h2, if_pos (by omega)]
      · rw [if_neg h2, if_neg (by omega)]
theorem left_get {L : LinesM} (hL : LinesOk L) (more : Int → Int → Int) {a : Nat} {w : WordV} (ha : L.first[a]? = some w) :
    (leftM L more)[a]? = some (lastAt ((stOf L (a / 8)).take (kpOf L (a / 8) + more ((a / 8 : Nat) : Int) ((stOf L (a / 8)).length - kpOf L (a / 8))).toNat) a w) := by
  have := lefN_get hL more ha L.logs.length (Nat.le_refl _)
  rw [if_pos (by have := hL.many; have := (List.getElem?_eq_some_iff.1 ha).1; omega)] at this
  exact this

/-- The memory's newest words are what all stores leave. -/
def Tells (M : MachM) : Prop := ∀ (a : Nat) (w : WordV), M.lines.first[a]? = some w → lastWM M.mem (a : Int) = lastAt (stOf M.lines (a / 8)) a w
theorem stOf_store {L : LinesM} {n : Nat} (hL : LGood L n) {p : Nat} (hp : p < L.first.length) (v : WordV) (k : Nat) : stOf (storeM L p v) k = if k = p / 8 then stOf L k ++ [⟨p, v⟩] else stOf L k := by
  have hm := hL.lines.many
  unfold stOf storeM
  simp only [List.getElem?_modify, Int.toNat_natCast]
  by_cases e : p / 8 = k
  · subst e
    obtain ⟨y, hy⟩ : ∃ y, L.logs[p / 8]? = some y := ⟨_, List.getElem?_eq_getElem (by omega)⟩
    rw [hy, if_pos rfl]
    simp
  · simp only [if_neg e, if_neg (fun h => e (Eq.symm h))]
    cases L.logs[k]? <;> rfl
theorem kpOf_store (L : LinesM) (p : Int) (v : WordV) (k : Nat) : kpOf (storeM L p v) k = kpOf L k := by
  unfold kpOf storeM
  simp only [List.getElem?_modify]
  cases h : L.logs[k]? with
  | none => simp
  | some y => simp only [Option.map_eq_map, Option.map_some]; split <;> rfl
theorem stOf_flush (L : LinesM) (t a : Int) (k : Nat) : stOf (flushM L t a) k = stOf L k := by unfold flushM; split <;> rfl
theorem kpOf_flush (L : LinesM) (t a : Int) (k : Nat) : kpOf (flushM L t a) k = kpOf L k := by unfold flushM; split <;> rfl
theorem stOf_sync (L : LinesM) (t : Int) (k : Nat) : stOf (syncM L t) k = stOf L k := by
  unfold stOf syncM
  simp only [List.getElem?_mapIdx]
  cases h : L.logs[k]? with
  | none => rfl
  | some y => simp only [Option.map_some, Option.getD_some]; unfold syncLog; split <;> rfl
theorem tells_new {k : Int} {ws : List WordV} (h : (mnewM k ws).2 = 0) (st : List Int) (c : Int) : Tells ⟨(mnewM k ws).1, newM ws, st, c⟩ := by
  intro a w hw
  have hw : ws[a]? = some w := hw
  have e : stOf (newM ws) (a / 8) = [] := by
    unfold stOf newM
    simp only [List.getElem?_replicate]
    split <;> rfl
  show lastWM (mnewM k ws).1 a = lastAt (stOf (newM ws) (a / 8)) a w
  rw [e]
  have := words_new h
  have hl := (List.getElem?_eq_some_iff.1 hw).1
  have e2 : (wordsM (cnewM k ws).1)[a]? = some w := by rw [this]; exact hw
  unfold cnewM at e2
  rw [if_pos h] at e2
  unfold wordsM at e2
  rw [List.getElem?_map] at e2
  cases h3 : (List.range (mnewM k ws).1.places.length)[a]? with
  | none => rw [h3] at e2; cases e2
  | some b =>
    have hb : b = a := by
      have := List.getElem?_eq_some_iff.1 h3
      obtain ⟨_, hb⟩ := this
      rw [List.getElem_range] at hb; omega
    rw [h3, hb] at e2
    simp only [Option.map_some, Option.some.injEq] at e2
    exact e2
theorem last_adds {M : MemM} {a : Int} (ha : PlcB M a) (t : Int) (w : WordV) (b : Bool) (p : Int) : lastWM (addsM M t a w b) p = if p = a then w else lastWM M p := by
  unfold lastWM
  rw [hist_adds ha]
  split
  · rw [last_app]
  · rfl
theorem tells_store {M : MachM} {n : Nat} (hM : MachOk M n) (hT : Tells M) {M' : MemM} {p : Int} {v : WordV} (hp : PlcB M.mem p) (h : ∀ q, lastWM M' q = if q = p then v else lastWM M.mem q) (st : List Int) (c : Int) : Tells ⟨M', storeM M.lines p v, st, c⟩ := by
  intro a w hw
  have hw : M.lines.first[a]? = some w := hw
  obtain ⟨q, rfl⟩ := Int.eq_ofNat_of_zero_le hp.1
  have hq : q < M.lines.first.length := by rw [hM.size]; have := hp.2; omega
  show lastWM M' a = lastAt (stOf (storeM M.lines q v) (a / 8)) a w
  rw [h, stOf_store hM.lines hq, hT a w hw]
  by_cases e : a = q
  · subst e
    rw [if_pos rfl, if_pos rfl, lastAt_app, if_pos rfl]
  · rw [if_neg (by omega)]
    by_cases e2 : a / 8 = q / 8
    · rw [if_pos e2, lastAt_app, if_neg (by show ¬ (q : Int) = a; omega)]
    · rw [if_neg e2]
theorem tells_lines {M : MachM} (hT : Tells M) {M' : MemM} {L : LinesM} (h : ∀ q, lastWM M' q = lastWM M.mem q) (h1 : L.first = M.lines.first) (h2 : ∀ k, stOf L k = stOf M.lines k) (st : List Int) (c : Int) : Tells ⟨M', L, st, c⟩ := by
  intro a w hw
  show lastWM M' a = lastAt (stOf L (a / 8)) a w
  rw [h, h2]
  exact hT a w (by rw [← h1]; exact hw)
theorem last_load (M : MemM) (t a : Int) (q : Bool) (c : Int) (p : Int) : lastWM (loadM M t a q c).1 p = lastWM M p := by
  unfold loadM; split <;> rfl
theorem tells_act {M : MachM} {n : Nat} (hM : MachOk M n) (hT : Tells M) {t : Int} {a : ActM} (c : Int) (h : checkM M t a = 0) : Tells (actM M t a c).1 := by
  obtain ⟨ht, hop, hpl⟩ := check_zero h
  unfold actM
  split
  · rename_i hc
    have hch : a.op = 3 ∨ a.op = 4 ∨ a.op = 6 := by simp [changesB] at hc; omega
    have hp := hpl (by omega) (by omega)
    unfold writeM
    split
    · by_cases ho : weq (lastWM M.mem a.place) a.old = true
      · obtain ⟨s1, s2, _⟩ := swap_yes hM.mem hM.into ht hp ho (w := a.new)
        rw [s1]
        simp only [if_true]
        refine tells_store hM hT hp (fun q => ?_) _ _
        have hs : mswapM M.mem t a.place a.old a.new = (addsM (look1M M.mem t a.place).1 t a.place a.new true, (look1M M.mem t a.place).2.1, true, 0) := by
          unfold mswapM
          rw [if_pos ⟨wrong_zero.2 ⟨ht, hp⟩, by rw [look_word ht hp]; exact ho⟩]
        rw [hs]
        show lastWM (addsM (look1M M.mem t a.place).1 t a.place a.new true) q = _
        rw [last_adds (plc_look.2 hp), lastW_look]
      · have := swap_no ht hp ho (w := a.new)
        rw [this]
        simp only [Bool.false_eq_true, if_false]
        exact tells_lines hT (fun q => lastW_look _ _ _ _) rfl (fun k => rfl) _ _
    · refine tells_store hM hT hp (fun q => ?_) _ _
      unfold mstoreM
      rw [if_pos (wrong_zero.2 ⟨ht, hp⟩)]
      exact last_adds hp _ _ _ _
  · split
    · exact tells_lines hT (fun q => rfl) (first_flush _ _ _) (stOf_flush _ _ _) _ _
    · split
      · exact tells_lines hT (fun q => rfl) (first_sync _ _) (stOf_sync _ _) _ _
      · split
        · exact hT
        · unfold readM
          split
          · exact tells_lines hT (fun q => lastW_look _ _ _ _) rfl (fun k => rfl) _ _
          · exact tells_lines hT (fun q => last_load _ _ _ _ _ _) rfl (fun k => rfl) _ _
theorem tells_do {M : MachM} {n : Nat} (hM : MachOk M n) (hT : Tells M) (t : Int) (a : ActM) (c : Int) : Tells (doM M t a c).1 := by
  unfold doM
  split
  · rename_i h; exact tells_act hM hT c h
  · exact hT
theorem tells_crash {M : MachM} {n : Nat} (hM : MachOk M n) (hT : Tells M) (c : Int) : Tells (crashM M c) := by
  unfold crashM
  split
  · exact hT
  · rename_i h; exact tells_new (crash_new hM c h) _ _
theorem tells_run {M : MachM} {n : Nat} (hM : MachOk M n) (hT : Tells M) (ds : List DeedV) : ∀ i, Tells (runD M ds i)
  | 0 => hT
  | i + 1 => by
    have ih := tells_run hM hT ds i
    unfold runD
    split
    · rename_i d _
      unfold deedM
      split
      · exact tells_crash (machOk_run hM ds i) ih _
      · exact tells_do (machOk_run hM ds i) ih _ _ _
    · exact ih
theorem tells_made {k : Int} {ws : List WordV} {ds : List DeedV} (h : (madeM k ws ds).2 = true) : Tells (madeM k ws ds).1 := by
  unfold madeM at h ⊢
  split at h
  · rename_i h1
    rw [if_pos h1]
    have h0 : (mnewM k ws).2 = 0 := by
      have := h1.1
      unfold cnewM at this
      split at this
      · assumption
      · rename_i h2; exact absurd this h2
    refine tells_run (machOk_new k ws) ?_ ds _
    unfold cnewM
    rw [if_pos h0]
    exact tells_new h0 _ _
  · cases h
theorem left_all {M : MachM} {n : Nat} (hM : MachOk M n) (hT : Tells M) : leftM M.lines (mixF (-2)) = wordsM M := by
  refine List.ext_getElem? fun a => ?_
  by_cases ha : a < M.lines.first.length
  · have hw := List.getElem?_eq_getElem ha
    generalize M.lines.first[a] = w at hw
    rw [left_get hM.lines.lines _ hw]
    have hr : (wordsM M)[a]? = some (lastWM M.mem a) := by
      unfold wordsM
      rw [List.getElem?_map, List.getElem?_range (by rw [← hM.size]; exact ha)]; rfl
    rw [hr, hT a w hw]
    congr 2
    refine List.take_of_length_le ?_
    have hk : 0 ≤ kpOf M.lines (a / 8) ∧ kpOf M.lines (a / 8) ≤ ((stOf M.lines (a / 8)).length : Int) := by
      unfold kpOf stOf
      cases h : M.lines.logs[a / 8]? with
      | none => simp
      | some y => exact hM.lines.lines.kept y (List.mem_of_getElem? h)
    have : mixF (-2) ((a / 8 : Nat) : Int) (((stOf M.lines (a / 8)).length : Int) - kpOf M.lines (a / 8)) = ((stOf M.lines (a / 8)).length : Int) - kpOf M.lines (a / 8) := by
      unfold mixF
      rw [if_neg (by omega), if_pos (by omega)]
    rw [this]; omega
  · rw [List.getElem?_eq_none (by rw [left_len]; omega), List.getElem?_eq_none (by rw [words_len, ← hM.size]; omega)]
theorem mix_least : mixF (-1) = fun _ _ => 0 := by
  funext i m
  unfold mixF
  rw [if_pos (.inr (.inr rfl))]

/-! ### A word that was stored, flushed and synced -/
theorem kept_word {L : LinesM} {n : Nat} (hL : LGood L n) {p : Nat} (hp : p < L.first.length) (v : WordV) (hG : LGood (syncM (flushM (storeM L p v) 1 p) 1) (n + 1)) (c : Int) : (leftM (syncM (flushM (storeM L p v) 1 p) 1) (mixF c))[p]? = some v := by
  obtain ⟨w, hw⟩ : ∃ w, L.first[p]? = some w := ⟨_, List.getElem?_eq_getElem hp⟩
  have hw' : (syncM (flushM (storeM L p v) 1 p) 1).first[p]? = some w := by rw [first_sync, first_flush]; exact hw
  rw [left_get hG.lines _ hw', stOf_sync, stOf_flush, stOf_store hL hp, if_pos rfl]
  have hm := hL.lines.many
  obtain ⟨y, hy⟩ : ∃ y, L.logs[p / 8]? = some y := ⟨_, List.getElem?_eq_getElem (by omega)⟩
  have hst : stOf L (p / 8) = y.stores := by unfold stOf; rw [hy]; rfl
  have hky := hL.lines.kept y (List.mem_of_getElem? hy)
  have hlog : (storeM L p v).logs[p / 8]? = some { y with stores := y.stores ++ [⟨p, v⟩] } := by
    unfold storeM
    simp only [List.getElem?_modify, Int.toNat_natCast, if_true, hy, Option.map_eq_map, Option.map_some]
  have hkp : kpOf (syncM (flushM (storeM L p v) 1 p) 1) (p / 8) = ((y.stores.length : Int) + 1) := by
    have hf : flushM (storeM L p v) 1 p = { storeM L p v with asks := fun s => if s = 1 then some (fun k => if k = ((p / 8 : Nat) : Int) then some ((y.stores.length : Int) + 1) else askOf (storeM L p v) 1 k) else (storeM L p v).asks s } := by
      unfold flushM
      simp only [Int.toNat_natCast, hlog, List.length_append, List.length_cons, List.length_nil]
      rfl
    unfold kpOf syncM
    simp only [List.getElem?_mapIdx]
    rw [hf]
    simp only [hlog, Option.map_some, Option.getD_some]
    unfold syncLog askOf
    simp only [if_true, Option.getD_some]
    show max y.kept _ = _
    omega
  rw [hkp, hst]
  have h0 := mixF_le c ((p / 8 : Nat) : Int) (((y.stores ++ [(⟨p, v⟩ : StoreV)]).length : Int) - ((y.stores.length : Int) + 1))
  have hlen : ((y.stores ++ [(⟨p, v⟩ : StoreV)]).length : Int) = (y.stores.length : Int) + 1 := by simp
  rw [List.take_of_length_le (by omega), lastAt_app, if_pos rfl]
end Go.Proofs.Ytfcjkchpldfamaa

/-
  Layer 6, plain laws: sizes, what is read and what is written.
-/
import Derived.Test.YtfcjkchpldfamaaK6d
namespace Go.Proofs.Ytfcjkchpldfamaa
set_option linter.unusedSimpArgs false
set_option linter.unusedVariables false
open Go.RowKit Go.Maps

theorem size_do {M : MachM} {n : Nat} (hM : MachOk M n) (t : Int) (a : ActM) (c : Int) : (doM M t a c).1.mem.views.length = M.mem.views.length ∧ (doM M t a c).1.mem.places.length = M.mem.places.length := by
  unfold doM
  split
  · rename_i h
    obtain ⟨_, _, h1, h2, _⟩ := machOk_act hM c h
    exact ⟨h1, h2⟩
  · exact ⟨rfl, rfl⟩
theorem size_crash {M : MachM} {n : Nat} (hM : MachOk M n) (c : Int) : (crashM M c).mem.views.length = M.mem.views.length ∧ (crashM M c).mem.places.length = M.mem.places.length := by
  unfold crashM
  split
  · exact ⟨rfl, rfl⟩
  · rename_i h
    obtain ⟨_, _, _, _, e⟩ := mnew_ok (crash_new hM c h)
    have h5 := left_len M.lines (mixF c)
    rw [hM.size] at h5
    simp only [e, List.length_replicate, List.length_map, h5, Int.toNat_natCast]
    exact ⟨trivial, trivial⟩
theorem size_run {M : MachM} {n : Nat} (hM : MachOk M n) (ds : List DeedV) : ∀ i, (runD M ds i).mem.views.length = M.mem.views.length ∧ (runD M ds i).mem.places.length = M.mem.places.length
  | 0 => ⟨rfl, rfl⟩
  | i + 1 => by
    have ih := size_run hM ds i
    unfold runD
    split
    · rename_i d _
      unfold deedM
      split
      · have := size_crash (machOk_run hM ds i) d.choice
        exact ⟨this.1.trans ih.1, this.2.trans ih.2⟩
      · have := size_do (machOk_run hM ds i) d.thread d.act d.choice
        exact ⟨this.1.trans ih.1, this.2.trans ih.2⟩
    · exact ih
theorem made_size {k : Int} {ws : List WordV} {ds : List DeedV} (h : (madeM k ws ds).2 = true) : (madeM k ws ds).1.mem.views.length = k.toNat ∧ (madeM k ws ds).1.mem.places.length = ws.length ∧ ws.length ≤ 20 := by
  unfold madeM at h ⊢
  split at h
  · rename_i h1
    rw [if_pos h1]
    have hs := size_run (machOk_new k ws) ds ds.length
    have h0 : (mnewM k ws).2 = 0 := by
      have := h1.1
      unfold cnewM at this
      split at this
      · assumption
      · rename_i h2; exact absurd this h2
    obtain ⟨_, _, _, _, e⟩ := mnew_ok h0
    have e2 : (cnewM k ws).1.mem = ⟨ws.map newP, List.replicate k.toNat fun _ => none⟩ := by unfold cnewM; rw [if_pos h0]; exact e
    rw [e2] at hs
    simp only [List.length_replicate, List.length_map] at hs
    exact ⟨hs.1, hs.2, (few_len h1.2).1⟩
  · cases h

theorem check_ok {M : MachM} {t : Int} {a : ActM} (ht : ThrB M.mem t) (h1 : 0 ≤ a.op ∧ a.op ≤ 8) (hp : a.op ≠ 0 → a.op ≠ 8 → PlcB M.mem a.place) : checkM M t a = 0 := by
  unfold checkM
  obtain ⟨t1, t2⟩ := ht
  rw [if_neg (by omega), if_neg (by omega), if_neg]
  rintro ⟨h2, h3, h4⟩
  obtain ⟨p1, p2⟩ := hp h2 h3
  omega
theorem choose_zero {n : Nat} (h : 0 < n) (f : Int) : chooseF n f 0 = (n : Int) - 1 := by
  unfold chooseF
  rw [if_neg (by omega), show max (0 : Int) 0 = 0 by omega, Int.zero_emod]; omega
theorem load_zero {M : MemM} {n : Nat} (h : MemOk M n) {t a : Int} (ht : ThrB M t) (ha : PlcB M a) (q : Bool) : (loadM M t a q 0).2 = (lastWM M a, 0) := by
  unfold loadM
  rw [if_pos (wrong_zero.2 ⟨ht, ha⟩), choose_zero (hist_pos h ha)]; rfl
theorem do_look {M : MachM} {t p : Int} (ht : ThrB M.mem t) (hp : PlcB M.mem p) (o w : WordV) (c : Int) : (doM M t ⟨5, p, o, w⟩ c).2 = (⟨lastWM M.mem p, true⟩, 0) := by
  unfold doM
  rw [if_pos (check_ok ht (by simp) fun _ _ => hp)]
  show ((actM M t ⟨5, p, o, w⟩ c).2, (0 : Int)) = _
  have : (actM M t ⟨5, p, o, w⟩ c).2 = ⟨(look1M M.mem t p).2.1, true⟩ := rfl
  rw [this, look_word ht hp]
theorem do_load {M : MachM} {n : Nat} (hM : MachOk M n) {t p : Int} (ht : ThrB M.mem t) (hp : PlcB M.mem p) (o w : WordV) : (doM M t ⟨1, p, o, w⟩ 0).2 = (⟨lastWM M.mem p, true⟩, 0) := by
  unfold doM
  rw [if_pos (check_ok ht (by simp) fun _ _ => hp)]
  show ((actM M t ⟨1, p, o, w⟩ 0).2, (0 : Int)) = _
  have : (actM M t ⟨1, p, o, w⟩ 0).2 = ⟨(loadM M.mem t p false 0).2.1, true⟩ := rfl
  rw [this, load_zero hM.mem ht hp]
theorem do_swap {M : MachM} {t p : Int} (ht : ThrB M.mem t) (hp : PlcB M.mem p) (o w : WordV) (c : Int) : (doM M t ⟨6, p, o, w⟩ c).2 = (⟨(mswapM M.mem t p o w).2.1, (mswapM M.mem t p o w).2.2.1⟩, 0) ∧ (doM M t ⟨6, p, o, w⟩ c).1.mem = (mswapM M.mem t p o w).1 := by
  unfold doM
  rw [if_pos (check_ok ht (by simp) fun _ _ => hp)]
  refine ⟨rfl, ?_⟩
  show (writeM M t ⟨6, p, o, w⟩).1.mem = _
  unfold writeM
  rw [if_pos rfl]
  simp only
  split <;> rfl
theorem do_store {M : MachM} {t p : Int} (ht : ThrB M.mem t) (hp : PlcB M.mem p) (o w : WordV) (c : Int) : (doM M t ⟨3, p, o, w⟩ c).2 = (⟨zWord, true⟩, 0) ∧ (doM M t ⟨3, p, o, w⟩ c).1.mem = (mstoreM M.mem t p w false).1 := by
  unfold doM
  rw [if_pos (check_ok ht (by simp) fun _ _ => hp)]
  exact ⟨rfl, rfl⟩
theorem plc_same {A B : MemM} (h : A.places.length = B.places.length) {p : Int} : PlcB A p ↔ PlcB B p := by unfold PlcB; rw [h]
theorem thr_same {A B : MemM} (h : A.views.length = B.views.length) {t : Int} : ThrB A t ↔ ThrB B t := by unfold ThrB; rw [h]
/-- A thread reads its own last store. -/
theorem own_store {M : MachM} {n : Nat} (hM : MachOk M n) {t p : Int} (ht : ThrB M.mem t) (hp : PlcB M.mem p) (o o2 w w2 : WordV) (c c2 : Int) : (doM (doM M t ⟨3, p, o, w⟩ c).1 t ⟨1, p, o2, w2⟩ c2).2 = (⟨w, true⟩, 0) := by
  obtain ⟨_, hm⟩ := do_store ht hp o w c
  have hz : (mstoreM M.mem t p w false).1 = addsM M.mem t p w false := by unfold mstoreM; rw [if_pos (wrong_zero.2 ⟨ht, hp⟩)]
  rw [hz] at hm
  have hs := size_do hM t ⟨3, p, o, w⟩ c
  generalize (doM M t ⟨3, p, o, w⟩ c).1 = S at hm hs
  have ht' := (thr_same hs.1).2 ht
  have hp' := (plc_same hs.2).2 hp
  unfold doM
  rw [if_pos (check_ok ht' (by simp) fun _ _ => hp')]
  show ((actM S t ⟨1, p, o2, w2⟩ c2).2, (0 : Int)) = _
  have e1 : (actM S t ⟨1, p, o2, w2⟩ c2).2 = ⟨(loadM S.mem t p false c2).2.1, true⟩ := rfl
  rw [e1]
  have hl := hist_pos hM.mem hp
  obtain ⟨_, p0, p1⟩ := plc_in hM.mem hp
  have v1 := hM.into.seen t p hp
  have e2 : histM S.mem p = histM M.mem p ++ [⟨w, t, toldM M.mem t p false⟩] := by rw [hm, hist_adds hp, if_pos rfl]
  have e3 : vGet (seenM S.mem t) p = (histM M.mem p).length := by
    rw [hm, seen_adds ht, if_pos rfl, vGet_with _ _ _ _ p0 p1, if_pos rfl]; omega
  unfold loadM
  rw [if_pos (wrong_zero.2 ⟨ht', hp'⟩)]
  have e4 : chooseF (histM S.mem p).length (vGet (seenM S.mem t) p) c2 = (histM M.mem p).length := by
    rw [e3, e2]
    unfold chooseF
    rw [if_neg (by simp)]
    have : ((histM M.mem p ++ [(⟨w, t, toldM M.mem t p false⟩ : MsgV)]).length : Int) = (histM M.mem p).length + 1 := by simp
    rw [this, show ((histM M.mem p).length : Int) + 1 - 1 - max 0 (min ((histM M.mem p).length : Int) ((histM M.mem p).length + 1 - 1)) + 1 = 1 by omega, Int.emod_one]; omega
  rw [e4]
  show (⟨(atM (histM S.mem p) _).word, true⟩, (0 : Int)) = ((⟨w, true⟩, 0) : GotV × Int)
  rw [e2, at_app, if_pos rfl]
end Go.Proofs.Ytfcjkchpldfamaa

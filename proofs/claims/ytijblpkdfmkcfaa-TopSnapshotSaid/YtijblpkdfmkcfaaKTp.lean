/-
  TopSnapshot, plain: what the law's loop keeps.
-/
import Derived.Test.YtijblpkdfmkcfaaKTo
namespace Go.Proofs.Ytijblpkdfmkcfaa
set_option linter.unusedSimpArgs false
set_option linter.unusedVariables false
open Go.RowKit Go.Maps

structure TsV where
  s : SnM
  now : List Int
  vers : List Int
  wo : Int → Option (List Int)
  si : Int → Option Int
structure TsI (n : Nat) (v : TsV) : Prop where
  ok : SnOk v.s
  c5 : v.s.cells = 5
  nw : v.s.now ≤ n
  len : ∀ x, (listM v.s x).length ≤ n + 1
  l1 : v.now.length = 5
  l2 : v.vers.length = 5
  cur : ∀ (c : Nat) a, v.now[c]? = some a → (lastP (listM v.s c)).2 = a
  ver : ∀ (c : Nat) b, v.vers[c]? = some b → (v.s.writes c).getD 0 = b ∧ 0 ≤ b ∧ b ≤ n
  wok : ∀ r w, v.wo r = some w → ∃ (i : Nat) (x : Int), r = ((i + 1 : Nat) : Int) ∧ i < 8 ∧ v.s.rd[i]? = some (true, x) ∧ 0 ≤ x ∧ x ≤ v.s.now ∧ w.length = 5 ∧ ∀ (c : Nat) a, w[c]? = some a → atV (listM v.s c) x = some a
  rok : ∀ (i : Nat) x, v.s.rd[i]? = some (true, x) → v.wo ((i + 1 : Nat) : Int) ≠ none
  sok : ∀ r, v.si r = none ↔ v.wo r = none
  sab : ∀ (i : Nat) x m, v.s.rd[i]? = some (true, x) → v.si ((i + 1 : Nat) : Int) = some m → (abTo v.s x 5 : Int) ≤ m ∧ 0 ≤ m ∧ m ≤ 2 * n
theorem TsI.mono {n : Nat} {v : TsV} (h : TsI n v) : TsI (n + 1) v :=
  { h with
    nw := by have := h.nw; omega
    len := fun x => by have := h.len x; omega
    ver := fun c b hb => by obtain ⟨a, b, c⟩ := h.ver c b hb; exact ⟨a, b, by omega⟩
    sab := fun i x m a b => by obtain ⟨p, q, r⟩ := h.sab i x m a b; exact ⟨p, q, by omega⟩ }
theorem TsI.cell {n : Nat} {v : TsV} (h : TsI n v) {c : Nat} (hc : c < 5) : inC v.s c = true := inC_iff.2 (by rw [h.c5]; omega)
theorem TsI.at_ {n : Nat} {v : TsV} (h : TsI n v) {c : Nat} {a : Int} (ha : v.now[c]? = some a) : atV (listM v.s c) v.s.now = some a := by
  have hc := (List.getElem?_eq_some_iff.1 ha).1
  rw [h.l1] at hc
  rw [atV_last (h.ok.ne _ (h.cell hc)) (fun p hp => (h.ok.last _ p hp).2), h.cur c a ha]
theorem TsI.start : TsI 0 ⟨newM 5, List.replicate 5 0, List.replicate 5 0, fun _ => none, fun _ => none⟩ := by
  have hz : ∀ (c : Nat) a, (List.replicate 5 (0 : Int))[c]? = some a → a = 0 := fun c a h => by
    have := List.mem_of_getElem? h
    exact (List.mem_replicate.1 this).2
  refine ⟨SnOk.new (by decide) (by decide), rfl, Int.le_refl 0, fun x => ?_, rfl, rfl, fun c a ha => ?_, fun c b hb => ?_, fun r w h => (by cases h), fun i x h => ?_, fun r => ⟨fun _ => rfl, fun _ => rfl⟩, fun i x m _ h => (by cases h)⟩
  · rw [listM_new]; split <;> simp
  · rw [hz c a ha, listM_new]; split <;> rfl
  · rw [hz c b hb]; exact ⟨rfl, by decide, by decide⟩
  · have : (true, x) = (false, (0 : Int)) := (List.mem_replicate.1 (List.mem_of_getElem? h)).2
    cases this
theorem openS_mem {l : List (Bool × Int)} {i : Nat} {x : Int} (h : l[i]? = some (true, x)) : x ∈ openS l := by
  unfold openS
  exact List.mem_map.2 ⟨(true, x), List.mem_filter.2 ⟨List.mem_of_getElem? h, rfl⟩, rfl⟩
theorem openS_get {l : List (Bool × Int)} {x : Int} (h : x ∈ openS l) : ∃ i : Nat, l[i]? = some (true, x) := by
  unfold openS at h
  obtain ⟨⟨b, y⟩, hp, rfl⟩ := List.mem_map.1 h
  obtain ⟨h1, h2⟩ := List.mem_filter.1 hp
  obtain ⟨i, hi⟩ := List.getElem?_of_mem h1
  simp at h2; subst h2
  exact ⟨i, hi⟩
theorem TsI.trim {n : Nat} {v : TsV} (h : TsI n v) : TsI n { v with s := allM v.s } := by
  obtain ⟨o1, o2, o3, o4⟩ := all_ok h.ok
  have hl := listM_all h.ok
  have hw : (allM v.s).writes = v.s.writes := writes_cuts _ _ _
  have hc5 := h.c5
  refine ⟨o1, o4.trans h.c5, by rw [o3]; exact h.nw, fun x => ?_, h.l1, h.l2, fun c a ha => ?_, fun c b hb => ?_, fun r w hr => ?_, fun i x hi => ?_, h.sok, fun i x m hi hm => ?_⟩
  · show (listM (allM v.s) x).length ≤ _
    rw [hl]
    split
    · have := h.len x; unfold cutV; rw [List.length_drop]; omega
    · simp
  · have hc := (List.getElem?_eq_some_iff.1 ha).1
    rw [h.l1] at hc
    show (lastP (listM (allM v.s) c)).2 = a
    rw [hl, if_pos (h.cell hc), lastP_cut (h.ok.ne _ (h.cell hc))]
    exact h.cur c a ha
  · show ((allM v.s).writes c).getD 0 = b ∧ _
    rw [hw]; exact h.ver c b hb
  · obtain ⟨i, x, e, hi, hx, x0, x1, wl, hat⟩ := h.wok r w hr
    refine ⟨i, x, e, hi, by show (allM v.s).rd[i]? = _; rw [o2]; exact hx, x0, by show x ≤ (allM v.s).now; rw [o3]; exact x1, wl, fun c a ha => ?_⟩
    have hc := (List.getElem?_eq_some_iff.1 ha).1
    rw [wl] at hc
    show atV (listM (allM v.s) c) x = some a
    rw [hl, if_pos (h.cell hc), atV_cut]
    · exact hat c a ha
    · exact minL_le (List.mem_append.2 (.inl (openS_mem hx)))
  · have : (allM v.s).rd[i]? = some (true, x) := hi
    rw [o2] at this; exact h.rok i x this
  · have hi' : (allM v.s).rd[i]? = some (true, x) := hi
    rw [o2] at hi'
    obtain ⟨a, b, c⟩ := h.sab i x m hi' hm
    have := abTo_all h.ok x 5
    exact ⟨by show (abTo (allM v.s) x 5 : Int) ≤ m; omega, b, c⟩
/-- The number of versions that are kept. -/
theorem TsI.kept {n : Nat} {v : TsV} (h : TsI n v) {w : Nat} (hw : ∀ r m, v.si r = some m → m ≤ w) : keptTo (allM v.s) 2048 ≤ 5 + w := by
  obtain ⟨o1, o2, o3, o4⟩ := all_ok h.ok
  have e1 : keptTo (allM v.s) 2048 = keptTo (allM v.s) 5 := keptTo_5 (o4.trans h.c5) 2043
  have h1 := kept_all h.ok 5
  have h2 : (abTo v.s (eldM v.s) 5 : Int) ≤ w := by
    have hm : eldM v.s ∈ openS v.s.rd ++ [v.s.now] := minL_mem (by simp)
    rcases List.mem_append.1 hm with hm | hm
    · obtain ⟨i, hi⟩ := openS_get hm
      have hne := h.rok i _ hi
      cases hs : v.si ((i + 1 : Nat) : Int) with
      | none => exact absurd ((h.sok _).1 hs) hne
      | some m => have := (h.sab i _ m hi hs).1; have := hw _ m hs; omega
    · have : eldM v.s = v.s.now := by simpa using hm
      rw [this, abTo_now h.ok]; omega
  omega
def updO {α : Type} (f : Int → Option α) (r : Int) (o : Option α) (j : Int) : Option α := if j = r then o else f j
theorem TsI.open {n : Nat} {v : TsV} (h : TsI n v) {i : Nat} {x : Int} (hi : v.s.rd[i]? = some (false, x)) :
    v.wo ((i + 1 : Nat) : Int) = none ∧ TsI n { v with s := openM v.s i, wo := updO v.wo ((i + 1 : Nat) : Int) (some v.now), si := updO v.si ((i + 1 : Nat) : Int) (some 0) } := by
  have hi8 := (List.getElem?_eq_some_iff.1 hi).1
  have hr8 := h.ok.rd
  have hnow := h.ok.now
  have hset : ∀ j, (openM v.s i).rd[j]? = if i = j then some (true, v.s.now) else v.s.rd[j]? := fun j => by
    show (v.s.rd.set i (true, v.s.now))[j]? = _
    rw [List.getElem?_set]
    split
    · rename_i e; subst e; first | rfl | rw [if_pos hi8]
    · rfl
  refine ⟨?_, h.ok.open i, h.c5, h.nw, h.len, h.l1, h.l2, h.cur, h.ver, fun r w hr => ?_, fun j y hj => ?_, fun r => ?_, fun j y m hj hm => ?_⟩
  · cases hw : v.wo ((i + 1 : Nat) : Int) with
    | none => rfl
    | some w =>
      obtain ⟨j, y, e, _, hy, _⟩ := h.wok _ w hw
      have : j = i := by omega
      subst this
      rw [hi] at hy; cases hy
  · have hr' : updO v.wo ((i + 1 : Nat) : Int) (some v.now) r = some w := hr
    unfold updO at hr'
    by_cases e : r = ((i + 1 : Nat) : Int)
    · rw [if_pos e] at hr'
      cases hr'
      exact ⟨i, v.s.now, e, by omega, by rw [hset, if_pos rfl], hnow.1, Int.le_refl _, h.l1, fun c a ha => h.at_ ha⟩
    · rw [if_neg e] at hr'
      obtain ⟨j, y, e2, hj, hy, rest⟩ := h.wok r w hr'
      exact ⟨j, y, e2, hj, by rw [hset, if_neg (by omega)]; exact hy, rest⟩
  · rw [hset] at hj
    show updO v.wo ((i + 1 : Nat) : Int) (some v.now) ((j + 1 : Nat) : Int) ≠ none
    unfold updO
    by_cases e : i = j
    · subst e; rw [if_pos rfl]; simp
    · rw [if_neg e] at hj; rw [if_neg (by omega)]; exact h.rok j y hj
  · show updO v.si ((i + 1 : Nat) : Int) (some 0) r = none ↔ updO v.wo ((i + 1 : Nat) : Int) (some v.now) r = none
    unfold updO
    by_cases e : r = ((i + 1 : Nat) : Int)
    · rw [if_pos e, if_pos e]; simp
    · rw [if_neg e, if_neg e]; exact h.sok r
  · rw [hset] at hj
    have hm' : updO v.si ((i + 1 : Nat) : Int) (some 0) ((j + 1 : Nat) : Int) = some m := hm
    unfold updO at hm'
    by_cases e : i = j
    · subst e
      rw [if_pos rfl] at hj hm'
      cases hj; cases hm'
      refine ⟨?_, by omega, by omega⟩
      show (abTo v.s v.s.now 5 : Int) ≤ 0
      rw [abTo_now h.ok]; exact Int.le_refl 0
    · rw [if_neg e] at hj
      rw [if_neg (by omega)] at hm'
      exact h.sab j y m hj hm'
theorem TsI.close {n : Nat} {v : TsV} (h : TsI n v) {i : Nat} {x : Int} (hi : v.s.rd[i]? = some (true, x)) :
    TsI n { v with s := closeM v.s i (true, x), wo := updO v.wo ((i + 1 : Nat) : Int) none, si := updO v.si ((i + 1 : Nat) : Int) none } := by
  have hi8 := (List.getElem?_eq_some_iff.1 hi).1
  have hset : ∀ j, (closeM v.s i (true, x)).rd[j]? = if i = j then some (false, x) else v.s.rd[j]? := fun j => by
    show (v.s.rd.set i (false, x))[j]? = _
    rw [List.getElem?_set]
    split
    · rename_i e; subst e; first | rfl | rw [if_pos hi8]
    · rfl
  refine ⟨h.ok.close i _, h.c5, h.nw, h.len, h.l1, h.l2, h.cur, h.ver, fun r w hr => ?_, fun j y hj => ?_, fun r => ?_, fun j y m hj hm => ?_⟩
  · have hr' : updO v.wo ((i + 1 : Nat) : Int) none r = some w := hr
    unfold updO at hr'
    by_cases e : r = ((i + 1 : Nat) : Int)
    · rw [if_pos e] at hr'; cases hr'
    · rw [if_neg e] at hr'
      obtain ⟨j, y, e2, hj, hy, rest⟩ := h.wok r w hr'
      exact ⟨j, y, e2, hj, by rw [hset, if_neg (by omega)]; exact hy, rest⟩
  · rw [hset] at hj
    show updO v.wo ((i + 1 : Nat) : Int) none ((j + 1 : Nat) : Int) ≠ none
    unfold updO
    by_cases e : i = j
    · rw [if_pos e] at hj; cases hj
    · rw [if_neg e] at hj; rw [if_neg (by omega)]; exact h.rok j y hj
  · show updO v.si ((i + 1 : Nat) : Int) none r = none ↔ updO v.wo ((i + 1 : Nat) : Int) none r = none
    unfold updO
    by_cases e : r = ((i + 1 : Nat) : Int)
    · rw [if_pos e, if_pos e]; simp
    · rw [if_neg e, if_neg e]; exact h.sok r
  · rw [hset] at hj
    have hm' : updO v.si ((i + 1 : Nat) : Int) none ((j + 1 : Nat) : Int) = some m := hm
    unfold updO at hm'
    by_cases e : i = j
    · rw [if_pos e] at hj; cases hj
    · rw [if_neg e] at hj
      rw [if_neg (by omega)] at hm'
      exact h.sab j y m hj hm'
theorem TsI.commit {n : Nat} {v : TsV} (h : TsI n v) (hn : n ≤ 60) {es : List EnV} (hE : EnsAt v.s es) (he : es.length ≤ 2) {now' vers' : List Int} (l1 : now'.length = 5) (l2 : vers'.length = 5)
    (hc : ∀ (c : Nat) a, now'[c]? = some a → (lastP ((commL v.s es c).getD (listM v.s c))).2 = a)
    (hv : ∀ (c : Nat) b, vers'[c]? = some b → (wroB (commL v.s es) (commW es) v.s.writes (fun _ => false) c).getD 0 = b ∧ 0 ≤ b ∧ b ≤ n + 1) :
    TsI (n + 1) ⟨commitM v.s es, now', vers', v.wo, fun r => (v.si r).map (· + (es.length : Int))⟩ := by
  have hlc := listM_commit hE
  have h1 := h.nw
  have h2 := h.ok.now
  have hat : ∀ (c x : Int), x ≤ v.s.now → atV (listM (commitM v.s es) c) x = atV (listM v.s c) x := fun c x hx => by
    rw [hlc]
    cases hy : commL v.s es c with
    | none => rfl
    | some l => obtain ⟨e, _, _, rfl⟩ := commL_some hy; exact atV_snoc (by omega)
  have hlen : ∀ x, (listM (commitM v.s es) x).length ≤ (listM v.s x).length + 1 := fun x => by
    rw [hlc]
    cases hy : commL v.s es x with
    | none => simp
    | some l => obtain ⟨e, _, _, rfl⟩ := commL_some hy; simp
  refine ⟨h.ok.commit hE (by omega) (fun x => by have := h.len x; omega), h.c5, ?_, fun x => ?_, l1, l2, fun c a ha => ?_, fun c b hb => ?_, fun r w hr => ?_, h.rok, fun r => ?_, fun i x m hi hm => ?_⟩
  · show v.s.now + 1 ≤ _; omega
  · have a := hlen x; have b := h.len x
    show (listM (commitM v.s es) x).length ≤ _; omega
  · show (lastP (listM (commitM v.s es) c)).2 = a
    rw [hlc]; exact hc c a ha
  · exact hv c b hb
  · obtain ⟨i, x, e, hi, hx, x0, x1, wl, hw⟩ := h.wok r w hr
    refine ⟨i, x, e, hi, hx, x0, by show x ≤ v.s.now + 1; omega, wl, fun c a ha => ?_⟩
    show atV (listM (commitM v.s es) c) x = some a
    rw [hat c x x1]; exact hw c a ha
  · show (v.si r).map (· + (es.length : Int)) = none ↔ v.wo r = none
    rw [Option.map_eq_none_iff]; exact h.sok r
  · have hm' : (v.si ((i + 1 : Nat) : Int)).map (· + (es.length : Int)) = some m := hm
    obtain ⟨m0, h0, rfl⟩ := Option.map_eq_some_iff.1 hm'
    obtain ⟨a, b, c⟩ := h.sab i x m0 hi h0
    have := abTo_commit' hE x 5
    refine ⟨?_, by omega, by omega⟩
    show (abTo (commitM v.s es) x 5 : Int) ≤ _
    omega
end Go.Proofs.Ytijblpkdfmkcfaa

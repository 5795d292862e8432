/-
  TopSnapshot, plain: versions at a stamp, cuts, counts.
-/
import Derived.Test.YtijblpkdfmkcfaaKTn
namespace Go.Proofs.Ytijblpkdfmkcfaa
set_option linter.unusedSimpArgs false
set_option linter.unusedVariables false
open Go.RowKit Go.Maps

/-! ### What a stamp finds -/
theorem afterN_lo {l : List (Int × Int)} {t : Int} : ∀ {j : Nat} {p}, j < afterN l t → l[j]? = some p → p.1 ≤ t := by
  unfold afterN
  induction l with
  | nil => intro j p h; simp at h
  | cons q l ih =>
    intro j p h hp
    by_cases hq : q.1 ≤ t
    · rw [List.takeWhile_cons_of_pos (by simpa using hq), List.length_cons] at h
      cases j with
      | zero => simp at hp; subst hp; exact hq
      | succ j => exact ih (j := j) (by omega) (by simpa using hp)
    · rw [List.takeWhile_cons_of_neg (by simpa using hq)] at h; simp at h
theorem afterN_hi {l : List (Int × Int)} {t : Int} : ∀ {p}, l[afterN l t]? = some p → t < p.1 := by
  unfold afterN
  induction l with
  | nil => intro p h; simp at h
  | cons q l ih =>
    intro p hp
    by_cases hq : q.1 ≤ t
    · rw [List.takeWhile_cons_of_pos (by simpa using hq), List.length_cons] at hp
      exact ih (by simpa using hp)
    · rw [List.takeWhile_cons_of_neg (by simpa using hq)] at hp
      simp at hp; subst hp; omega
theorem afterN_mono {l : List (Int × Int)} {t x : Int} (h : t ≤ x) : afterN l t ≤ afterN l x := by
  rcases Nat.lt_or_ge (afterN l x) (afterN l t) with q | q
  · have hlt : afterN l x < l.length := by have := afterN_le l t; omega
    have h1 := afterN_lo q (List.getElem?_eq_getElem hlt)
    have h2 := afterN_hi (List.getElem?_eq_getElem hlt)
    omega
  · exact q
theorem atV_last {l : List (Int × Int)} (h : l ≠ []) {t : Int} (ht : ∀ p ∈ l, p.1 ≤ t) : atV l t = some (lastP l).2 := by
  have h0 := List.length_pos_iff.2 h
  have e1 : afterN l t = l.length := afterN_eq (Nat.le_refl _) (fun j p _ hp => ht p (List.mem_of_getElem? hp)) (fun p hp => by rw [List.getElem?_eq_none (Nat.le_refl _)] at hp; cases hp)
  have h1 := List.getElem?_eq_getElem (l := l) (show l.length - 1 < l.length by omega)
  unfold atV
  rw [e1, if_neg (by omega), h1, lastP_get h1]; rfl
theorem atV_snoc {l : List (Int × Int)} {t v x : Int} (h : x < t) : atV (l ++ [(t, v)]) x = atV l x := by
  have hle := afterN_le l x
  have e1 : afterN (l ++ [(t, v)]) x = afterN l x := by
    refine afterN_eq (by rw [List.length_append]; omega) (fun j p hj hp => ?_) (fun p hp => ?_)
    · rw [List.getElem?_append_left (by omega)] at hp; exact afterN_lo hj hp
    · rcases Nat.lt_or_ge (afterN l x) l.length with q | q
      · rw [List.getElem?_append_left q] at hp; exact afterN_hi hp
      · rw [List.getElem?_append_right q, show afterN l x - l.length = 0 by omega] at hp
        cases hp; exact h
  unfold atV
  rw [e1]
  split
  · rfl
  · rw [List.getElem?_append_left (by omega)]
theorem atV_cut {l : List (Int × Int)} {t x : Int} (h : t ≤ x) : atV (cutV l t) x = atV l x := by
  have h1 := afterN_mono (l := l) h
  have h2 := afterN_le l x
  unfold cutV
  have e1 : afterN (l.drop (afterN l t - 1)) x = afterN l x - (afterN l t - 1) := by
    refine afterN_eq (by rw [List.length_drop]; omega) (fun j p hj hp => ?_) (fun p hp => ?_)
    · rw [List.getElem?_drop] at hp; exact afterN_lo (by omega) hp
    · rw [List.getElem?_drop, show afterN l t - 1 + (afterN l x - (afterN l t - 1)) = afterN l x by omega] at hp; exact afterN_hi hp
  unfold atV
  rw [e1]
  by_cases q : afterN l x = 0
  · rw [if_pos (by omega), if_pos q]
  · rw [if_neg (by omega), if_neg q, List.getElem?_drop, show afterN l t - 1 + (afterN l x - (afterN l t - 1) - 1) = afterN l x - 1 by omega]
theorem lastP_cut {l : List (Int × Int)} (h : l ≠ []) (t : Int) : lastP (cutV l t) = lastP l := by
  have h0 := List.length_pos_iff.2 h
  have h1 := afterN_le l t
  have hg := List.getElem?_eq_getElem (l := l) (show l.length - 1 < l.length by omega)
  rw [lastP_get hg]
  refine lastP_get ?_
  unfold cutV
  rw [List.length_drop, List.getElem?_drop, show afterN l t - 1 + (l.length - (afterN l t - 1) - 1) = l.length - 1 by omega]
  exact hg
theorem lastP_snoc (l : List (Int × Int)) (p : Int × Int) : lastP (l ++ [p]) = p := by unfold lastP; simp

/-! ### How many versions are above a stamp -/
def abv (l : List (Int × Int)) (x : Int) : Nat := (l.filter fun p => decide (x < p.1)).length
theorem abv_cut (l : List (Int × Int)) (t x : Int) : abv (cutV l t) x ≤ abv l x := ((List.drop_sublist _ _).filter _).length_le
theorem abv_snoc (l : List (Int × Int)) (p : Int × Int) (x : Int) : abv (l ++ [p]) x ≤ abv l x + 1 := by
  unfold abv
  rw [List.filter_append, List.length_append]
  have : ([p].filter fun p => decide (x < p.1)).length ≤ 1 := List.length_filter_le _ _
  omega
theorem cutV_len {l : List (Int × Int)} (hs : VSort l) (t : Int) : (cutV l t).length ≤ abv l t + 1 := by
  have h1 := afterN_le l t
  have e : (l.drop (afterN l t)).filter (fun p => decide (t < p.1)) = l.drop (afterN l t) := by
    rw [List.filter_eq_self]
    intro p hp
    obtain ⟨j, hj, rfl⟩ := List.getElem_of_mem hp
    rw [List.length_drop] at hj
    have hg := List.getElem?_eq_getElem (l := l) (show afterN l t + j < l.length by omega)
    have h0 := List.getElem?_eq_getElem (l := l) (show afterN l t < l.length by omega)
    have := afterN_hi h0
    rw [List.getElem_drop]
    rcases Nat.eq_zero_or_pos j with rfl | hj0
    · simp only [Nat.add_zero] at hg ⊢; exact decide_eq_true this
    · have := hs _ _ _ _ (show afterN l t < afterN l t + j by omega) h0 hg
      exact decide_eq_true (by omega)
  have h2 : (l.drop (afterN l t)).length ≤ abv l t := by
    rw [← e]
    exact ((List.drop_sublist _ _).filter _).length_le
  unfold cutV
  rw [List.length_drop] at h2 ⊢
  omega
def abTo (s : SnM) (x : Int) : Nat → Nat
  | 0 => 0
  | n + 1 => abTo s x n + abv (listM s n) x
theorem abTo_now {s : SnM} (h : SnOk s) : ∀ n, abTo s s.now n = 0
  | 0 => rfl
  | n + 1 => by
    unfold abTo
    rw [abTo_now h n]
    have : (listM s n).filter (fun p => decide (s.now < p.1)) = [] := by
      rw [List.filter_eq_nil_iff]
      intro p hp
      have := (h.last n p hp).2
      simp; omega
    unfold abv
    rw [this]; rfl
theorem cnt_succ (es : List EnV) (k : Nat) : (es.countP fun e => decide (e.loc < ((k + 1 : Nat) : Int))) = (es.countP fun e => decide (e.loc < (k : Int))) + es.countP fun e => decide (e.loc = (k : Int)) := by
  induction es with
  | nil => rfl
  | cons e es ih =>
    rw [List.countP_cons, List.countP_cons, List.countP_cons, ih]
    rcases (show e.loc < (k : Int) ∨ e.loc = (k : Int) ∨ (k : Int) < e.loc by omega) with h | h | h
    · rw [decide_eq_true (show e.loc < ((k + 1 : Nat) : Int) by omega), decide_eq_true h, decide_eq_false (show ¬ e.loc = (k : Int) by omega)]; simp; omega
    · rw [decide_eq_true (show e.loc < ((k + 1 : Nat) : Int) by omega), decide_eq_false (show ¬ e.loc < (k : Int) by omega), decide_eq_true h]; simp; omega
    · rw [decide_eq_false (show ¬ e.loc < ((k + 1 : Nat) : Int) by omega), decide_eq_false (show ¬ e.loc < (k : Int) by omega), decide_eq_false (show ¬ e.loc = (k : Int) by omega)]; simp
theorem abTo_commit {s : SnM} {es : List EnV} (hE : EnsAt s es) (x : Int) : ∀ k : Nat, abTo (commitM s es) x k ≤ abTo s x k + es.countP fun e => decide (e.loc < (k : Int))
  | 0 => Nat.zero_le _
  | k + 1 => by
    have ih := abTo_commit hE x k
    rw [cnt_succ]
    unfold abTo
    rw [listM_commit hE]
    cases hy : commL s es k with
    | none => simp only [Option.getD_none]; omega
    | some l =>
      obtain ⟨e, he, h1, rfl⟩ := commL_some hy
      have := abv_snoc (listM s k) (s.now + 1, e.new) x
      have h0 : 0 < es.countP fun e => decide (e.loc = (k : Int)) := List.countP_pos_iff.2 ⟨e, he, decide_eq_true h1⟩
      simp only [Option.getD_some]; omega
theorem abTo_commit' {s : SnM} {es : List EnV} (hE : EnsAt s es) (x : Int) (k : Nat) : abTo (commitM s es) x k ≤ abTo s x k + es.length := Nat.le_trans (abTo_commit hE x k) (Nat.add_le_add_left List.countP_le_length _)

/-! ### All lists are cut -/
theorem listM_cuts (t : Int) : ∀ (l : List Int) {s : SnM}, (∀ x ∈ l, inC s x = true) → l.Nodup → ∀ y, listM (cutsM s t l) y = if y ∈ l then cutV (listM s y) t else listM s y
  | [], s, _, _, y => by rw [if_neg (by simp)]; rfl
  | x :: l, s, hl, hn, y => by
    obtain ⟨n1, n2⟩ := List.nodup_cons.1 hn
    have hx := hl x (by simp)
    show listM (cutsM (cutM s x t) t l) y = _
    rw [listM_cuts t l (fun z hz => by rw [inC_cut]; exact hl z (by simp [hz])) n2 y, listM_cut hx]
    by_cases hy : y = x
    · subst hy; rw [if_neg n1, if_pos rfl, if_pos (by simp)]
    · rw [if_neg hy]
      by_cases h2 : y ∈ l
      · rw [if_pos h2, if_pos (by simp [h2])]
      · rw [if_neg h2, if_neg (by simp [hy, h2])]
theorem writes_cuts (t : Int) : ∀ (l : List Int) (s : SnM), (cutsM s t l).writes = s.writes
  | [], _ => rfl
  | x :: l, s => by
    show (cutsM (cutM s x t) t l).writes = _
    rw [writes_cuts t l]
    funext k
    show wroB (oneL x (cutV (listM s x) t)) (fun _ => none) s.writes (fun _ => false) k = s.writes k
    unfold wroB; simp
theorem idxL_nodup (n : Nat) : (idxL n).Nodup := by
  unfold idxL
  refine List.Pairwise.map _ (fun a b h => ?_) List.nodup_range
  intro e
  exact h (by omega)
theorem listM_all {s : SnM} (h : SnOk s) (y : Int) : listM (allM s) y = if inC s y = true then cutV (listM s y) (eldM s) else [] := by
  have h1 := h.c1
  unfold allM
  rw [listM_cuts _ _ (fun x hx => by rw [inC_iff]; have := idxL_mem.1 hx; omega) (idxL_nodup _)]
  by_cases hy : inC s y = true
  · rw [if_pos hy, if_pos (idxL_mem.2 (by have := inC_iff.1 hy; omega))]
  · rw [if_neg hy, if_neg (fun hm => hy (inC_iff.2 (by have := idxL_mem.1 hm; omega)))]
    unfold listM; rw [if_neg hy]
theorem all_ok {s : SnM} (h : SnOk s) : SnOk (allM s) ∧ (allM s).rd = s.rd ∧ (allM s).now = s.now ∧ (allM s).cells = s.cells :=
  cutsM_ok _ _ h (fun x hx => by rw [inC_iff]; have := idxL_mem.1 hx; have := h.c1; omega)
theorem keptTo_5 {s : SnM} (hc : s.cells = 5) : ∀ n, keptTo s (5 + n) = keptTo s 5
  | 0 => rfl
  | n + 1 => by
    show keptTo s (5 + n) + (listM s ((5 + n : Nat) : Int)).length = _
    rw [keptTo_5 hc n]
    unfold listM
    rw [if_neg (by rw [inC_iff, hc]; omega)]; rfl
theorem kept_all {s : SnM} (h : SnOk s) : ∀ n, keptTo (allM s) n ≤ abTo s (eldM s) n + n
  | 0 => Nat.le_refl _
  | n + 1 => by
    have ih := kept_all h n
    unfold keptTo abTo
    rw [listM_all h]
    split
    · have := cutV_len (h.sort n) (eldM s); omega
    · simp only [List.length_nil]; omega
theorem abTo_all {s : SnM} (h : SnOk s) (x : Int) : ∀ n, abTo (allM s) x n ≤ abTo s x n
  | 0 => Nat.le_refl _
  | n + 1 => by
    have ih := abTo_all h x n
    unfold abTo
    rw [listM_all h]
    split
    · have := abv_cut (listM s n) (eldM s) x; omega
    · have : abv [] x = 0 := rfl
      omega
end Go.Proofs.Ytijblpkdfmkcfaa

/-
  TopSnapshot: what stores keep; the example.
-/
import Derived.Test.YtijblpkdfmkcfaaKTm
namespace Go.Proofs.Ytijblpkdfmkcfaa
set_option linter.unusedSimpArgs false
set_option linter.unusedVariables false
open Go.RowKit Go.Maps

theorem rdF (q : SnM) (h : q.rd.length = 8) : (eRds q.rd).length = 16 ∧ (eRds q.rd).all Sh.one = true ∧ (∀ S : St, S.argL (eRds q.rd) = some (eRds q.rd)) ∧ (eRds q.rd).take 16 = eRds q.rd ∧ (∀ S : St, S.frzCells (eRds q.rd) = S) ∧ (eRds q.rd).drop 16 = [] :=
  ⟨by rw [eRds_len, h], eRds_one _, fun S => eRds_arg S _, eRds_take h, fun S => eRds_frz S _, eRds_drop h⟩
theorem sh_nil (l : List Sh) : l ++ [] = l := List.append_nil l
theorem VSort.snoc {l : List (Int × Int)} (h : VSort l) {t v : Int} (hl : ∀ p ∈ l, p.1 < t) : VSort (l ++ [(t, v)]) := fun i j p q hij hp hq => by
  have hj := (List.getElem?_eq_some_iff.1 hq).1
  rw [List.length_append] at hj
  simp only [List.length_cons, List.length_nil] at hj
  rw [List.getElem?_append_left (by omega)] at hp
  rcases Nat.lt_or_ge j l.length with q1 | q1
  · rw [List.getElem?_append_left q1] at hq
    exact h i j p q hij hp hq
  · rw [List.getElem?_append_right q1, show j - l.length = 0 by omega] at hq
    cases hq
    exact hl p (List.mem_of_getElem? hp)
theorem VSort.one (p : Int × Int) : VSort [p] := fun i j a b hij ha hb => by
  have := (List.getElem?_eq_some_iff.1 hb).1
  simp only [List.length_cons, List.length_nil] at this
  omega
theorem listM_new (n x : Int) : listM (newM n) x = if inC (newM n) x = true then [(0, 0)] else [] := rfl
theorem SnOk.new {n : Int} (h1 : 1 ≤ n) (h2 : n ≤ 2048) : SnOk (newM n) := by
  refine ⟨rfl, show 0 < n by omega, h2, fun x => ?_, fun x hx => ?_, fun x => ?_, fun x p hp => ?_, ⟨Int.le_refl 0, show (0 : Int) ≤ 1000 by omega⟩, fun x hx => absurd rfl hx, fun x hx => absurd rfl hx⟩
  · rw [listM_new]; split
    · exact VSort.one _
    · intro i j p q _ hp _; simp at hp
  · rw [listM_new, if_pos hx]; simp
  · rw [listM_new]; split <;> simp
  · rw [listM_new] at hp
    split at hp
    · simp at hp; subst hp; exact ⟨Int.le_refl 0, Int.le_refl 0⟩
    · simp at hp
theorem SnOk.rdset {s : SnM} (h : SnOk s) (l : List (Bool × Int)) (hl : l.length = 8) : SnOk { s with rd := l } :=
  ⟨hl, h.c1, h.c2, h.sort, h.ne, h.len, h.last, h.now, h.dom, h.domw⟩
theorem SnOk.open {s : SnM} (h : SnOk s) (i : Nat) : SnOk (openM s i) := h.rdset _ (by rw [List.length_set, h.rd])
theorem SnOk.close {s : SnM} (h : SnOk s) (i : Nat) (r : Bool × Int) : SnOk (closeM s i r) := h.rdset _ (by rw [List.length_set, h.rd])
theorem commL_some {s : SnM} {es : List EnV} {y : Int} {l : List (Int × Int)} (h : commL s es y = some l) : ∃ e ∈ es, e.loc = y ∧ l = listM s y ++ [(s.now + 1, e.new)] := by
  unfold commL at h
  obtain ⟨e, he, rfl⟩ := Option.map_eq_some_iff.1 h
  exact ⟨e, List.mem_of_find?_eq_some he, by simpa using List.find?_some he, rfl⟩
theorem listM_commit {s : SnM} {es : List EnV} (hE : EnsAt s es) (y : Int) : listM (commitM s es) y = (commL s es y).getD (listM s y) :=
  show listM (withM s (commL s es) (commW es)) y = _ from listM_with (s := s) (L := commL s es) (W := commW es) (fun k hk => by obtain ⟨e, he, e2⟩ := commL_dom hk; rw [← e2]; exact (hE.at_ e he).1) y
theorem SnOk.commit {s : SnM} (h : SnOk s) {es : List EnV} (hE : EnsAt s es) (hn : s.now ≤ 900) (hl : ∀ x, (listM s x).length ≤ 900) : SnOk (commitM s es) := by
  have hnow := h.now
  have hc : ∀ y, listM (commitM s es) y = listM s y ∨ ∃ e ∈ es, e.loc = y ∧ listM (commitM s es) y = listM s y ++ [(s.now + 1, e.new)] := fun y => by
    rw [listM_commit hE]
    cases hy : commL s es y with
    | none => exact .inl rfl
    | some l => obtain ⟨e, he, h1, h2⟩ := commL_some hy; exact .inr ⟨e, he, h1, h2⟩
  have e1 : (commitM s es).now = s.now + 1 := rfl
  refine ⟨h.rd, h.c1, h.c2, fun y => ?_, fun y hy => ?_, fun y => ?_, fun y p hp => ?_, ⟨by rw [e1]; omega, by rw [e1]; omega⟩, fun y hy => ?_, fun y hy => ?_⟩
  · rcases hc y with e | ⟨e, he, _, e2⟩
    · rw [e]; exact h.sort y
    · rw [e2]; exact (h.sort y).snoc (fun p hp => by have := (h.last y p hp).2; omega)
  · rcases hc y with e | ⟨e, he, _, e2⟩
    · rw [e]; exact h.ne y hy
    · rw [e2]; simp
  · have := hl y
    rcases hc y with e | ⟨e, he, _, e2⟩
    · rw [e]; omega
    · rw [e2, List.length_append]; simp only [List.length_cons, List.length_nil]; omega
  · rw [e1]
    rcases hc y with e | ⟨e, he, _, e2⟩
    · rw [e] at hp; have := h.last y p hp; omega
    · rw [e2] at hp
      rcases List.mem_append.1 hp with hp | hp
      · have := h.last y p hp; omega
      · simp at hp; subst hp; simp only; omega
  · have hy' : (if (commL s es y).isSome then commL s es y else s.lists y) ≠ none := hy
    split at hy'
    · obtain ⟨e, he, rfl⟩ := commL_dom hy'; exact (hE.at_ e he).1
    · exact h.dom y hy'
  · have hy' : wroB (commL s es) (commW es) s.writes (fun _ => false) y ≠ none := hy
    exact wroB_dom (P := fun y => inC s y = true) (fun k hk => by obtain ⟨e, he, rfl⟩ := commL_dom hk; exact (hE.at_ e he).1) h.domw hy'

/-! ### The example -/
def es0 : List EnV := [⟨0, 0, 0, 4⟩]
theorem es0_at : EnsAt (newM 2) es0 := by
  refine ⟨⟨by simp [es0], by decide, fun e he => ?_, fun i j x y hij hx hy => ?_⟩, fun e he => ?_⟩
  · simp [es0] at he; subst he; exact ⟨by decide, by decide, by decide, by decide⟩
  · have := (List.getElem?_eq_some_iff.1 hy).1
    simp [es0] at this; omega
  · simp [es0] at he; subst he; exact ⟨by decide, by decide, by decide⟩
theorem ok_tsAwake : Ok 4 [] (sB true) := by
  have o1 : SnOk (newM 2) := SnOk.new (by decide) (by decide)
  have hlen : ∀ x, (listM (newM 2) x).length ≤ 900 := fun x => by rw [listM_new]; split <;> simp
  have o2 := o1.commit es0_at (by decide) hlen
  have o3 := o2.open 0
  have k1 := ok_snNew (n := 2) (by decide) (by decide)
  have k2 := ok_snCommit o1 (by decide) es0_at
  have k3 := ok_snOpen o2 (m := 0) (x := 0) rfl (fun j hj => absurd hj (by omega))
  have k4 := ok_snRead o3 (i := 0) (x := 1) rfl (c := 0) rfl (v := 4) (by decide)
  have h1 := rdF _ o1.rd
  have h2 := rdF _ o2.rd
  have h3 := rdF _ o3.rd
  generalize openM (commitM (newM 2) es0) 0 = s3 at k3 k4 h3
  generalize commitM (newM 2) es0 = s2 at k2 k3 h2
  generalize newM 2 = s1 at k1 k2 h1
  refine ok_of_tr Try.func4 tr_tsAwake rfl ?_
  unfold evFn sc_tsAwake rv_tsAwake
  have F1 := And.intro @h1 (And.intro @h2 (And.intro @h3 @sh_nil))
  refine eS fun K1 hn1 hr1 he1 => ?_
  refine eO fun K2 hk2 => ?_
  refine tL F1 ?_
  refine hk2 _ ?_
  refine hn1 (some ([], none)) _ ?_
  refine eS fun K3 hn3 hr3 he3 => ?_
  refine eO fun K4 hk4 => ?_
  refine tS 1 F1 ?_
  refine Or.inl (Or.inl ⟨_, k1, ?_⟩)
  refine tC 5 F1 ?_
  refine tL F1 ?_
  refine hk4 _ ?_
  refine hn3 (some ([1, 2], none)) _ ?_
  refine eS fun K5 hn5 hr5 he5 => ?_
  refine eO fun K6 hk6 => ?_
  refine tC 1 F1 ?_
  refine tC 2 F1 ?_
  refine tS 1 F1 ?_
  refine Or.inl (Or.inl ⟨_, k2, ?_⟩)
  refine tC 5 F1 ?_
  refine tL F1 ?_
  refine hk6 _ ?_
  refine hn5 (some ([1, 2, 4], none)) _ ?_
  refine eS fun K7 hn7 hr7 he7 => ?_
  refine eO fun K8 hk8 => ?_
  refine tC 1 F1 ?_
  refine tS 1 F1 ?_
  refine Or.inl (Or.inl ⟨_, k3, ?_⟩)
  refine tC 5 F1 ?_
  refine tL F1 ?_
  refine hk8 _ ?_
  refine hn7 (some ([1, 2, 4, 5, 6], none)) _ ?_
  refine eS fun K9 hn9 hr9 he9 => ?_
  refine eO fun K10 hk10 => ?_
  refine tC 1 F1 ?_
  refine tS 1 F1 ?_
  refine tS 1 F1 ?_
  refine Or.inl (Or.inl ⟨_, k4, ?_⟩)
  refine tL F1 ?_
  refine hk10 _ ?_
  refine hn9 (some ([2, 4, 6, 7, 8], none)) _ ?_
  refine eS fun K11 hn11 hr11 he11 => ?_
  refine eO fun K12 hk12 => ?_
  refine tC 2 F1 ?_
  refine tC 3 F1 ?_
  refine tC 4 F1 ?_
  refine tC 4 F1 ?_
  refine tC 4 F1 ?_
  refine tL F1 ?_
  refine hk12 _ ?_
  refine hn11 (some ([0], none)) _ ?_
  exact sf1 F1
end Go.Proofs.Ytijblpkdfmkcfaa

/-
  TopSnapshot by shadows: cuts, the least stamp.
-/
import Derived.Test.YtijblpkdfmkcfaaKTj
namespace Go.Proofs.Ytijblpkdfmkcfaa
set_option linter.unusedSimpArgs false
set_option linter.unusedVariables false
open Go.RowKit Go.Maps

/-! ### Plain -/
theorem VSort.drop {l : List (Int × Int)} (h : VSort l) (n : Nat) : VSort (l.drop n) := fun i j p q hij hp hq => by
  rw [List.getElem?_drop] at hp hq
  exact h (n + i) (n + j) p q (by omega) hp hq
theorem cutV_ne {l : List (Int × Int)} (h : l ≠ []) (t : Int) : cutV l t ≠ [] := by
  have h0 := List.length_pos_iff.2 h
  have h1 := afterN_le l t
  intro e
  have := congrArg List.length e
  unfold cutV at this
  rw [List.length_drop, List.length_nil] at this
  omega
def oneL (x : Int) (l : List (Int × Int)) (k : Int) : Option (List (Int × Int)) := if k = x then some l else none
def cutM (s : SnM) (x t : Int) : SnM := withM s (oneL x (cutV (listM s x) t)) fun _ => none
theorem listM_with {s : SnM} {L : Int → Option (List (Int × Int))} {W : Int → Option Bool} (hL : ∀ k, L k ≠ none → inC s k = true) (y : Int) : listM (withM s L W) y = (L y).getD (listM s y) := by
  unfold listM
  have hi : inC (withM s L W) y = inC s y := rfl
  rw [hi]
  show (if inC s y = true then (if (L y).isSome then L y else s.lists y).getD [(0, 0)] else []) = _
  cases hy : L y with
  | none => rfl
  | some l => rw [if_pos (hL y (by rw [hy]; simp))]; rfl
theorem inC_cut (s : SnM) (x t y : Int) : inC (cutM s x t) y = inC s y := rfl
theorem listM_cut {s : SnM} {x : Int} (hx : inC s x = true) (t y : Int) : listM (cutM s x t) y = if y = x then cutV (listM s x) t else listM s y := by
  unfold cutM
  rw [listM_with (fun k hk => by unfold oneL at hk; split at hk; (rename_i e; rw [e]; exact hx); exact absurd rfl hk)]
  unfold oneL
  split <;> rfl
theorem SnOk.cut {s : SnM} (h : SnOk s) {x : Int} (hx : inC s x = true) (t : Int) : SnOk (cutM s x t) := by
  have hl := listM_cut hx t
  refine ⟨h.rd, h.c1, h.c2, fun y => ?_, fun y hy => ?_, fun y => ?_, fun y p hp => ?_, h.now, fun y hy => ?_, fun y hy => ?_⟩
  · rw [hl]; split
    · exact (h.sort x).drop _
    · exact h.sort y
  · rw [hl]; split
    · exact cutV_ne (h.ne x hx) t
    · exact h.ne y hy
  · rw [hl]; split
    · have := h.len x; unfold cutV; rw [List.length_drop]; omega
    · exact h.len y
  · rw [hl] at hp; split at hp
    · exact h.last x p (List.mem_of_mem_drop hp)
    · exact h.last y p hp
  · have hy' : (if (oneL x (cutV (listM s x) t) y).isSome then oneL x (cutV (listM s x) t) y else s.lists y) ≠ none := hy
    unfold oneL at hy'
    by_cases e : y = x
    · subst e; exact hx
    · rw [if_neg e] at hy'; exact h.dom y hy'
  · have hy' : wroB (oneL x (cutV (listM s x) t)) (fun _ => none) s.writes (fun _ => false) y ≠ none := hy
    unfold wroB at hy'
    simp only [Option.getD_none, Bool.and_false, Bool.false_eq_true, if_false] at hy'
    exact h.domw y hy'
/-- The least member. -/
def minL : List Int → Int
  | [] => 0
  | x :: l => l.foldl min x
theorem foldl_min_le : ∀ (l : List Int) (a : Int), l.foldl min a ≤ a ∧ ∀ x ∈ l, l.foldl min a ≤ x
  | [], a => ⟨Int.le_refl _, fun x hx => by simp at hx⟩
  | y :: l, a => by
    obtain ⟨h1, h2⟩ := foldl_min_le l (min a y)
    rw [List.foldl_cons]
    refine ⟨by omega, fun x hx => ?_⟩
    rcases List.mem_cons.1 hx with rfl | hx
    · omega
    · exact h2 x hx
theorem minL_le {l : List Int} {x : Int} (h : x ∈ l) : minL l ≤ x := by
  cases l with
  | nil => simp at h
  | cons y l =>
    obtain ⟨h1, h2⟩ := foldl_min_le l y
    rcases List.mem_cons.1 h with rfl | h
    · exact h1
    · exact h2 x h
theorem foldl_min_mem : ∀ (l : List Int) (a : Int), l.foldl min a = a ∨ l.foldl min a ∈ l
  | [], a => .inl rfl
  | y :: l, a => by
    rw [List.foldl_cons]
    rcases foldl_min_mem l (min a y) with h | h
    · rw [h]
      rcases Int.le_total a y with q | q
      · exact .inl (by omega)
      · exact .inr (by rw [show min a y = y by omega]; simp)
    · exact .inr (List.mem_cons_of_mem _ h)
theorem minL_mem {l : List Int} (h : l ≠ []) : minL l ∈ l := by
  cases l with
  | nil => exact absurd rfl h
  | cons y l =>
    rcases foldl_min_mem l y with h | h
    · show l.foldl min y ∈ _; rw [h]; simp
    · exact List.mem_cons_of_mem _ h

/-! ### The code -/
theorem ok_snWith_nil {s : SnM} (h : SnOk s) {L : Int → Option (List (Int × Int))} (hL0 : ∀ k, L k ≠ none → inC s k = true) : Ok 19 [shSn s, .mp 44 (mLists L), .v (.map none)] (shSn (withM s L fun _ => none)) := by
  intro w H vs hs hv
  refine ok_snWith h (W := fun _ => none) hL0 w H vs hs ?_
  cases hv with
  | cons h1 hv => cases hv with
    | cons h2 hv => cases hv with
      | cons h3 hv => cases h3; exact .cons h1 (.cons h2 (.cons (.mpn fun _ => rfl) hv))
theorem one_map (x : Int) (l : List (Int × Int)) : (fun j => if j = x then some (shVl l) else none) = mLists (oneL x l) := by
  funext j
  show _ = (oneL x l j).map shVl
  unfold oneL
  split <;> rfl
set_option maxHeartbeats 4000000 in
theorem ok_snCut {s : SnM} (h : SnOk s) {x : Int} (hx : inC s x = true) {t : Int} (ht : t ≤ s.now) : Ok 30 [shSn s, sI x, sI t] (shSn (cutM s x t)) := by
  have h2 := h.c2
  have hin := inC_iff.1 hx
  have kW := ok_snWith_nil h (L := oneL x (cutV (listM s x) t)) (fun k hk => by unfold oneL at hk; split at hk; (rename_i e; rw [e]; exact hx); exact absurd rfl hk)
  rw [← one_map] at kW
  refine ok_of_tr Try.func30 tr_snCut rfl ?_
  unfold cutM
  have kl := ok_snList h x
  have kc := ok_veCut (listM s x) t (h.sort x) (by have := h.len x; omega)
  have k0 := ok_snCell s x h.rd
  rw [hx] at k0
  obtain ⟨s', hs'⟩ : ∃ s', s' = withM s (oneL x (cutV (listM s x) t)) fun _ => none := ⟨_, rfl⟩
  have hrd : s'.rd = s.rd := by rw [hs']; rfl
  rw [← hs'] at kW ⊢
  clear hs'
  generalize cutV (listM s x) t = l at kc kW
  have hL : (eRds s.rd).length = 16 := by rw [eRds_len, h.rd]
  have hO := eRds_one s.rd
  have hA := fun S => eRds_arg S s.rd
  have hT := eRds_take h.rd
  have hF := fun S => eRds_frz S s.rd
  have d1 : ¬ s.now < t := by omega
  have b1 : -9223372036854775808 ≤ x := by omega
  have b2 : x ≤ 9223372036854775807 := by omega
  have hb : ∀ (v : Sh) (q : Int), (if q = x then some v else none) ≠ none → 0 ≤ q ∧ q < ((2048 : Nat) : Int) := fun v q hq => by
    by_cases e : q = x
    · omega
    · rw [if_neg e] at hq; exact absurd rfl hq
  unfold evFn sc_snCut rv_snCut
  have F1 := And.intro @hL (And.intro @hO (And.intro @hA (And.intro @hT (And.intro @hF (And.intro @d1 @hrd)))))
  refine eS fun K1 hn1 hr1 he1 => ?_
  refine eO fun K2 hk2 => ?_
  refine tL F1 ?_
  refine hk2 _ ?_
  refine hn1 (some ([1, 2, 3, 6], none)) _ ?_
  refine eS fun K3 hn3 hr3 he3 => ?_
  refine eS fun K4 hn4 hr4 he4 => ?_
  refine eO fun K5 hk5 => ?_
  refine tC 1 F1 ?_
  refine tS 1 F1 ?_
  refine tS 1 F1 ?_
  refine Or.inl (Or.inl ⟨_, k0, ?_⟩)
  refine tC 5 F1 ?_
  refine tC 1 F1 ?_
  refine tL F1 ?_
  refine hk5 _ ?_
  refine hn4 (some ([1, 2, 3, 6, 16], none)) _ ?_
  refine eCf ?_
  refine hn3 (some ([1, 2, 3, 6], none)) _ ?_
  refine eS fun K6 hn6 hr6 he6 => ?_
  refine eQ ([]) ?_ (fun K7 hk7 => ?_) ?_
  rotate_left
  · skip
    refine evTr_flo rfl fun K8 hk8 => ?_
    refine sh1 F1 ?_
    refine hk8 _ ?_
    refine evTr_flo rfl fun K9 hk9 => ?_
    refine sh1 F1 ?_
    refine hk9 _ ?_
    refine evTr_flo rfl fun K10 hk10 => ?_
    refine sh1 F1 ?_
    refine hk10 _ ?_
    refine ⟨?_, ?_⟩
    · skip
      refine ⟨?_, ?_⟩
      · skip
        refine evTr_step rfl fun K11 hk11 => ?_
        refine sh1 F1 ?_
        refine sd ?_
        refine hk11 _ ?_
        refine ⟨?_, ?_⟩
        · skip
          refine evTr_step rfl fun K12 hk12 => ?_
          refine sh1 F1 ?_
          refine hk12 _ ?_
          refine evTr_step rfl fun K13 hk13 => ?_
          refine sh1 F1 ?_
          refine sd ?_
          refine hk13 _ ?_
          refine evTr_step rfl fun K14 hk14 => ?_
          refine sh1 F1 ?_
          refine Or.inl (Or.inl ⟨_, kl, ?_⟩)
          refine hk14 _ ?_
          refine evTr_step rfl fun K15 hk15 => ?_
          refine sh1 F1 ?_
          refine Or.inl (Or.inl ⟨_, kc, ?_⟩)
          refine hk15 _ ?_
          refine evTr_step rfl fun K16 hk16 => ?_
          refine sh1 F1 ?_
          refine sd ?_
          refine Or.inr ⟨2048, ⟨by decide, hb _⟩, ?_⟩
          refine hk16 _ ?_
          refine evTr_flo rfl fun K17 hk17 => ?_
          refine sh1 F1 ?_
          refine hk17 _ ?_
          refine evTr_step rfl fun K18 hk18 => ?_
          refine sh1 F1 ?_
          refine Or.inl (Or.inl ⟨_, kW, ?_⟩)
          refine hk18 _ ?_
          refine evTr_step rfl fun K19 hk19 => ?_
          refine sh1 F1 ?_
          refine sd ?_
          refine hk19 _ ?_
          refine hk7 _ (some ([6], none)) ?_
          exact sl0
        · skip
          refine evTr_step rfl fun K20 hk20 => ?_
          refine sh1 F1 ?_
          refine sd ?_
          refine hk20 _ ?_
          refine ⟨?_, ?_⟩
          · skip
            refine evTr_step rfl fun K21 hk21 => ?_
            refine sh1 F1 ?_
            refine hk21 _ ?_
            refine evTr_step rfl fun K22 hk22 => ?_
            refine sh1 F1 ?_
            refine Or.inl (Or.inl ⟨_, kl, ?_⟩)
            refine hk22 _ ?_
            refine evTr_step rfl fun K23 hk23 => ?_
            refine sh1 F1 ?_
            refine Or.inl (Or.inl ⟨_, kc, ?_⟩)
            refine hk23 _ ?_
            refine evTr_step rfl fun K24 hk24 => ?_
            refine sh1 F1 ?_
            refine sd ?_
            refine Or.inr ⟨2048, ⟨by decide, hb _⟩, ?_⟩
            refine hk24 _ ?_
            refine evTr_flo rfl fun K25 hk25 => ?_
            refine sh1 F1 ?_
            refine hk25 _ ?_
            refine evTr_step rfl fun K26 hk26 => ?_
            refine sh1 F1 ?_
            refine Or.inl (Or.inl ⟨_, kW, ?_⟩)
            refine hk26 _ ?_
            refine evTr_step rfl fun K27 hk27 => ?_
            refine sh1 F1 ?_
            refine sd ?_
            refine hk27 _ ?_
            refine hk7 _ (some ([6], none)) ?_
            exact sl0
          · skip
            refine evTr_step rfl fun K28 hk28 => ?_
            refine sh1 F1 ?_
            refine Or.inl (Or.inl ⟨_, kl, ?_⟩)
            refine hk28 _ ?_
            refine ⟨?_, ?_⟩
            · skip
              refine evTr_step rfl fun K29 hk29 => ?_
              refine sh1 F1 ?_
              refine hk29 _ ?_
              refine evTr_step rfl fun K30 hk30 => ?_
              refine sh1 F1 ?_
              refine Or.inl (Or.inl ⟨_, kc, ?_⟩)
              refine hk30 _ ?_
              refine evTr_step rfl fun K31 hk31 => ?_
              refine sh1 F1 ?_
              refine sd ?_
              refine Or.inr ⟨2048, ⟨by decide, hb _⟩, ?_⟩
              refine hk31 _ ?_
              refine evTr_flo rfl fun K32 hk32 => ?_
              refine sh1 F1 ?_
              refine hk32 _ ?_
              refine evTr_step rfl fun K33 hk33 => ?_
              refine sh1 F1 ?_
              refine Or.inl (Or.inl ⟨_, kW, ?_⟩)
              refine hk33 _ ?_
              refine evTr_step rfl fun K34 hk34 => ?_
              refine sh1 F1 ?_
              refine sd ?_
              refine hk34 _ ?_
              refine hk7 _ (some ([6], none)) ?_
              exact sl0
            · skip
              refine evTr_step rfl fun K35 hk35 => ?_
              refine sh1 F1 ?_
              refine Or.inl (Or.inl ⟨_, kc, ?_⟩)
              refine hk35 _ ?_
              refine evTr_step rfl fun K36 hk36 => ?_
              refine sh1 F1 ?_
              refine hk36 _ ?_
              refine evTr_step rfl fun K37 hk37 => ?_
              refine sh1 F1 ?_
              refine sd ?_
              refine Or.inr ⟨2048, ⟨by decide, hb _⟩, ?_⟩
              refine hk37 _ ?_
              refine evTr_flo rfl fun K38 hk38 => ?_
              refine sh1 F1 ?_
              refine hk38 _ ?_
              refine evTr_step rfl fun K39 hk39 => ?_
              refine sh1 F1 ?_
              refine Or.inl (Or.inl ⟨_, kW, ?_⟩)
              refine hk39 _ ?_
              refine evTr_step rfl fun K40 hk40 => ?_
              refine sh1 F1 ?_
              refine sd ?_
              refine hk40 _ ?_
              refine hk7 _ (some ([6], none)) ?_
              exact sl0
      · skip
        refine evTr_step rfl fun K41 hk41 => ?_
        refine sh1 F1 ?_
        refine hk41 _ ?_
        refine ⟨?_, ?_⟩
        · skip
          refine evTr_step rfl fun K42 hk42 => ?_
          refine sh1 F1 ?_
          refine sd ?_
          refine hk42 _ ?_
          refine evTr_step rfl fun K43 hk43 => ?_
          refine sh1 F1 ?_
          refine sd ?_
          refine hk43 _ ?_
          refine evTr_step rfl fun K44 hk44 => ?_
          refine sh1 F1 ?_
          refine Or.inl (Or.inl ⟨_, kl, ?_⟩)
          refine hk44 _ ?_
          refine evTr_step rfl fun K45 hk45 => ?_
          refine sh1 F1 ?_
          refine Or.inl (Or.inl ⟨_, kc, ?_⟩)
          refine hk45 _ ?_
          refine evTr_step rfl fun K46 hk46 => ?_
          refine sh1 F1 ?_
          refine sd ?_
          refine Or.inr ⟨2048, ⟨by decide, hb _⟩, ?_⟩
          refine hk46 _ ?_
          refine evTr_flo rfl fun K47 hk47 => ?_
          refine sh1 F1 ?_
          refine hk47 _ ?_
          refine evTr_step rfl fun K48 hk48 => ?_
          refine sh1 F1 ?_
          refine Or.inl (Or.inl ⟨_, kW, ?_⟩)
          refine hk48 _ ?_
          refine evTr_step rfl fun K49 hk49 => ?_
          refine sh1 F1 ?_
          refine sd ?_
          refine hk49 _ ?_
          refine hk7 _ (some ([6], none)) ?_
          exact sl0
        · skip
          refine evTr_step rfl fun K50 hk50 => ?_
          refine sh1 F1 ?_
          refine sd ?_
          refine hk50 _ ?_
          refine ⟨?_, ?_⟩
          · skip
            refine evTr_step rfl fun K51 hk51 => ?_
            refine sh1 F1 ?_
            refine sd ?_
            refine hk51 _ ?_
            refine evTr_step rfl fun K52 hk52 => ?_
            refine sh1 F1 ?_
            refine Or.inl (Or.inl ⟨_, kl, ?_⟩)
            refine hk52 _ ?_
            refine evTr_step rfl fun K53 hk53 => ?_
            refine sh1 F1 ?_
            refine Or.inl (Or.inl ⟨_, kc, ?_⟩)
            refine hk53 _ ?_
            refine evTr_step rfl fun K54 hk54 => ?_
            refine sh1 F1 ?_
            refine sd ?_
            refine Or.inr ⟨2048, ⟨by decide, hb _⟩, ?_⟩
            refine hk54 _ ?_
            refine evTr_flo rfl fun K55 hk55 => ?_
            refine sh1 F1 ?_
            refine hk55 _ ?_
            refine evTr_step rfl fun K56 hk56 => ?_
            refine sh1 F1 ?_
            refine Or.inl (Or.inl ⟨_, kW, ?_⟩)
            refine hk56 _ ?_
            refine evTr_step rfl fun K57 hk57 => ?_
            refine sh1 F1 ?_
            refine sd ?_
            refine hk57 _ ?_
            refine hk7 _ (some ([6], none)) ?_
            exact sl0
          · skip
            refine evTr_step rfl fun K58 hk58 => ?_
            refine sh1 F1 ?_
            refine Or.inl (Or.inl ⟨_, kl, ?_⟩)
            refine hk58 _ ?_
            refine ⟨?_, ?_⟩
            · skip
              refine evTr_step rfl fun K59 hk59 => ?_
              refine sh1 F1 ?_
              refine sd ?_
              refine hk59 _ ?_
              refine evTr_step rfl fun K60 hk60 => ?_
              refine sh1 F1 ?_
              refine Or.inl (Or.inl ⟨_, kc, ?_⟩)
              refine hk60 _ ?_
              refine evTr_step rfl fun K61 hk61 => ?_
              refine sh1 F1 ?_
              refine sd ?_
              refine Or.inr ⟨2048, ⟨by decide, hb _⟩, ?_⟩
              refine hk61 _ ?_
              refine evTr_flo rfl fun K62 hk62 => ?_
              refine sh1 F1 ?_
              refine hk62 _ ?_
              refine evTr_step rfl fun K63 hk63 => ?_
              refine sh1 F1 ?_
              refine Or.inl (Or.inl ⟨_, kW, ?_⟩)
              refine hk63 _ ?_
              refine evTr_step rfl fun K64 hk64 => ?_
              refine sh1 F1 ?_
              refine sd ?_
              refine hk64 _ ?_
              refine hk7 _ (some ([6], none)) ?_
              exact sl0
            · skip
              refine evTr_step rfl fun K65 hk65 => ?_
              refine sh1 F1 ?_
              refine Or.inl (Or.inl ⟨_, kc, ?_⟩)
              refine hk65 _ ?_
              refine ⟨?_, ?_⟩
              · skip
                refine evTr_step rfl fun K66 hk66 => ?_
                refine sh1 F1 ?_
                refine sd ?_
                refine hk66 _ ?_
                refine evTr_step rfl fun K67 hk67 => ?_
                refine sh1 F1 ?_
                refine sd ?_
                refine Or.inr ⟨2048, ⟨by decide, hb _⟩, ?_⟩
                refine hk67 _ ?_
                refine evTr_flo rfl fun K68 hk68 => ?_
                refine sh1 F1 ?_
                refine hk68 _ ?_
                refine evTr_step rfl fun K69 hk69 => ?_
                refine sh1 F1 ?_
                refine Or.inl (Or.inl ⟨_, kW, ?_⟩)
                refine hk69 _ ?_
                refine evTr_step rfl fun K70 hk70 => ?_
                refine sh1 F1 ?_
                refine sd ?_
                refine hk70 _ ?_
                refine hk7 _ (some ([6], none)) ?_
                exact sl0
              · skip
                refine evTr_step rfl fun K71 hk71 => ?_
                refine sh1 F1 ?_
                refine sd ?_
                refine Or.inr ⟨2048, ⟨by decide, hb _⟩, ?_⟩
                refine hk71 _ ?_
                refine evTr_flo rfl fun K72 hk72 => ?_
                refine sh1 F1 ?_
                refine hk72 _ ?_
                refine evTr_step rfl fun K73 hk73 => ?_
                refine sh1 F1 ?_
                refine sd ?_
                refine hk73 _ ?_
                refine evTr_step rfl fun K74 hk74 => ?_
                refine sh1 F1 ?_
                refine Or.inl (Or.inl ⟨_, kW, ?_⟩)
                refine hk74 _ ?_
                refine evTr_step rfl fun K75 hk75 => ?_
                refine sh1 F1 ?_
                refine sd ?_
                refine hk75 _ ?_
                refine hk7 _ (some ([6], none)) ?_
                exact sl0
    · skip
      refine evTr_step rfl fun K76 hk76 => ?_
      refine sh1 F1 ?_
      refine sd ?_
      refine hk76 _ ?_
      refine ⟨?_, ?_⟩
      · skip
        refine ⟨?_, ?_⟩
        · skip
          refine evTr_step rfl fun K77 hk77 => ?_
          refine sh1 F1 ?_
          refine sd ?_
          refine hk77 _ ?_
          refine ⟨?_, ?_⟩
          · skip
            refine evTr_step rfl fun K78 hk78 => ?_
            refine sh1 F1 ?_
            refine hk78 _ ?_
            refine evTr_step rfl fun K79 hk79 => ?_
            refine sh1 F1 ?_
            refine Or.inl (Or.inl ⟨_, kl, ?_⟩)
            refine hk79 _ ?_
            refine evTr_step rfl fun K80 hk80 => ?_
            refine sh1 F1 ?_
            refine Or.inl (Or.inl ⟨_, kc, ?_⟩)
            refine hk80 _ ?_
            refine evTr_step rfl fun K81 hk81 => ?_
            refine sh1 F1 ?_
            refine sd ?_
            refine Or.inr ⟨2048, ⟨by decide, hb _⟩, ?_⟩
            refine hk81 _ ?_
            refine evTr_flo rfl fun K82 hk82 => ?_
            refine sh1 F1 ?_
            refine hk82 _ ?_
            refine evTr_step rfl fun K83 hk83 => ?_
            refine sh1 F1 ?_
            refine Or.inl (Or.inl ⟨_, kW, ?_⟩)
            refine hk83 _ ?_
            refine evTr_step rfl fun K84 hk84 => ?_
            refine sh1 F1 ?_
            refine sd ?_
            refine hk84 _ ?_
            refine hk7 _ (some ([6], none)) ?_
            exact sl0
          · skip
            refine evTr_step rfl fun K85 hk85 => ?_
            refine sh1 F1 ?_
            refine Or.inl (Or.inl ⟨_, kl, ?_⟩)
            refine hk85 _ ?_
            refine ⟨?_, ?_⟩
            · skip
              refine evTr_step rfl fun K86 hk86 => ?_
              refine sh1 F1 ?_
              refine hk86 _ ?_
              refine evTr_step rfl fun K87 hk87 => ?_
              refine sh1 F1 ?_
              refine Or.inl (Or.inl ⟨_, kc, ?_⟩)
              refine hk87 _ ?_
              refine evTr_step rfl fun K88 hk88 => ?_
              refine sh1 F1 ?_
              refine sd ?_
              refine Or.inr ⟨2048, ⟨by decide, hb _⟩, ?_⟩
              refine hk88 _ ?_
              refine evTr_flo rfl fun K89 hk89 => ?_
              refine sh1 F1 ?_
              refine hk89 _ ?_
              refine evTr_step rfl fun K90 hk90 => ?_
              refine sh1 F1 ?_
              refine Or.inl (Or.inl ⟨_, kW, ?_⟩)
              refine hk90 _ ?_
              refine evTr_step rfl fun K91 hk91 => ?_
              refine sh1 F1 ?_
              refine sd ?_
              refine hk91 _ ?_
              refine hk7 _ (some ([6], none)) ?_
              exact sl0
            · skip
              refine evTr_step rfl fun K92 hk92 => ?_
              refine sh1 F1 ?_
              refine Or.inl (Or.inl ⟨_, kc, ?_⟩)
              refine hk92 _ ?_
              refine evTr_step rfl fun K93 hk93 => ?_
              refine sh1 F1 ?_
              refine hk93 _ ?_
              refine evTr_step rfl fun K94 hk94 => ?_
              refine sh1 F1 ?_
              refine sd ?_
              refine Or.inr ⟨2048, ⟨by decide, hb _⟩, ?_⟩
              refine hk94 _ ?_
              refine evTr_flo rfl fun K95 hk95 => ?_
              refine sh1 F1 ?_
              refine hk95 _ ?_
              refine evTr_step rfl fun K96 hk96 => ?_
              refine sh1 F1 ?_
              refine Or.inl (Or.inl ⟨_, kW, ?_⟩)
              refine hk96 _ ?_
              refine evTr_step rfl fun K97 hk97 => ?_
              refine sh1 F1 ?_
              refine sd ?_
              refine hk97 _ ?_
              refine hk7 _ (some ([6], none)) ?_
              exact sl0
        · skip
          refine evTr_step rfl fun K98 hk98 => ?_
          refine sh1 F1 ?_
          refine hk98 _ ?_
          refine ⟨?_, ?_⟩
          · skip
            refine evTr_step rfl fun K99 hk99 => ?_
            refine sh1 F1 ?_
            refine sd ?_
            refine hk99 _ ?_
            refine evTr_step rfl fun K100 hk100 => ?_
            refine sh1 F1 ?_
            refine Or.inl (Or.inl ⟨_, kl, ?_⟩)
            refine hk100 _ ?_
            refine evTr_step rfl fun K101 hk101 => ?_
            refine sh1 F1 ?_
            refine Or.inl (Or.inl ⟨_, kc, ?_⟩)
            refine hk101 _ ?_
            refine evTr_step rfl fun K102 hk102 => ?_
            refine sh1 F1 ?_
            refine sd ?_
            refine Or.inr ⟨2048, ⟨by decide, hb _⟩, ?_⟩
            refine hk102 _ ?_
            refine evTr_flo rfl fun K103 hk103 => ?_
            refine sh1 F1 ?_
            refine hk103 _ ?_
            refine evTr_step rfl fun K104 hk104 => ?_
            refine sh1 F1 ?_
            refine Or.inl (Or.inl ⟨_, kW, ?_⟩)
            refine hk104 _ ?_
            refine evTr_step rfl fun K105 hk105 => ?_
            refine sh1 F1 ?_
            refine sd ?_
            refine hk105 _ ?_
            refine hk7 _ (some ([6], none)) ?_
            exact sl0
          · skip
            refine evTr_step rfl fun K106 hk106 => ?_
            refine sh1 F1 ?_
            refine Or.inl (Or.inl ⟨_, kl, ?_⟩)
            refine hk106 _ ?_
            refine ⟨?_, ?_⟩
            · skip
              refine evTr_step rfl fun K107 hk107 => ?_
              refine sh1 F1 ?_
              refine sd ?_
              refine hk107 _ ?_
              refine evTr_step rfl fun K108 hk108 => ?_
              refine sh1 F1 ?_
              refine Or.inl (Or.inl ⟨_, kc, ?_⟩)
              refine hk108 _ ?_
              refine evTr_step rfl fun K109 hk109 => ?_
              refine sh1 F1 ?_
              refine sd ?_
              refine Or.inr ⟨2048, ⟨by decide, hb _⟩, ?_⟩
              refine hk109 _ ?_
              refine evTr_flo rfl fun K110 hk110 => ?_
              refine sh1 F1 ?_
              refine hk110 _ ?_
              refine evTr_step rfl fun K111 hk111 => ?_
              refine sh1 F1 ?_
              refine Or.inl (Or.inl ⟨_, kW, ?_⟩)
              refine hk111 _ ?_
              refine evTr_step rfl fun K112 hk112 => ?_
              refine sh1 F1 ?_
              refine sd ?_
              refine hk112 _ ?_
              refine hk7 _ (some ([6], none)) ?_
              exact sl0
            · skip
              refine evTr_step rfl fun K113 hk113 => ?_
              refine sh1 F1 ?_
              refine Or.inl (Or.inl ⟨_, kc, ?_⟩)
              refine hk113 _ ?_
              refine ⟨?_, ?_⟩
              · skip
                refine evTr_step rfl fun K114 hk114 => ?_
                refine sh1 F1 ?_
                refine sd ?_
                refine hk114 _ ?_
                refine evTr_step rfl fun K115 hk115 => ?_
                refine sh1 F1 ?_
                refine sd ?_
                refine Or.inr ⟨2048, ⟨by decide, hb _⟩, ?_⟩
                refine hk115 _ ?_
                refine evTr_flo rfl fun K116 hk116 => ?_
                refine sh1 F1 ?_
                refine hk116 _ ?_
                refine evTr_step rfl fun K117 hk117 => ?_
                refine sh1 F1 ?_
                refine Or.inl (Or.inl ⟨_, kW, ?_⟩)
                refine hk117 _ ?_
                refine evTr_step rfl fun K118 hk118 => ?_
                refine sh1 F1 ?_
                refine sd ?_
                refine hk118 _ ?_
                refine hk7 _ (some ([6], none)) ?_
                exact sl0
              · skip
                refine evTr_step rfl fun K119 hk119 => ?_
                refine sh1 F1 ?_
                refine sd ?_
                refine Or.inr ⟨2048, ⟨by decide, hb _⟩, ?_⟩
                refine hk119 _ ?_
                refine evTr_flo rfl fun K120 hk120 => ?_
                refine sh1 F1 ?_
                refine hk120 _ ?_
                refine evTr_step rfl fun K121 hk121 => ?_
                refine sh1 F1 ?_
                refine sd ?_
                refine hk121 _ ?_
                refine evTr_step rfl fun K122 hk122 => ?_
                refine sh1 F1 ?_
                refine Or.inl (Or.inl ⟨_, kW, ?_⟩)
                refine hk122 _ ?_
                refine evTr_step rfl fun K123 hk123 => ?_
                refine sh1 F1 ?_
                refine sd ?_
                refine hk123 _ ?_
                refine hk7 _ (some ([6], none)) ?_
                exact sl0
      · skip
        refine evTr_step rfl fun K124 hk124 => ?_
        refine sh1 F1 ?_
        refine Or.inl (Or.inl ⟨_, kl, ?_⟩)
        refine hk124 _ ?_
        refine ⟨?_, ?_⟩
        · skip
          refine ⟨?_, ?_⟩
          · skip
            refine evTr_step rfl fun K125 hk125 => ?_
            refine sh1 F1 ?_
            refine sd ?_
            refine hk125 _ ?_
            refine ⟨?_, ?_⟩
            · skip
              refine evTr_step rfl fun K126 hk126 => ?_
              refine sh1 F1 ?_
              refine hk126 _ ?_
              refine evTr_step rfl fun K127 hk127 => ?_
              refine sh1 F1 ?_
              refine Or.inl (Or.inl ⟨_, kc, ?_⟩)
              refine hk127 _ ?_
              refine evTr_step rfl fun K128 hk128 => ?_
              refine sh1 F1 ?_
              refine sd ?_
              refine Or.inr ⟨2048, ⟨by decide, hb _⟩, ?_⟩
              refine hk128 _ ?_
              refine evTr_flo rfl fun K129 hk129 => ?_
              refine sh1 F1 ?_
              refine hk129 _ ?_
              refine evTr_step rfl fun K130 hk130 => ?_
              refine sh1 F1 ?_
              refine Or.inl (Or.inl ⟨_, kW, ?_⟩)
              refine hk130 _ ?_
              refine evTr_step rfl fun K131 hk131 => ?_
              refine sh1 F1 ?_
              refine sd ?_
              refine hk131 _ ?_
              refine hk7 _ (some ([6], none)) ?_
              exact sl0
            · skip
              refine evTr_step rfl fun K132 hk132 => ?_
              refine sh1 F1 ?_
              refine Or.inl (Or.inl ⟨_, kc, ?_⟩)
              refine hk132 _ ?_
              refine evTr_step rfl fun K133 hk133 => ?_
              refine sh1 F1 ?_
              refine hk133 _ ?_
              refine evTr_step rfl fun K134 hk134 => ?_
              refine sh1 F1 ?_
              refine sd ?_
              refine Or.inr ⟨2048, ⟨by decide, hb _⟩, ?_⟩
              refine hk134 _ ?_
              refine evTr_flo rfl fun K135 hk135 => ?_
              refine sh1 F1 ?_
              refine hk135 _ ?_
              refine evTr_step rfl fun K136 hk136 => ?_
              refine sh1 F1 ?_
              refine Or.inl (Or.inl ⟨_, kW, ?_⟩)
              refine hk136 _ ?_
              refine evTr_step rfl fun K137 hk137 => ?_
              refine sh1 F1 ?_
              refine sd ?_
              refine hk137 _ ?_
              refine hk7 _ (some ([6], none)) ?_
              exact sl0
          · skip
            refine evTr_step rfl fun K138 hk138 => ?_
            refine sh1 F1 ?_
            refine hk138 _ ?_
            refine ⟨?_, ?_⟩
            · skip
              refine evTr_step rfl fun K139 hk139 => ?_
              refine sh1 F1 ?_
              refine sd ?_
              refine hk139 _ ?_
              refine evTr_step rfl fun K140 hk140 => ?_
              refine sh1 F1 ?_
              refine Or.inl (Or.inl ⟨_, kc, ?_⟩)
              refine hk140 _ ?_
              refine evTr_step rfl fun K141 hk141 => ?_
              refine sh1 F1 ?_
              refine sd ?_
              refine Or.inr ⟨2048, ⟨by decide, hb _⟩, ?_⟩
              refine hk141 _ ?_
              refine evTr_flo rfl fun K142 hk142 => ?_
              refine sh1 F1 ?_
              refine hk142 _ ?_
              refine evTr_step rfl fun K143 hk143 => ?_
              refine sh1 F1 ?_
              refine Or.inl (Or.inl ⟨_, kW, ?_⟩)
              refine hk143 _ ?_
              refine evTr_step rfl fun K144 hk144 => ?_
              refine sh1 F1 ?_
              refine sd ?_
              refine hk144 _ ?_
              refine hk7 _ (some ([6], none)) ?_
              exact sl0
            · skip
              refine evTr_step rfl fun K145 hk145 => ?_
              refine sh1 F1 ?_
              refine Or.inl (Or.inl ⟨_, kc, ?_⟩)
              refine hk145 _ ?_
              refine ⟨?_, ?_⟩
              · skip
                refine evTr_step rfl fun K146 hk146 => ?_
                refine sh1 F1 ?_
                refine sd ?_
                refine hk146 _ ?_
                refine evTr_step rfl fun K147 hk147 => ?_
                refine sh1 F1 ?_
                refine sd ?_
                refine Or.inr ⟨2048, ⟨by decide, hb _⟩, ?_⟩
                refine hk147 _ ?_
                refine evTr_flo rfl fun K148 hk148 => ?_
                refine sh1 F1 ?_
                refine hk148 _ ?_
                refine evTr_step rfl fun K149 hk149 => ?_
                refine sh1 F1 ?_
                refine Or.inl (Or.inl ⟨_, kW, ?_⟩)
                refine hk149 _ ?_
                refine evTr_step rfl fun K150 hk150 => ?_
                refine sh1 F1 ?_
                refine sd ?_
                refine hk150 _ ?_
                refine hk7 _ (some ([6], none)) ?_
                exact sl0
              · skip
                refine evTr_step rfl fun K151 hk151 => ?_
                refine sh1 F1 ?_
                refine sd ?_
                refine Or.inr ⟨2048, ⟨by decide, hb _⟩, ?_⟩
                refine hk151 _ ?_
                refine evTr_flo rfl fun K152 hk152 => ?_
                refine sh1 F1 ?_
                refine hk152 _ ?_
                refine evTr_step rfl fun K153 hk153 => ?_
                refine sh1 F1 ?_
                refine sd ?_
                refine hk153 _ ?_
                refine evTr_step rfl fun K154 hk154 => ?_
                refine sh1 F1 ?_
                refine Or.inl (Or.inl ⟨_, kW, ?_⟩)
                refine hk154 _ ?_
                refine evTr_step rfl fun K155 hk155 => ?_
                refine sh1 F1 ?_
                refine sd ?_
                refine hk155 _ ?_
                refine hk7 _ (some ([6], none)) ?_
                exact sl0
        · skip
          refine evTr_step rfl fun K156 hk156 => ?_
          refine sh1 F1 ?_
          refine Or.inl (Or.inl ⟨_, kc, ?_⟩)
          refine hk156 _ ?_
          refine ⟨?_, ?_⟩
          · skip
            refine evTr_step rfl fun K157 hk157 => ?_
            refine sh1 F1 ?_
            refine sd ?_
            refine hk157 _ ?_
            refine evTr_step rfl fun K158 hk158 => ?_
            refine sh1 F1 ?_
            refine hk158 _ ?_
            refine evTr_step rfl fun K159 hk159 => ?_
            refine sh1 F1 ?_
            refine sd ?_
            refine Or.inr ⟨2048, ⟨by decide, hb _⟩, ?_⟩
            refine hk159 _ ?_
            refine evTr_flo rfl fun K160 hk160 => ?_
            refine sh1 F1 ?_
            refine hk160 _ ?_
            refine evTr_step rfl fun K161 hk161 => ?_
            refine sh1 F1 ?_
            refine Or.inl (Or.inl ⟨_, kW, ?_⟩)
            refine hk161 _ ?_
            refine evTr_step rfl fun K162 hk162 => ?_
            refine sh1 F1 ?_
            refine sd ?_
            refine hk162 _ ?_
            refine hk7 _ (some ([6], none)) ?_
            exact sl0
          · skip
            refine evTr_step rfl fun K163 hk163 => ?_
            refine sh1 F1 ?_
            refine hk163 _ ?_
            refine ⟨?_, ?_⟩
            · skip
              refine evTr_step rfl fun K164 hk164 => ?_
              refine sh1 F1 ?_
              refine sd ?_
              refine hk164 _ ?_
              refine evTr_step rfl fun K165 hk165 => ?_
              refine sh1 F1 ?_
              refine sd ?_
              refine Or.inr ⟨2048, ⟨by decide, hb _⟩, ?_⟩
              refine hk165 _ ?_
              refine evTr_flo rfl fun K166 hk166 => ?_
              refine sh1 F1 ?_
              refine hk166 _ ?_
              refine evTr_step rfl fun K167 hk167 => ?_
              refine sh1 F1 ?_
              refine Or.inl (Or.inl ⟨_, kW, ?_⟩)
              refine hk167 _ ?_
              refine evTr_step rfl fun K168 hk168 => ?_
              refine sh1 F1 ?_
              refine sd ?_
              refine hk168 _ ?_
              refine hk7 _ (some ([6], none)) ?_
              exact sl0
            · skip
              refine evTr_step rfl fun K169 hk169 => ?_
              refine sh1 F1 ?_
              refine sd ?_
              refine Or.inr ⟨2048, ⟨by decide, hb _⟩, ?_⟩
              refine hk169 _ ?_
              refine evTr_flo rfl fun K170 hk170 => ?_
              refine sh1 F1 ?_
              refine hk170 _ ?_
              refine evTr_step rfl fun K171 hk171 => ?_
              refine sh1 F1 ?_
              refine sd ?_
              refine hk171 _ ?_
              refine evTr_step rfl fun K172 hk172 => ?_
              refine sh1 F1 ?_
              refine Or.inl (Or.inl ⟨_, kW, ?_⟩)
              refine hk172 _ ?_
              refine evTr_step rfl fun K173 hk173 => ?_
              refine sh1 F1 ?_
              refine sd ?_
              refine hk173 _ ?_
              refine hk7 _ (some ([6], none)) ?_
              exact sl0
  refine hn6 (some ([6], none)) _ ?_
  refine sg1 F1 ?_
  show _ = Sh.agg (eSn s')
  simp only [eSn, hrd]
theorem minL_snoc {l : List Int} (h : l ≠ []) (x : Int) : minL (l ++ [x]) = min (minL l) x := by
  cases l with
  | nil => exact absurd rfl h
  | cons y l =>
    show (l ++ [x]).foldl min y = min (l.foldl min y) x
    rw [List.foldl_append]; rfl
def MiInv (a : List Int) (k : Nat) (S : St) : Prop :=
  ∃ i : Nat, 1 ≤ i ∧ i ≤ a.length ∧ k = a.length - i ∧ S = ⟨[(0, .sl 1 0 (a.map eZ)), (3, sI (minL (a.take i))), (4, sI i)], [], 0⟩
theorem ok_min64 {a : List Int} (h0 : a ≠ []) (hn : a.length ≤ 1000) : Ok 35 [.sl 1 0 (a.map eZ)] (sI (minL a)) := by
  have h1 := List.length_pos_iff.2 h0
  refine ok_of_tr Try.func35 tr_min64 rfl ?_
  have d1 : ¬ (a.length : Int) < 1 := by omega
  obtain ⟨x0, hx0⟩ : ∃ x, a[0]? = some x := ⟨_, List.getElem?_eq_getElem h1⟩
  have e0 : minL (a.take 1) = x0 := by
    rw [List.take_add_one, hx0]; rfl
  unfold evFn sc_min64 rv_min64
  have F1 := And.intro @d1 @hx0
  refine eS fun K1 hn1 hr1 he1 => ?_
  refine eO fun K2 hk2 => ?_
  refine tL F1 ?_
  refine hk2 _ ?_
  refine hn1 (some ([0], none)) _ ?_
  refine eS fun K3 hn3 hr3 he3 => ?_
  refine eS fun K4 hn4 hr4 he4 => ?_
  refine eO fun K5 hk5 => ?_
  refine tZ F1 ?_
  refine hk5 _ ?_
  refine hn4 (some ([0, 7], none)) _ ?_
  refine eCf ?_
  refine hn3 (some ([0], none)) _ ?_
  refine eS fun K6 hn6 hr6 he6 => ?_
  refine eO fun K7 hk7 => ?_
  refine tC 2 F1 ?_
  refine tC 1 F1 ?_
  refine tL F1 ?_
  refine hk7 _ ?_
  refine hn6 (some ([0, 3], none)) _ ?_
  refine eS fun K8 hn8 hr8 he8 => ?_
  refine eS fun K9 hn9 hr9 he9 => ?_
  refine eO fun K10 hk10 => ?_
  refine tL F1 ?_
  refine hk10 _ ?_
  refine hn9 (some ([0, 3, 4], none)) _ ?_
  refine eB fun K11 hn11 hx11 hr11 he11 => ?_
  refine eW (MiInv a) (a.length - 1) (some ([0, 3, 4], none)) ([]) ?_ ?_
  · try refine lp0 ?_
    exact ⟨1, by omega, by omega, by omega, by rw [e0] <;> rfl⟩
  · intro k S1 hI
    obtain ⟨i, hi1, hi, rfl, rfl⟩ := hI
    have hcase : i = a.length ∨ (∃ x, a[i]? = some x) := by
      rcases Nat.lt_or_ge i a.length with h | h
      · exact .inr ⟨_, List.getElem?_eq_getElem h⟩
      · exact .inl (by omega)
    intro K12 hn12 hr12 he12
    rcases hcase with hcc | ⟨x, hx1⟩
    · skip
      have w2 : ¬ (i : Int) < (a.length : Int) := by omega
      have e1 : a.take i = a := List.take_of_length_le (by omega)
      have F2 := And.intro F1 (And.intro @w2 @e1)
      refine eS fun K13 hn13 hr13 he13 => ?_
      refine eS fun K14 hn14 hr14 he14 => ?_
      refine eO fun K15 hk15 => ?_
      refine tZ F2 ?_
      refine hk15 _ ?_
      refine hn14 (some ([0, 3, 4, 15], none)) _ ?_
      refine eCf ?_
      refine he13 0 _ ?_
      refine he12 0 _ ?_
      refine hx11 _ ?_
      refine hn8 (some ([3], none)) _ ?_
      refine eS fun K16 hn16 hr16 he16 => ?_
      refine eO fun K17 hk17 => ?_
      refine tL F2 ?_
      refine hk17 _ ?_
      refine hn16 (some ([2], none)) _ ?_
      exact sf1 F2
    · skip
      have hlt := (List.getElem?_eq_some_iff.1 hx1).1
      have w2 : (i : Int) < (a.length : Int) := by omega
      have w3 : IntKind.i64.wrap ((i : Int) + 1) = ((i + 1 : Nat) : Int) := by rw [IntKind.wrap_i64]; omega
      have e1 : minL (a.take (i + 1)) = min (minL (a.take i)) x := by
        rw [List.take_add_one, hx1]
        exact minL_snoc (fun e => by
          have := congrArg List.length e
          rw [List.length_take, List.length_nil] at this
          omega) x
      have F3 := And.intro F1 (And.intro @w2 (And.intro @w3 @hx1))
      refine eS fun K18 hn18 hr18 he18 => ?_
      refine eS fun K19 hn19 hr19 he19 => ?_
      refine eO fun K20 hk20 => ?_
      refine tZ F3 ?_
      refine hk20 _ ?_
      refine hn19 (some ([0, 3, 4, 15], none)) _ ?_
      refine eCt ?_
      refine hn18 (some ([0, 3, 4], none)) _ ?_
      refine eS fun K21 hn21 hr21 he21 => ?_
      refine eB fun K22 hn22 hx22 hr22 he22 => ?_
      refine eO fun K23 hk23 => ?_
      refine tC 4 F3 ?_
      refine tC 1 F3 ?_
      refine tL F3 ?_
      refine hk23 _ ?_
      refine hn22 _ ?_
      refine hn21 (some ([0, 3, 4], none)) _ ?_
      refine eO fun K24 hk24 => ?_
      refine tC 2 F3 ?_
      refine tL F3 ?_
      refine hk24 _ ?_
      refine hn12 (a.length - (i + 1)) (some ([0, 3, 4], none)) _ ?_ ?_
      all_goals try refine lp0 ?_
      · omega
      · refine ⟨i + 1, by omega, by omega, rfl, ?_⟩
        rw [e1] <;> rfl
theorem ok_trLeast (now : Int) (a : List Int) (hn : a.length ≤ 900) : Ok 28 [sI now, .sl 1 0 (a.map eZ)] (sI (minL (a ++ [now]))) := by
  refine ok_of_tr Try.func28 tr_trLeast rfl ?_
  have k0 := ok_min64 (a := a ++ [now]) (by simp) (by simp; omega)
  rw [List.map_append] at k0
  have e1 : List.take a.length (List.map eZ a) = List.map eZ a := List.take_of_length_le (by simp)
  unfold evFn sc_trLeast rv_trLeast
  have F1 := @e1
  refine eS fun K1 hn1 hr1 he1 => ?_
  refine eO fun K2 hk2 => ?_
  refine tL F1 ?_
  refine hk2 _ ?_
  refine hn1 (some ([0, 1], none)) _ ?_
  refine eS fun K3 hn3 hr3 he3 => ?_
  refine eO fun K4 hk4 => ?_
  refine tC 6 F1 ?_
  refine tC 2 F1 ?_
  refine tC 1 F1 ?_
  refine tS 1 F1 ?_
  refine Or.inl (Or.inl ⟨_, k0, ?_⟩)
  refine tL F1 ?_
  refine hk4 _ ?_
  refine hn3 (some ([4], none)) _ ?_
  exact sf1 F1
end Go.Proofs.Ytijblpkdfmkcfaa

/-
  TopSnapshot by shadows: commits, continued.
-/
import Derived.Test.YtijblpkdfmkcfaaKTi
namespace Go.Proofs.Ytijblpkdfmkcfaa
set_option linter.unusedSimpArgs false
set_option linter.unusedVariables false
open Go.RowKit Go.Maps

def commL (s : SnM) (es : List EnV) (k : Int) : Option (List (Int × Int)) := (es.find? fun e => e.loc == k).map fun e => listM s k ++ [(s.now + 1, e.new)]
def commW (es : List EnV) (k : Int) : Option Bool := (es.find? fun e => e.loc == k).map fun _ => true
def commitM (s : SnM) (es : List EnV) : SnM := { withM s (commL s es) (commW es) with now := s.now + 1 }
theorem find_snoc {es : List EnV} {x : EnV} (hx : ∀ y ∈ es, y.loc ≠ x.loc) (k : Int) : (es ++ [x]).find? (fun e => e.loc == k) = if k = x.loc then some x else es.find? fun e => e.loc == k := by
  rw [List.find?_append]
  by_cases hk : k = x.loc
  · subst hk
    have : es.find? (fun e => e.loc == x.loc) = none := List.find?_eq_none.2 fun y hy => by simpa using hx y hy
    rw [this, if_pos rfl]
    simp
  · rw [if_neg hk]
    have : [x].find? (fun e => e.loc == k) = none := by simp; exact fun e => hk e.symm
    rw [this]; simp
theorem commL_snoc (s : SnM) {es : List EnV} {x : EnV} (hx : ∀ y ∈ es, y.loc ≠ x.loc) :
    (fun j => if j = x.loc then some (shVl (listM s x.loc ++ [(s.now + 1, x.new)])) else mLists (commL s es) j) = mLists (commL s (es ++ [x])) := by
  funext j
  show _ = (commL s (es ++ [x]) j).map shVl
  unfold commL
  rw [find_snoc hx]
  by_cases hj : j = x.loc
  · subst hj; rw [if_pos rfl, if_pos rfl]; rfl
  · rw [if_neg hj, if_neg hj]
theorem commW_snoc {es : List EnV} {x : EnV} (hx : ∀ y ∈ es, y.loc ≠ x.loc) : (fun j => if j = x.loc then some (sB true) else mWo (commW es) j) = mWo (commW (es ++ [x])) := by
  funext j
  show _ = (commW (es ++ [x]) j).map sB
  unfold commW
  rw [find_snoc hx]
  by_cases hj : j = x.loc
  · subst hj; rw [if_pos rfl, if_pos rfl]; rfl
  · rw [if_neg hj, if_neg hj]
theorem commL_dom {s : SnM} {es : List EnV} {k : Int} (h : commL s es k ≠ none) : ∃ e ∈ es, e.loc = k := by
  unfold commL at h
  cases hf : es.find? (fun e => e.loc == k) with
  | none => rw [hf] at h; exact absurd rfl h
  | some e => exact ⟨e, List.mem_of_find?_eq_some hf, by simpa using List.find?_some hf⟩
theorem commW_dom {es : List EnV} {k : Int} (h : commW es k ≠ none) : ∃ e ∈ es, e.loc = k := by
  unfold commW at h
  cases hf : es.find? (fun e => e.loc == k) with
  | none => rw [hf] at h; exact absurd rfl h
  | some e => exact ⟨e, List.mem_of_find?_eq_some hf, by simpa using List.find?_some hf⟩
theorem lastP_mem {l : List (Int × Int)} (h : l ≠ []) : lastP l ∈ l := by
  have h0 : 0 < l.length := List.length_pos_iff.2 h
  have := lastP_get (l := l) (List.getElem?_eq_getElem (show l.length - 1 < l.length by omega))
  rw [this]; exact List.getElem_mem _
def CoInv (s : SnM) (es : List EnV) (k : Nat) (S : St) : Prop :=
  ∃ i N M : Nat, i ≤ es.length ∧ N ≤ 2048 ∧ M ≤ 2048 ∧ k = es.length - i ∧ S = ⟨[(2, .ptr 0 0 0), (4, .ptr 1 0 0), (8, .own 2), (9, .own 3), (24, .sl 6 0 (es.map eEn)), (25, sI es.length), (26, sI i)],
    [(0, .box 30 (eSn s)), (1, .box 30 eZs), (2, .map 44 N (mLists (commL s (es.take i)))), (3, .map 44 M (mWo (commW (es.take i))))], 4⟩
set_option maxHeartbeats 4000000 in
theorem ok_snCommit {s : SnM} (h : SnOk s) (hnow : s.now ≤ 900) {es : List EnV} (hE : EnsAt s es) : Ok 8 [shSn s, .sl 6 0 (es.map eEn)] (.tup [shSn (commitM s es), sI (s.now + 1), sI 0]) := by
  have h1 := hE.ens.len
  have hc2 := h.c2
  have hnow0 := h.now
  have kW := ok_snWith h (L := commL s es) (W := commW es) (fun k hk => by obtain ⟨e, he, rfl⟩ := commL_dom hk; exact (hE.at_ e he).1)
  refine ok_of_tr Try.func8 tr_snCommit rfl ?_
  unfold commitM
  obtain ⟨s', hs'⟩ : ∃ s', s' = withM s (commL s es) (commW es) := ⟨_, rfl⟩
  rw [← hs'] at kW ⊢
  have hrd : s'.rd = s.rd := by rw [hs']; rfl
  have hnw : s'.now = s.now := by rw [hs']; rfl
  clear hs'
  have hL : (eRds s.rd).length = 16 := by rw [eRds_len, h.rd]
  have hO := eRds_one s.rd
  have hA := fun S => eRds_arg S s.rd
  have hT := eRds_take h.rd
  have hF := fun S => eRds_frz S s.rd
  have k0 := ok_snWrong h hE
  have q1 : IntKind.i64.wrap (s.now + 1) = s.now + 1 := by rw [IntKind.wrap_i64]; omega
  have ex : ∀ i : Nat, i ≤ es.length → i = es.length ∨ ∃ x, es[i]? = some x ∧ es.take (i + 1) = es.take i ++ [x] ∧ ∀ y ∈ es.take i, y.loc ≠ x.loc := fun i hi => by
    rcases Nat.lt_or_ge i es.length with h | h
    · have hx1 := List.getElem?_eq_getElem h
      refine .inr ⟨_, hx1, by rw [List.take_add_one, hx1]; rfl, fun y hy => ?_⟩
      obtain ⟨j, hj, rfl⟩ := List.getElem_of_mem hy
      rw [List.length_take] at hj
      refine hE.ens.apart j i _ _ (by omega) ?_ hx1
      rw [List.getElem_take, List.getElem?_eq_getElem (by omega)]
    · exact .inl (by omega)
  unfold evFn sc_snCommit rv_snCommit
  have F1 := And.intro @hL (And.intro @hO (And.intro @hA (And.intro @hT (And.intro @hF (And.intro @q1 (And.intro @hrd @hnw))))))
  refine eS fun K1 hn1 hr1 he1 => ?_
  refine eO fun K2 hk2 => ?_
  refine tL F1 ?_
  refine hk2 _ ?_
  refine hn1 (some ([1, 2, 4], none)) _ ?_
  refine eS fun K3 hn3 hr3 he3 => ?_
  refine eS fun K4 hn4 hr4 he4 => ?_
  refine eO fun K5 hk5 => ?_
  refine tC 1 F1 ?_
  refine tS 1 F1 ?_
  refine tS 1 F1 ?_
  refine Or.inl (Or.inl ⟨_, k0, ?_⟩)
  refine tL F1 ?_
  refine hk5 _ ?_
  refine hn4 (some ([1, 2, 4, 7], none)) _ ?_
  refine eS fun K6 hn6 hr6 he6 => ?_
  refine eO fun K7 hk7 => ?_
  refine tZ F1 ?_
  refine hk7 _ ?_
  refine hn6 (some ([1, 2, 4, 7, 19], none)) _ ?_
  refine eCf ?_
  refine hn3 (some ([1, 2, 4], none)) _ ?_
  refine eS fun K8 hn8 hr8 he8 => ?_
  refine eO fun K9 hk9 => ?_
  refine tL F1 ?_
  refine hk9 _ ?_
  refine hn8 (some ([1, 2, 4, 8, 9], none)) _ ?_
  refine eS fun K10 hn10 hr10 he10 => ?_
  refine eS fun K11 hn11 hr11 he11 => ?_
  refine eO fun K12 hk12 => ?_
  refine tL F1 ?_
  refine hk12 _ ?_
  refine hn11 (some ([2, 4, 8, 9, 24, 25, 26], none)) _ ?_
  refine eB fun K13 hn13 hx13 hr13 he13 => ?_
  refine eW (CoInv s es) (es.length) (some ([2, 4, 8, 9, 24, 25, 26], some ([0, 1, 2, 3], 4))) ([]) ?_ ?_
  · try refine lp0 ?_
    refine ⟨0, 0, 0, by omega, by omega, by omega, by omega, ?_⟩
    simp only [eRds_refs, eRds_ren, if_true] <;> rfl
  · intro k S1 hI
    obtain ⟨i, N, M, hi, hN, hM, rfl, rfl⟩ := hI
    intro K14 hn14 hr14 he14
    rcases ex i hi with hcc | ⟨x, hx1, htk, hap⟩
    · skip
      have w2 : ¬ (i : Int) < (es.length : Int) := by omega
      have e1 : es.take i = es := List.take_of_length_le (by omega)
      have F2 := And.intro F1 (And.intro @w2 @e1)
      refine eS fun K15 hn15 hr15 he15 => ?_
      refine eO fun K16 hk16 => ?_
      refine tZ F2 ?_
      refine hk16 _ ?_
      refine hn15 (some ([2, 4, 8, 9, 24, 25, 26, 27], none)) _ ?_
      refine eS fun K17 hn17 hr17 he17 => ?_
      refine eCf ?_
      refine he17 0 _ ?_
      refine he14 0 _ ?_
      refine hx13 _ ?_
      refine hn10 (some ([2, 4, 8, 9], none)) _ ?_
      refine eS fun K18 hn18 hr18 he18 => ?_
      refine eS fun K19 hn19 hr19 he19 => ?_
      refine eO fun K20 hk20 => ?_
      refine tS 1 F2 ?_
      refine tS 1 F2 ?_
      refine fun nl0 hl0 => ?_
      have hd : ((nl0 : Int) == 0) = false := by
        obtain ⟨l, hl1, hl2, hl3⟩ := hl0
        obtain ⟨x, r, hxr⟩ : ∃ x r, es = x :: r := by
          cases hes : es with
          | nil => exact absurd hes hE.ens.ne
          | cons x r => exact ⟨x, r, rfl⟩
        have : x.loc ∈ l := (hl3 x.loc).1 (by rw [hxr]; simp [commL])
        have := List.length_pos_of_mem this
        simp; omega
      have F3 := And.intro F2 @hd
      refine tZ F3 ?_
      refine hk20 _ ?_
      refine hn19 (some ([2, 4, 8, 9, 60], none)) _ ?_
      refine eCf ?_
      refine hn18 (some ([2, 4, 8, 9], none)) _ ?_
      refine eS fun K21 hn21 hr21 he21 => ?_
      refine eO fun K22 hk22 => ?_
      refine tC 1 F3 ?_
      refine tS 2 F3 ?_
      refine tS 1 F3 ?_
      refine Or.inl (Or.inl ⟨_, kW, ?_⟩)
      refine tZ F3 ?_
      refine hk22 _ ?_
      refine hn21 (some ([4, 14], none)) _ ?_
      refine eS fun K23 hn23 hr23 he23 => ?_
      refine eO fun K24 hk24 => ?_
      refine tC 2 F3 ?_
      refine tC 1 F3 ?_
      refine tZ F3 ?_
      refine hk24 _ ?_
      refine hn23 (some ([4, 14], none)) _ ?_
      refine eS fun K25 hn25 hr25 he25 => ?_
      refine eQ ([]) ?_ (fun K26 hk26 => ?_) ?_
      rotate_left
      · skip
        refine evTr_flo rfl fun K27 hk27 => ?_
        refine sh1 F3 ?_
        refine hk27 _ ?_
        refine ⟨?_, ?_⟩
        · skip
          refine evTr_step rfl fun K28 hk28 => ?_
          refine sh1 F3 ?_
          refine sd ?_
          refine hk28 _ ?_
          refine ⟨?_, ?_⟩
          · skip
            refine evTr_step rfl fun K29 hk29 => ?_
            refine sh1 F3 ?_
            refine sd ?_
            refine hk29 _ ?_
            refine evTr_step rfl fun K30 hk30 => ?_
            refine sh1 F3 ?_
            refine sd ?_
            refine hk30 _ ?_
            refine evTr_flo rfl fun K31 hk31 => ?_
            refine sh1 F3 ?_
            refine hk31 _ ?_
            refine evTr_flo rfl fun K32 hk32 => ?_
            refine sh1 F3 ?_
            refine hk32 _ ?_
            refine hk26 _ (some ([4, 5, 6], none)) ?_
            exact sl0
          · skip
            refine evTr_step rfl fun K33 hk33 => ?_
            refine sh1 F3 ?_
            refine sd ?_
            refine hk33 _ ?_
            refine evTr_step rfl fun K34 hk34 => ?_
            refine sh1 F3 ?_
            refine sd ?_
            refine hk34 _ ?_
            refine evTr_flo rfl fun K35 hk35 => ?_
            refine sh1 F3 ?_
            refine hk35 _ ?_
            refine evTr_flo rfl fun K36 hk36 => ?_
            refine sh1 F3 ?_
            refine hk36 _ ?_
            refine hk26 _ (some ([4, 5, 6], none)) ?_
            exact sl0
        · skip
          refine evTr_step rfl fun K37 hk37 => ?_
          refine sh1 F3 ?_
          refine sd ?_
          refine hk37 _ ?_
          refine evTr_step rfl fun K38 hk38 => ?_
          refine sh1 F3 ?_
          refine sd ?_
          refine hk38 _ ?_
          refine evTr_step rfl fun K39 hk39 => ?_
          refine sh1 F3 ?_
          refine sd ?_
          refine hk39 _ ?_
          refine evTr_flo rfl fun K40 hk40 => ?_
          refine sh1 F3 ?_
          refine hk40 _ ?_
          refine evTr_flo rfl fun K41 hk41 => ?_
          refine sh1 F3 ?_
          refine hk41 _ ?_
          refine hk26 _ (some ([4, 5, 6], none)) ?_
          exact sl0
      refine hn25 (some ([4, 5, 6], none)) _ ?_
      exact sf1 F3
    · skip
      have hlt := (List.getElem?_eq_some_iff.1 hx1).1
      have w2 : (i : Int) < (es.length : Int) := by omega
      have w3 : IntKind.i64.wrap ((i : Int) + 1) = ((i + 1 : Nat) : Int) := by rw [IntKind.wrap_i64]; omega
      have hxm := List.mem_of_getElem? hx1
      have hin := (hE.at_ x hxm).1
      have kl := ok_snList h x.loc
      have hne := h.ne x.loc hin
      have kd := ok_veAdd (listM s x.loc) (s.now + 1) x.new (by omega) (.inr (by have := (h.last x.loc _ (lastP_mem hne)).2; omega)) (by have := h.len x.loc; omega)
      have hxb := (hE.ens.ok x hxm)
      have b1 : -9223372036854775808 ≤ x.loc := by have := hxb.1; omega
      have b2 : x.loc ≤ 9223372036854775807 := by have := hxb.2.1; omega
      have hdm : ∀ k, commL s (es.take i) k ≠ none → 0 ≤ k ∧ k < 2048 := fun k hk => by
        obtain ⟨e, he, rfl⟩ := commL_dom hk
        have := hE.ens.ok e (List.mem_of_mem_take he)
        exact ⟨this.1, this.2.1⟩
      have hdw : ∀ k, commW (es.take i) k ≠ none → 0 ≤ k ∧ k < 2048 := fun k hk => by
        obtain ⟨e, he, rfl⟩ := commW_dom hk
        have := hE.ens.ok e (List.mem_of_mem_take he)
        exact ⟨this.1, this.2.1⟩
      have hb1 := bd_of shVl ⟨hxb.1, hxb.2.1⟩ hdm
      have hb2 := bd_of sB ⟨hxb.1, hxb.2.1⟩ hdw
      have F4 := And.intro F1 (And.intro @w2 (And.intro @w3 @hx1))
      refine eS fun K42 hn42 hr42 he42 => ?_
      refine eO fun K43 hk43 => ?_
      refine tZ F4 ?_
      refine hk43 _ ?_
      refine hn42 (some ([2, 4, 8, 9, 24, 25, 26, 27], none)) _ ?_
      refine eS fun K44 hn44 hr44 he44 => ?_
      refine eCt ?_
      refine hn44 (some ([2, 4, 8, 9, 24, 25, 26], none)) _ ?_
      refine eS fun K45 hn45 hr45 he45 => ?_
      refine eB fun K46 hn46 hx46 hr46 he46 => ?_
      refine eS fun K47 hn47 hr47 he47 => ?_
      refine eO fun K48 hk48 => ?_
      refine tC 1 F4 ?_
      refine tC 1 F4 ?_
      refine tZ F4 ?_
      refine hk48 _ ?_
      refine hn47 (some ([2, 4, 8, 9, 11, 24, 25, 26], none)) _ ?_
      refine eS fun K49 hn49 hr49 he49 => ?_
      refine eS fun K50 hn50 hr50 he50 => ?_
      refine eO fun K51 hk51 => ?_
      refine tC 2 F4 ?_
      refine tL F4 ?_
      refine hk51 _ ?_
      refine hn50 (some ([2, 4, 8, 9, 11, 24, 25, 26, 32], none)) _ ?_
      refine eCf ?_
      refine hn49 (some ([2, 4, 8, 9, 11, 24, 25, 26], none)) _ ?_
      refine eS fun K52 hn52 hr52 he52 => ?_
      refine eD [] (n := 14) fun K53 hk53 => ?_
      refine sq0 ?_
      refine fC 1 F4 ?_
      refine fC 2 F4 ?_
      refine fS 1 F4 ?_
      refine ⟨_, kl, ?_⟩
      refine fC 2 F4 ?_
      refine fC 1 F4 ?_
      refine fC 2 F4 ?_
      refine fS 1 F4 ?_
      refine ⟨_, kd, ?_⟩
      refine fL F4 ?_
      refine hk53 _ ?_
      refine sr0 ?_
      refine tC 1 F4 ?_
      refine tL F4 ?_
      refine hn52 (some ([2, 4, 8, 9, 11, 12, 13, 24, 25, 26], none)) _ ?_
      refine eS fun K55 hn55 hr55 he55 => ?_
      refine eS fun K56 hn56 hr56 he56 => ?_
      refine eO fun K57 hk57 => ?_
      refine tZ F4 ?_
      refine hk57 _ ?_
      refine hn56 (some ([2, 4, 8, 9, 11, 12, 13, 24, 25, 26, 47], none)) _ ?_
      refine eCf ?_
      refine hn55 (some ([2, 4, 8, 9, 11, 12, 24, 25, 26], none)) _ ?_
      refine eQ ([]) ?_ (fun K58 hk58 => ?_) ?_
      rotate_left
      · skip
        refine evTr_flo rfl fun K59 hk59 => ?_
        refine sh1 F4 ?_
        refine hk59 _ ?_
        refine evTr_flo rfl fun K60 hk60 => ?_
        refine sh1 F4 ?_
        refine hk60 _ ?_
        refine evTr_flo rfl fun K61 hk61 => ?_
        refine sh1 F4 ?_
        refine hk61 _ ?_
        refine evTr_flo rfl fun K62 hk62 => ?_
        refine sh1 F4 ?_
        refine hk62 _ ?_
        refine ⟨?_, ?_⟩
        · skip
          refine ⟨?_, ?_⟩
          · skip
            refine evTr_step rfl fun K63 hk63 => ?_
            refine sh1 F4 ?_
            refine sd ?_
            refine hk63 _ ?_
            refine ⟨?_, ?_⟩
            · skip
              refine evTr_step rfl fun K64 hk64 => ?_
              refine sh1 F4 ?_
              refine sd ?_
              refine hk64 _ ?_
              refine evTr_step rfl fun K65 hk65 => ?_
              refine sh1 F4 ?_
              refine sd ?_
              refine hk65 _ ?_
              refine evTr_step rfl fun K66 hk66 => ?_
              refine sh1 F4 ?_
              refine sd ?_
              refine Or.inr ⟨2048, ⟨by decide, hb1 _⟩, ?_⟩
              refine hk66 _ ?_
              refine evTr_step rfl fun K67 hk67 => ?_
              refine sh1 F4 ?_
              refine sd ?_
              refine Or.inr ⟨2048, ⟨by decide, hb2 _⟩, ?_⟩
              refine hk67 _ ?_
              refine hk58 _ (some ([2, 4, 8, 9, 24, 25, 26], none)) ?_
              exact sl0
            · skip
              refine evTr_step rfl fun K68 hk68 => ?_
              refine sh1 F4 ?_
              refine sd ?_
              refine hk68 _ ?_
              refine ⟨?_, ?_⟩
              · skip
                refine evTr_step rfl fun K69 hk69 => ?_
                refine sh1 F4 ?_
                refine sd ?_
                refine hk69 _ ?_
                refine evTr_step rfl fun K70 hk70 => ?_
                refine sh1 F4 ?_
                refine sd ?_
                refine Or.inr ⟨2048, ⟨by decide, hb1 _⟩, ?_⟩
                refine hk70 _ ?_
                refine evTr_step rfl fun K71 hk71 => ?_
                refine sh1 F4 ?_
                refine sd ?_
                refine Or.inr ⟨2048, ⟨by decide, hb2 _⟩, ?_⟩
                refine hk71 _ ?_
                refine hk58 _ (some ([2, 4, 8, 9, 24, 25, 26], none)) ?_
                exact sl0
              · skip
                refine evTr_step rfl fun K72 hk72 => ?_
                refine sh1 F4 ?_
                refine sd ?_
                refine Or.inr ⟨2048, ⟨by decide, hb1 _⟩, ?_⟩
                refine hk72 _ ?_
                refine evTr_step rfl fun K73 hk73 => ?_
                refine sh1 F4 ?_
                refine sd ?_
                refine hk73 _ ?_
                refine evTr_step rfl fun K74 hk74 => ?_
                refine sh1 F4 ?_
                refine sd ?_
                refine Or.inr ⟨2048, ⟨by decide, hb2 _⟩, ?_⟩
                refine hk74 _ ?_
                refine hk58 _ (some ([2, 4, 8, 9, 24, 25, 26], none)) ?_
                exact sl0
          · skip
            refine evTr_step rfl fun K75 hk75 => ?_
            refine sh1 F4 ?_
            refine sd ?_
            refine hk75 _ ?_
            refine ⟨?_, ?_⟩
            · skip
              refine evTr_step rfl fun K76 hk76 => ?_
              refine sh1 F4 ?_
              refine sd ?_
              refine hk76 _ ?_
              refine evTr_step rfl fun K77 hk77 => ?_
              refine sh1 F4 ?_
              refine sd ?_
              refine hk77 _ ?_
              refine evTr_step rfl fun K78 hk78 => ?_
              refine sh1 F4 ?_
              refine sd ?_
              refine Or.inr ⟨2048, ⟨by decide, hb1 _⟩, ?_⟩
              refine hk78 _ ?_
              refine evTr_step rfl fun K79 hk79 => ?_
              refine sh1 F4 ?_
              refine sd ?_
              refine Or.inr ⟨2048, ⟨by decide, hb2 _⟩, ?_⟩
              refine hk79 _ ?_
              refine hk58 _ (some ([2, 4, 8, 9, 24, 25, 26], none)) ?_
              exact sl0
            · skip
              refine evTr_step rfl fun K80 hk80 => ?_
              refine sh1 F4 ?_
              refine sd ?_
              refine hk80 _ ?_
              refine evTr_step rfl fun K81 hk81 => ?_
              refine sh1 F4 ?_
              refine sd ?_
              refine hk81 _ ?_
              refine evTr_step rfl fun K82 hk82 => ?_
              refine sh1 F4 ?_
              refine sd ?_
              refine Or.inr ⟨2048, ⟨by decide, hb1 _⟩, ?_⟩
              refine hk82 _ ?_
              refine evTr_step rfl fun K83 hk83 => ?_
              refine sh1 F4 ?_
              refine sd ?_
              refine Or.inr ⟨2048, ⟨by decide, hb2 _⟩, ?_⟩
              refine hk83 _ ?_
              refine hk58 _ (some ([2, 4, 8, 9, 24, 25, 26], none)) ?_
              exact sl0
        · skip
          refine evTr_step rfl fun K84 hk84 => ?_
          refine sh1 F4 ?_
          refine sd ?_
          refine hk84 _ ?_
          refine ⟨?_, ?_⟩
          · skip
            refine evTr_step rfl fun K85 hk85 => ?_
            refine sh1 F4 ?_
            refine sd ?_
            refine hk85 _ ?_
            refine ⟨?_, ?_⟩
            · skip
              refine evTr_step rfl fun K86 hk86 => ?_
              refine sh1 F4 ?_
              refine sd ?_
              refine hk86 _ ?_
              refine evTr_step rfl fun K87 hk87 => ?_
              refine sh1 F4 ?_
              refine sd ?_
              refine Or.inr ⟨2048, ⟨by decide, hb1 _⟩, ?_⟩
              refine hk87 _ ?_
              refine evTr_step rfl fun K88 hk88 => ?_
              refine sh1 F4 ?_
              refine sd ?_
              refine Or.inr ⟨2048, ⟨by decide, hb2 _⟩, ?_⟩
              refine hk88 _ ?_
              refine hk58 _ (some ([2, 4, 8, 9, 24, 25, 26], none)) ?_
              exact sl0
            · skip
              refine evTr_step rfl fun K89 hk89 => ?_
              refine sh1 F4 ?_
              refine sd ?_
              refine Or.inr ⟨2048, ⟨by decide, hb1 _⟩, ?_⟩
              refine hk89 _ ?_
              refine evTr_step rfl fun K90 hk90 => ?_
              refine sh1 F4 ?_
              refine sd ?_
              refine hk90 _ ?_
              refine evTr_step rfl fun K91 hk91 => ?_
              refine sh1 F4 ?_
              refine sd ?_
              refine Or.inr ⟨2048, ⟨by decide, hb2 _⟩, ?_⟩
              refine hk91 _ ?_
              refine hk58 _ (some ([2, 4, 8, 9, 24, 25, 26], none)) ?_
              exact sl0
          · skip
            refine evTr_step rfl fun K92 hk92 => ?_
            refine sh1 F4 ?_
            refine sd ?_
            refine hk92 _ ?_
            refine evTr_step rfl fun K93 hk93 => ?_
            refine sh1 F4 ?_
            refine sd ?_
            refine hk93 _ ?_
            refine evTr_step rfl fun K94 hk94 => ?_
            refine sh1 F4 ?_
            refine sd ?_
            refine Or.inr ⟨2048, ⟨by decide, hb1 _⟩, ?_⟩
            refine hk94 _ ?_
            refine evTr_step rfl fun K95 hk95 => ?_
            refine sh1 F4 ?_
            refine sd ?_
            refine Or.inr ⟨2048, ⟨by decide, hb2 _⟩, ?_⟩
            refine hk95 _ ?_
            refine hk58 _ (some ([2, 4, 8, 9, 24, 25, 26], none)) ?_
            exact sl0
      refine hn46 _ ?_
      refine hn45 (some ([2, 4, 8, 9, 24, 25, 26], none)) _ ?_
      refine eO fun K96 hk96 => ?_
      refine tC 1 F4 ?_
      refine tL F4 ?_
      refine hk96 _ ?_
      refine hn14 (es.length - (i + 1)) (some ([2, 4, 8, 9, 24, 25, 26], some ([0, 1, 2, 3], 4))) _ ?_ ?_
      all_goals try refine lp0 ?_
      · omega
      · refine ⟨i + 1, 2048, 2048, by omega, by omega, by omega, rfl, ?_⟩
        rw [htk, ← commL_snoc s hap, ← commW_snoc hap]
        simp only [eRds_refs, eRds_ren, if_true] <;> rfl
end Go.Proofs.Ytijblpkdfmkcfaa

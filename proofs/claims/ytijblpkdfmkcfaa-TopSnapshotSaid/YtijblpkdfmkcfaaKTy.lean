/-
  TopSnapshot by shadows: an act that commits to one cell.
-/
import Derived.Test.YtijblpkdfmkcfaaKTx
namespace Go.Proofs.Ytijblpkdfmkcfaa
set_option linter.unusedSimpArgs false
set_option linter.unusedVariables false
open Go.RowKit Go.Maps

theorem i5_set {w : List Int} {c : Nat} (h : c < w.length) (z : Int) : List.take c (w.map sI) ++ [sI z] ++ List.drop (c + 1) (w.map sI) = (w.set c z).map sI := by
  induction w generalizing c with
  | nil => simp at h
  | cons y w ih =>
    cases c with
    | zero => rfl
    | succ c =>
      have := ih (c := c) (by simpa using h)
      simp only [List.map_cons, List.take_succ_cons, List.drop_succ_cons, List.cons_append, List.set_cons_succ] at this ⊢
      rw [this]
theorem u5_set {w : List Int} {c : Nat} (h : c < w.length) (z : Int) : List.take c (w.map sU) ++ [sU z] ++ List.drop (c + 1) (w.map sU) = (w.set c z).map sU := by
  induction w generalizing c with
  | nil => simp at h
  | cons y w ih =>
    cases c with
    | zero => rfl
    | succ c =>
      have := ih (c := c) (by simpa using h)
      simp only [List.map_cons, List.take_succ_cons, List.drop_succ_cons, List.cons_append, List.set_cons_succ] at this ⊢
      rw [this]
theorem TsI.inRng {n : Nat} {v : TsV} (h : TsI n v) {d : Int} {left : Int → Bool} {f : Int → Option Int} (hf : ∀ r, f r = if left r = true then v.si r else (v.si r).map (· + d)) {j mm : Int} (hl : left j = true) (hm : f j = some mm) :
    v.si j = some mm ∧ 0 ≤ mm ∧ mm ≤ 2 * n ∧ 0 ≤ j ∧ j < 9 := by
  have h1 := hf j
  rw [if_pos hl, hm] at h1
  have h2 := h.sib h1.symm
  have h3 := h.keyS (r := j) (by rw [← h1]; simp)
  exact ⟨h1.symm, h2.1, h2.2, h3⟩
/-- The loop that counts the writes since a reader was opened: l the entries, ids the slots and parts that it only keeps. -/
def LcInv (t : SnM) (v : TsV) (N M : Nat) (A : Sh) (m i : Int) (x : ActT) (a b : Int) (L : List (List Sh)) (d : Int) (k : Nat) (S : St) : Prop :=
  ∃ q left cur f, (∀ r, f r = if left r = true then v.si r else (v.si r).map (· + d)) ∧ S = ⟨[(3, .ptr 0 0 0), (5, .ptr 1 0 0), (6, .ptr 2 0 0), (7, .own 3), (8, .own 4), (10, .ptr 5 0 0), (11, sI a), (12, sI b), (23, .own 6), (55, A), (56, sI m), (57, sI i), (113, .own 7)],
   [(0, .box 30 (eSn t)), (1, .box 34 (v.now.map sI)), (2, .box 36 (v.vers.map sU)), (3, .map 3 N (mWor v.wo)), (4, .mpr q 3 M (mSi f)), (5, .box 40 (eAct x)), (6, .frz (.sl 6 0 L)), (7, .itm q 3 left k cur)], 8⟩
set_option maxHeartbeats 4000000 in
theorem ts_c1 {acts : List ActT} {i : Nat} {x : ActT} {ia iq : Nat} (hA : ActAt acts i x ia ia iq) {v : TsV} {N M : Nat} (hT : TsI i v) (hN : N ≤ 9) (hM : M ≤ 9) (d2 : (x.op.tmod 4 == 2) = false) (d3 : (x.op.tmod 4 == 3) = false)
    {K : Ex → St → Prop} (hK : BodyK acts i K) : ev sc_TsBody (tsS v N M (.sl 6 2 (acts.map eAct)) acts.length i) K := by
  have hv := rdF _ hT.ok.rd
  have ha5 := hA.a5
  have hlt := hA.lt
  have hl6 := hA.len
  obtain ⟨ni, hni⟩ : ∃ z, v.now[ia]? = some z := ⟨_, List.getElem?_eq_getElem (by rw [hT.l1]; exact ha5)⟩
  obtain ⟨vi, hvi⟩ : ∃ z, v.vers[ia]? = some z := ⟨_, List.getElem?_eq_getElem (by rw [hT.l2]; exact ha5)⟩
  have hvb := (hT.ver ia vi hvi).2
  have hE := hT.ens1 (by omega) (V := x.v) hni hvi
  have kc := ok_snCommit hT.ok (by have := hT.nw; omega) hE
  have hT2 := hT.comm1 (by omega) (V := x.v) hni hvi
  simp only [List.map_cons, List.map_nil] at kc
  generalize commitM v.s [⟨ia, ni, vi, x.v⟩] = t at kc hT2
  have hv2 := rdF t hT2.ok.rd
  have l1 : v.now.length = 5 := hT.l1
  have l2 : v.vers.length = 5 := hT.l2
  have e1 := i5_set (w := v.now) (c := ia) (by omega) x.v
  have e2 := u5_set (w := v.vers) (c := ia) (by omega) (vi + 1)
  have g1 : (v.now.map sI)[ia]? = some (sI ni) := by rw [List.getElem?_map, hni]; rfl
  have g2 : (v.vers.map sU)[ia]? = some (sU vi) := by rw [List.getElem?_map, hvi]; rfl
  have w1 : IntKind.u32.wrap (vi + 1) = vi + 1 := by rw [IntKind.wrap_u32]; omega
  have w2 : (ia : Int) < 5 := by omega
  have hsb := fun r mm => @TsI.sib _ _ hT r mm
  clear hE hni hvi
  unfold tsS
  unfold sc_TsBody
  have F1 := And.intro @hv (And.intro @sh_nil (And.intro @i5_one (And.intro @hA.all (And.intro @d2 (And.intro @d3 (And.intro @Nat.mul_one (And.intro @hv2 (And.intro @w1 (And.intro @w2 (And.intro @l1 (And.intro @l2 (And.intro @g1 (And.intro @g2 (And.intro @i5_arg @i5_frz))))))))))))))
  refine eS fun K1 hn1 hr1 he1 => ?_
  refine eB fun K2 hn2 hx2 hr2 he2 => ?_
  refine eS fun K3 hn3 hr3 he3 => ?_
  refine eO fun K4 hk4 => ?_
  refine tC 1 F1 ?_
  refine tC 1 F1 ?_
  refine tZ F1 ?_
  refine hk4 _ ?_
  refine hn3 (some ([3, 5, 6, 7, 8, 10, 55, 56, 57], none)) _ ?_
  refine eS fun K5 hn5 hr5 he5 => ?_
  refine eD [] (n := 9) fun K6 hk6 => ?_
  refine sq0 ?_
  refine fC 2 F1 ?_
  refine fC 1 F1 ?_
  refine fC 3 F1 ?_
  refine fC 1 F1 ?_
  refine fL F1 ?_
  refine hk6 _ ?_
  refine sr0 ?_
  refine tL F1 ?_
  refine hn5 (some ([3, 5, 6, 7, 8, 10, 11, 12, 55, 56, 57], none)) _ ?_
  refine eS fun K8 hn8 hr8 he8 => ?_
  refine eS fun K9 hn9 hr9 he9 => ?_
  refine eO fun K10 hk10 => ?_
  refine tC 2 F1 ?_
  refine tZ F1 ?_
  refine hk10 _ ?_
  refine hn9 (some ([3, 5, 6, 7, 8, 10, 11, 12, 55, 56, 57, 71], none)) _ ?_
  refine eB fun K11 hn11 hx11 hr11 he11 => ?_
  refine eS fun K12 hn12 hr12 he12 => ?_
  refine eO fun K13 hk13 => ?_
  refine tC 1 F1 ?_
  refine tL F1 ?_
  refine hk13 _ ?_
  refine hn12 (some ([3, 5, 6, 7, 8, 10, 11, 12, 55, 56, 57, 71, 148], none)) _ ?_
  refine eCf ?_
  refine eS fun K14 hn14 hr14 he14 => ?_
  refine eO fun K15 hk15 => ?_
  refine tC 1 F1 ?_
  refine tL F1 ?_
  refine hk15 _ ?_
  refine hn14 (some ([3, 5, 6, 7, 8, 10, 11, 12, 55, 56, 57, 178], none)) _ ?_
  refine eCf ?_
  refine eS fun K16 hn16 hr16 he16 => ?_
  refine eD [] (n := 10) fun K17 hk17 => ?_
  refine sq0 ?_
  refine fC 3 F1 ?_
  refine fC 1 F1 ?_
  refine fC 2 F1 ?_
  refine fC 1 F1 ?_
  refine fZ F1 ?_
  refine hk17 _ ?_
  refine sr0 ?_
  refine tL F1 ?_
  refine hn16 (some ([3, 5, 6, 7, 8, 10, 11, 12, 23, 55, 56, 57], none)) _ ?_
  refine eS fun K19 hn19 hr19 he19 => ?_
  refine eS fun K20 hn20 hr20 he20 => ?_
  refine eO fun K21 hk21 => ?_
  refine tZ F1 ?_
  refine hk21 _ ?_
  refine hn20 (some ([3, 5, 6, 7, 8, 10, 11, 12, 23, 55, 56, 57, 86], none)) _ ?_
  refine eCf ?_
  refine hn19 (some ([3, 5, 6, 7, 8, 10, 11, 12, 23, 55, 56, 57], none)) _ ?_
  refine eS fun K22 hn22 hr22 he22 => ?_
  refine eO fun K23 hk23 => ?_
  refine tC 1 F1 ?_
  refine tS 1 F1 ?_
  refine tS 1 F1 ?_
  refine Or.inl (Or.inl ⟨_, kc, ?_⟩)
  refine tC 6 F1 ?_
  refine tL F1 ?_
  refine hk23 _ ?_
  refine hn22 (some ([3, 5, 6, 7, 8, 10, 11, 12, 23, 24, 26, 55, 56, 57], none)) _ ?_
  refine eS fun K24 hn24 hr24 he24 => ?_
  refine eS fun K25 hn25 hr25 he25 => ?_
  refine eO fun K26 hk26 => ?_
  refine tZ F1 ?_
  refine hk26 _ ?_
  refine hn25 (some ([3, 5, 6, 7, 8, 10, 11, 12, 23, 24, 55, 56, 57, 110], none)) _ ?_
  refine eCf ?_
  refine hn24 (some ([3, 5, 6, 7, 8, 10, 11, 12, 23, 24, 55, 56, 57], none)) _ ?_
  refine eS fun K27 hn27 hr27 he27 => ?_
  refine eO fun K28 hk28 => ?_
  refine tC 1 F1 ?_
  refine tZ F1 ?_
  refine hk28 _ ?_
  refine hn27 (some ([3, 5, 6, 7, 8, 10, 11, 12, 23, 55, 56, 57], none)) _ ?_
  refine eS fun K29 hn29 hr29 he29 => ?_
  refine eS fun K30 hn30 hr30 he30 => ?_
  refine eO fun K31 hk31 => ?_
  refine tS 1 F1 ?_
  refine tL F1 ?_
  refine Or.inr (evRngO_mk (by rfl) (by rfl) (fun q0 cnt0 => ?_))
  refine sh1 F1 ?_
  refine hk31 _ ?_
  refine hn30 (some ([3, 5, 6, 7, 8, 10, 11, 12, 23, 55, 56, 57, 113], none)) _ ?_
  refine eB fun K32 hn32 hx32 hr32 he32 => ?_
  refine eW (LcInv t v N M (.sl 6 2 (acts.map eAct)) acts.length i x ia ia [eEn ⟨ia, ni, vi, x.v⟩] 1) (cnt0) (some ([3, 5, 6, 7, 8, 10, 11, 12, 23, 55, 56, 57, 113], some ([0, 1, 2, 3, 4, 5, 6, 8], 8))) ([]) ?_ ?_
  · try refine lp0 ?_
    refine ⟨q0, fun j => (mSi v.si j).isSome, none, v.si, fun r => by cases h : v.si r <;> simp [h], ?_⟩
    (try simp only [eRds_refs, eRds_ren, i5_refs, i5_ren, u5_refs, u5_ren, if_true, and_self]) <;> rfl
  · intro k S1 hI
    obtain ⟨q, left, cur, f, hf, rfl⟩ := hI
    intro K33 hn33 hr33 he33
    refine eS fun K34 hn34 hr34 he34 => ?_
    refine eO fun K35 hk35 => ?_
    refine tS 1 F1 ?_
    refine evItm_mk 4 (by rfl) ?_
    refine ⟨fun hno => ?_, fun jj sj cj hj1 hj2 hj3 hj4 hj5 => ?_⟩
    · skip
      have hf' : f = fun r => (v.si r).map (· + 1) := funext fun r => by rw [hf r, hno r]; rfl
      subst hf'
      refine tL F1 ?_
      refine hk35 _ ?_
      refine hn34 (some ([3, 5, 6, 7, 8, 10, 11, 12, 23, 55, 56, 57, 113, 115], none)) _ ?_
      refine eS fun K36 hn36 hr36 he36 => ?_
      refine eC rfl (fun hx => absurd hx (by cases hx)) (fun hc8 => ?_)
      clear hc8
      refine he36 3 _ ?_
      refine he33 3 _ ?_
      refine hx32 _ ?_
      refine hn29 (some ([3, 5, 6, 7, 8, 10, 11, 12, 55, 56, 57], none)) _ ?_
      refine eS fun K37 hn37 hr37 he37 => ?_
      refine eQ ([.unr 4]) ?_ (fun K38 hk38 => ?_) ?_
      rotate_left
      · skip
        refine evTr_flo rfl fun K39 hk39 => ?_
        refine sh1 F1 ?_
        refine hk39 _ ?_
        refine evTr_flo rfl fun K40 hk40 => ?_
        refine sh1 F1 ?_
        refine hk40 _ ?_
        refine evTr_flo rfl fun K41 hk41 => ?_
        refine sh1 F1 ?_
        refine hk41 _ ?_
        refine evTr_flo rfl fun K42 hk42 => ?_
        refine sh1 F1 ?_
        refine hk42 _ ?_
        refine ⟨?_, ?_⟩
        · skip
          refine evTr_step rfl fun K43 hk43 => ?_
          refine sh1 F1 ?_
          refine sd ?_
          refine hk43 _ ?_
          refine ⟨?_, ?_⟩
          · skip
            refine evTr_step rfl fun K44 hk44 => ?_
            refine sh1 F1 ?_
            refine sd ?_
            refine hk44 _ ?_
            refine ⟨?_, ?_⟩
            · skip
              refine evTr_step rfl fun K45 hk45 => ?_
              refine sh1 F1 ?_
              refine sd ?_
              refine hk45 _ ?_
              refine evTr_flo rfl fun K46 hk46 => ?_
              refine sh1 F1 ?_
              refine sd ?_
              refine hk46 _ ?_
              refine evTr_step rfl fun K47 hk47 => ?_
              refine sh1 F1 ?_
              refine sd ?_
              refine hk47 _ ?_
              refine evTr_step rfl fun K48 hk48 => ?_
              refine sh1 F1 ?_
              refine sd ?_
              refine hk48 _ ?_
              refine evTr_step rfl fun K49 hk49 => ?_
              refine sh1 F1 ?_
              refine sd ?_
              refine hk49 _ ?_
              refine evTr_step rfl fun K50 hk50 => ?_
              refine sh1 F1 ?_
              refine sd ?_
              refine hk50 _ ?_
              refine hk38 _ (some ([3, 5, 6, 7, 8, 10, 11, 12, 55, 56, 57], none)) ?_
              exact sl0
            · skip
              refine evTr_step rfl fun K51 hk51 => ?_
              refine sh1 F1 ?_
              refine sd ?_
              refine hk51 _ ?_
              refine ⟨?_, ?_⟩
              · skip
                refine evTr_step rfl fun K52 hk52 => ?_
                refine sh1 F1 ?_
                refine sd ?_
                refine hk52 _ ?_
                refine evTr_flo rfl fun K53 hk53 => ?_
                refine sh1 F1 ?_
                refine sd ?_
                refine hk53 _ ?_
                refine evTr_step rfl fun K54 hk54 => ?_
                refine sh1 F1 ?_
                refine sd ?_
                refine hk54 _ ?_
                refine evTr_step rfl fun K55 hk55 => ?_
                refine sh1 F1 ?_
                refine sd ?_
                refine hk55 _ ?_
                refine evTr_step rfl fun K56 hk56 => ?_
                refine sh1 F1 ?_
                refine sd ?_
                refine hk56 _ ?_
                refine hk38 _ (some ([3, 5, 6, 7, 8, 10, 11, 12, 55, 56, 57], none)) ?_
                exact sl0
              · skip
                refine evTr_step rfl fun K57 hk57 => ?_
                refine sh1 F1 ?_
                refine sd ?_
                refine hk57 _ ?_
                refine evTr_step rfl fun K58 hk58 => ?_
                refine sh1 F1 ?_
                refine sd ?_
                refine hk58 _ ?_
                refine evTr_flo rfl fun K59 hk59 => ?_
                refine sh1 F1 ?_
                refine sd ?_
                refine hk59 _ ?_
                refine evTr_step rfl fun K60 hk60 => ?_
                refine sh1 F1 ?_
                refine sd ?_
                refine hk60 _ ?_
                refine evTr_step rfl fun K61 hk61 => ?_
                refine sh1 F1 ?_
                refine sd ?_
                refine hk61 _ ?_
                refine hk38 _ (some ([3, 5, 6, 7, 8, 10, 11, 12, 55, 56, 57], none)) ?_
                exact sl0
          · skip
            refine evTr_step rfl fun K62 hk62 => ?_
            refine sh1 F1 ?_
            refine sd ?_
            refine hk62 _ ?_
            refine ⟨?_, ?_⟩
            · skip
              refine evTr_step rfl fun K63 hk63 => ?_
              refine sh1 F1 ?_
              refine sd ?_
              refine hk63 _ ?_
              refine ⟨?_, ?_⟩
              · skip
                refine evTr_step rfl fun K64 hk64 => ?_
                refine sh1 F1 ?_
                refine sd ?_
                refine hk64 _ ?_
                refine evTr_flo rfl fun K65 hk65 => ?_
                refine sh1 F1 ?_
                refine sd ?_
                refine hk65 _ ?_
                refine evTr_step rfl fun K66 hk66 => ?_
                refine sh1 F1 ?_
                refine sd ?_
                refine hk66 _ ?_
                refine evTr_step rfl fun K67 hk67 => ?_
                refine sh1 F1 ?_
                refine sd ?_
                refine hk67 _ ?_
                refine evTr_step rfl fun K68 hk68 => ?_
                refine sh1 F1 ?_
                refine sd ?_
                refine hk68 _ ?_
                refine hk38 _ (some ([3, 5, 6, 7, 8, 10, 11, 12, 55, 56, 57], none)) ?_
                exact sl0
              · skip
                refine evTr_step rfl fun K69 hk69 => ?_
                refine sh1 F1 ?_
                refine sd ?_
                refine hk69 _ ?_
                refine evTr_step rfl fun K70 hk70 => ?_
                refine sh1 F1 ?_
                refine sd ?_
                refine hk70 _ ?_
                refine evTr_flo rfl fun K71 hk71 => ?_
                refine sh1 F1 ?_
                refine sd ?_
                refine hk71 _ ?_
                refine evTr_step rfl fun K72 hk72 => ?_
                refine sh1 F1 ?_
                refine sd ?_
                refine hk72 _ ?_
                refine evTr_step rfl fun K73 hk73 => ?_
                refine sh1 F1 ?_
                refine sd ?_
                refine hk73 _ ?_
                refine hk38 _ (some ([3, 5, 6, 7, 8, 10, 11, 12, 55, 56, 57], none)) ?_
                exact sl0
            · skip
              refine evTr_step rfl fun K74 hk74 => ?_
              refine sh1 F1 ?_
              refine sd ?_
              refine hk74 _ ?_
              refine evTr_step rfl fun K75 hk75 => ?_
              refine sh1 F1 ?_
              refine sd ?_
              refine hk75 _ ?_
              refine evTr_step rfl fun K76 hk76 => ?_
              refine sh1 F1 ?_
              refine sd ?_
              refine hk76 _ ?_
              refine evTr_flo rfl fun K77 hk77 => ?_
              refine sh1 F1 ?_
              refine sd ?_
              refine hk77 _ ?_
              refine evTr_step rfl fun K78 hk78 => ?_
              refine sh1 F1 ?_
              refine sd ?_
              refine hk78 _ ?_
              refine evTr_step rfl fun K79 hk79 => ?_
              refine sh1 F1 ?_
              refine sd ?_
              refine hk79 _ ?_
              refine hk38 _ (some ([3, 5, 6, 7, 8, 10, 11, 12, 55, 56, 57], none)) ?_
              exact sl0
        · skip
          refine evTr_step rfl fun K80 hk80 => ?_
          refine sh1 F1 ?_
          refine sd ?_
          refine hk80 _ ?_
          refine ⟨?_, ?_⟩
          · skip
            refine evTr_step rfl fun K81 hk81 => ?_
            refine sh1 F1 ?_
            refine sd ?_
            refine hk81 _ ?_
            refine ⟨?_, ?_⟩
            · skip
              refine evTr_step rfl fun K82 hk82 => ?_
              refine sh1 F1 ?_
              refine sd ?_
              refine hk82 _ ?_
              refine evTr_flo rfl fun K83 hk83 => ?_
              refine sh1 F1 ?_
              refine sd ?_
              refine hk83 _ ?_
              refine evTr_step rfl fun K84 hk84 => ?_
              refine sh1 F1 ?_
              refine sd ?_
              refine hk84 _ ?_
              refine evTr_step rfl fun K85 hk85 => ?_
              refine sh1 F1 ?_
              refine sd ?_
              refine hk85 _ ?_
              refine evTr_step rfl fun K86 hk86 => ?_
              refine sh1 F1 ?_
              refine sd ?_
              refine hk86 _ ?_
              refine evTr_step rfl fun K87 hk87 => ?_
              refine sh1 F1 ?_
              refine sd ?_
              refine hk87 _ ?_
              refine hk38 _ (some ([3, 5, 6, 7, 8, 10, 11, 12, 55, 56, 57], none)) ?_
              exact sl0
            · skip
              refine evTr_step rfl fun K88 hk88 => ?_
              refine sh1 F1 ?_
              refine sd ?_
              refine hk88 _ ?_
              refine ⟨?_, ?_⟩
              · skip
                refine evTr_step rfl fun K89 hk89 => ?_
                refine sh1 F1 ?_
                refine sd ?_
                refine hk89 _ ?_
                refine evTr_flo rfl fun K90 hk90 => ?_
                refine sh1 F1 ?_
                refine sd ?_
                refine hk90 _ ?_
                refine evTr_step rfl fun K91 hk91 => ?_
                refine sh1 F1 ?_
                refine sd ?_
                refine hk91 _ ?_
                refine evTr_step rfl fun K92 hk92 => ?_
                refine sh1 F1 ?_
                refine sd ?_
                refine hk92 _ ?_
                refine evTr_step rfl fun K93 hk93 => ?_
                refine sh1 F1 ?_
                refine sd ?_
                refine hk93 _ ?_
                refine hk38 _ (some ([3, 5, 6, 7, 8, 10, 11, 12, 55, 56, 57], none)) ?_
                exact sl0
              · skip
                refine evTr_step rfl fun K94 hk94 => ?_
                refine sh1 F1 ?_
                refine sd ?_
                refine hk94 _ ?_
                refine evTr_step rfl fun K95 hk95 => ?_
                refine sh1 F1 ?_
                refine sd ?_
                refine hk95 _ ?_
                refine evTr_flo rfl fun K96 hk96 => ?_
                refine sh1 F1 ?_
                refine sd ?_
                refine hk96 _ ?_
                refine evTr_step rfl fun K97 hk97 => ?_
                refine sh1 F1 ?_
                refine sd ?_
                refine hk97 _ ?_
                refine evTr_step rfl fun K98 hk98 => ?_
                refine sh1 F1 ?_
                refine sd ?_
                refine hk98 _ ?_
                refine hk38 _ (some ([3, 5, 6, 7, 8, 10, 11, 12, 55, 56, 57], none)) ?_
                exact sl0
          · skip
            refine evTr_step rfl fun K99 hk99 => ?_
            refine sh1 F1 ?_
            refine sd ?_
            refine hk99 _ ?_
            refine evTr_flo rfl fun K100 hk100 => ?_
            refine sh1 F1 ?_
            refine sd ?_
            refine hk100 _ ?_
            refine evTr_step rfl fun K101 hk101 => ?_
            refine sh1 F1 ?_
            refine sd ?_
            refine hk101 _ ?_
            refine evTr_step rfl fun K102 hk102 => ?_
            refine sh1 F1 ?_
            refine sd ?_
            refine hk102 _ ?_
            refine evTr_step rfl fun K103 hk103 => ?_
            refine sh1 F1 ?_
            refine sd ?_
            refine hk103 _ ?_
            refine evTr_step rfl fun K104 hk104 => ?_
            refine sh1 F1 ?_
            refine sd ?_
            refine hk104 _ ?_
            refine evTr_step rfl fun K105 hk105 => ?_
            refine sh1 F1 ?_
            refine sd ?_
            refine hk105 _ ?_
            refine hk38 _ (some ([3, 5, 6, 7, 8, 10, 11, 12, 55, 56, 57], none)) ?_
            exact sl0
      refine hn37 (some ([3, 5, 6, 7, 8, 10, 11, 12, 55, 56, 57], none)) _ ?_
      refine eS fun K106 hn106 hr106 he106 => ?_
      refine eO fun K107 hk107 => ?_
      refine tZ F1 ?_
      refine hk107 _ ?_
      refine hn106 (some ([3, 5, 6, 7, 8, 10, 12, 55, 56, 57, 136], none)) _ ?_
      refine eCf ?_
      refine hn11 _ ?_
      refine hn8 (some ([3, 5, 6, 7, 8, 10, 55, 56, 57], some ([0, 1, 2, 3, 4, 5], 6))) _ ?_
      refine lp0 ?_
      simp only [e1, e2]
      simp only [eRds_refs, eRds_ren, i5_refs, i5_ren, u5_refs, u5_ren, if_true, and_self]
      refine ts_rest (x := x) hT2 (by omega) (fun v' hT' S' hS' => ?_)
      refine hn2 _ ?_
      refine hn1 (some ([3, 5, 6, 7, 8, 55, 56, 57], some ([0, 1, 2, 3, 4], 5))) _ ?_
      rw [hS']
      unfold tsS
      refine eO fun K108 hk108 => ?_
      refine tC 1 F1 ?_
      refine tL F1 ?_
      refine hk108 _ ?_
      refine hK v' _ _ hT' hN hM _ ?_
      refine lp0 ?_
      unfold tsS
      (try simp only [eRds_refs, eRds_ren, i5_refs, i5_ren, u5_refs, u5_ren, if_true, and_self]) <;> rfl
    · skip
      have hj6 := hj2
      obtain ⟨mm, hmr, rfl⟩ := Option.map_eq_some_iff.1 hj2
      obtain ⟨hvm, hm0, hm1, hjb⟩ := hT.inRng hf hj1 hmr
      have w3 : IntKind.i64.wrap (mm + ((1 : Nat) : Int)) = mm + 1 := by rw [IntKind.wrap_i64]; omega
      have F2 := And.intro F1 (And.intro @hj6 (And.intro @w3 (And.intro @sgd_some @sis_some)))
      refine tL F2 ?_
      refine hk35 _ ?_
      refine hn34 (some ([3, 5, 6, 7, 8, 10, 11, 12, 23, 55, 56, 57, 113, 115], none)) _ ?_
      refine eS fun K109 hn109 hr109 he109 => ?_
      refine eC rfl (fun hc8 => ?_) (fun hx => absurd hx (by cases hx))
      clear hc8
      refine hn109 (some ([3, 5, 6, 7, 8, 10, 11, 12, 23, 55, 56, 57, 113], none)) _ ?_
      refine eB fun K110 hn110 hx110 hr110 he110 => ?_
      refine eS fun K111 hn111 hr111 he111 => ?_
      refine eO fun K112 hk112 => ?_
      refine tS 1 F2 ?_
      refine evItm_mk 4 (by rfl) ⟨_, hj2, ?_⟩
      refine tL F2 ?_
      refine hk112 _ ?_
      refine hn111 (some ([3, 5, 6, 7, 8, 10, 11, 12, 23, 27, 55, 56, 57, 113], none)) _ ?_
      refine eO fun K113 hk113 => ?_
      refine tC 3 F2 ?_
      refine tC 3 F2 ?_
      refine tZ F2 ?_
      refine hk113 _ ?_
      refine hn110 _ ?_
      refine hn33 (cj) (some ([3, 5, 6, 7, 8, 10, 11, 12, 23, 55, 56, 57, 113], some ([0, 1, 2, 3, 4, 5, 6, 7], 8))) _ ?_ ?_
      all_goals try refine lp0 ?_
      · exact hj5
      · refine ⟨q, fun z => left z && z != jj, some jj, updO f jj (some (mm + 1)), fun r => ?_, ?_⟩
        · unfold updO
          by_cases e : r = jj
          · subst e; simp [hvm]
          · simp [e]; exact hf r
        · rw [updI_eq]
          (try simp only [eRds_refs, eRds_ren, i5_refs, i5_ren, u5_refs, u5_ren, if_true, and_self]) <;> rfl
end Go.Proofs.Ytijblpkdfmkcfaa

/-
  TopSnapshot by shadows: the reading loops.
-/
import Derived.Test.YtijblpkdfmkcfaaKTp
import Derived.Test.YtijblpkdfmkcfaaScT1
namespace Go.Proofs.Ytijblpkdfmkcfaa
set_option linter.unusedSimpArgs false
set_option linter.unusedVariables false
open Go.RowKit Go.Maps

abbrev shI5 (w : List Int) : Sh := .agg (w.map sI)
abbrev mWor (f : Int → Option (List Int)) : Int → Option Sh := fun k => (f k).map shI5
abbrev mSi (f : Int → Option Int) : Int → Option Sh := fun k => (f k).map sI
/-- The law's state between two rounds: A the acts, m how many, i the next. -/
def tsS (v : TsV) (N M : Nat) (A : Sh) (m i : Int) : St :=
  ⟨[(3, .ptr 0 0 0), (5, .ptr 1 0 0), (6, .ptr 2 0 0), (7, .own 3), (8, .own 4), (55, A), (56, sI m), (57, sI i)],
   [(0, .box 30 (eSn v.s)), (1, .box 34 (v.now.map sI)), (2, .box 36 (v.vers.map sU)), (3, .map 3 N (mWor v.wo)), (4, .map 3 M (mSi v.si))], 5⟩
def L3Inv (v : TsV) (N M : Nat) (A : Sh) (m i : Int) (k : Nat) (S : St) : Prop :=
  ∃ q left cur, (∀ j, left j = true → v.wo j ≠ none) ∧ S = ⟨[(3, .ptr 0 0 0), (5, .ptr 1 0 0), (6, .ptr 2 0 0), (7, .own 3), (8, .own 4), (55, A), (56, sI m), (57, sI i), (239, .own 5)],
   [(0, .box 30 (eSn v.s)), (1, .box 34 (v.now.map sI)), (2, .box 36 (v.vers.map sU)), (3, .mpr q 3 N (mWor v.wo)), (4, .map 3 M (mSi v.si)), (5, .itm q 3 left k cur)], 6⟩
def L4Inv (v : TsV) (N M : Nat) (A : Sh) (m i : Int) (q : Rg) (left : Int → Bool) (cnt : Nat) (r : Int) (w : List Int) (k : Nat) (S : St) : Prop :=
  ∃ c : Nat, c ≤ 5 ∧ k = 5 - c ∧ S = ⟨[(3, .ptr 0 0 0), (5, .ptr 1 0 0), (6, .ptr 2 0 0), (7, .own 3), (8, .own 4), (34, sI r), (35, .ptr 6 0 0), (55, A), (56, sI m), (57, sI i), (239, .own 5), (245, sI c)],
   [(0, .box 30 (eSn v.s)), (1, .box 34 (v.now.map sI)), (2, .box 36 (v.vers.map sU)), (3, .mpr q 3 N (mWor v.wo)), (4, .map 3 M (mSi v.si)), (5, .itm q 3 left cnt (some r)), (6, .box 34 (w.map sI))], 7⟩
def L5Inv (v : TsV) (N M : Nat) (A : Sh) (m i : Int) (k : Nat) (S : St) : Prop :=
  ∃ c : Nat, c ≤ 5 ∧ k = 5 - c ∧ S = ⟨[(3, .ptr 0 0 0), (5, .ptr 1 0 0), (6, .ptr 2 0 0), (7, .own 3), (8, .own 4), (55, A), (56, sI m), (57, sI i), (265, sI c)],
   [(0, .box 30 (eSn v.s)), (1, .box 34 (v.now.map sI)), (2, .box 36 (v.vers.map sU)), (3, .map 3 N (mWor v.wo)), (4, .map 3 M (mSi v.si))], 5⟩
theorem i5_refs (ids : List Nat) (w : List Int) : refsL ids (w.map sI) = true := by
  induction w with
  | nil => rfl
  | cons x w ih => simp only [List.map_cons, refsL, refsC, ih]; rfl
theorem i5_ren (ids : List Nat) (w : List Int) : (w.map sI).map (renC ids) = w.map sI := by rw [List.map_map]; rfl
theorem u5_refs (ids : List Nat) (w : List Int) : refsL ids (w.map sU) = true := by
  induction w with
  | nil => rfl
  | cons x w ih => simp only [List.map_cons, refsL, refsC, ih]; rfl
theorem u5_ren (ids : List Nat) (w : List Int) : (w.map sU).map (renC ids) = w.map sU := by rw [List.map_map]; rfl
theorem i5_one (w : List Int) : (w.map sI).all Sh.one = true := by simp [Sh.one]
theorem i5_arg (S : St) (w : List Int) : S.argL (w.map sI) = some (w.map sI) := by
  induction w with
  | nil => rfl
  | cons x w ih => simp only [List.map_cons, St.argL, St.arg1, St.res, Sh.pure, ih]; rfl
set_option maxHeartbeats 4000000 in
theorem ts_read {n : Nat} {v : TsV} (h : TsI n v) {N M g : Nat} {es : List (List Sh)} {m i : Int} {K : Ex → St → Prop} (hK : ∀ S', S'.keep (some ([3, 5, 6, 7, 8, 55, 56, 57], some ([0, 1, 2, 3, 4], 5))) = tsS v N M (.sl 6 g es) m i → K .next S') : ev sc_TsRead (tsS v N M (.sl 6 g es) m i) K := by
  have h1 := rdF _ h.ok.rd
  have hw : ∀ r w, v.wo r = some w → ∀ c : Nat, c < 5 → ∃ a, w[c]? = some a ∧ Ok 12 [shSn v.s, sI r, sI c] (.tup [sI a, sI 0]) := fun r w hr c hc => by
    obtain ⟨i, x, rfl, hi, hx, x0, x1, wl, hat⟩ := h.wok r w hr
    have ha := List.getElem?_eq_getElem (l := w) (show c < w.length by omega)
    exact ⟨_, ha, ok_snRead h.ok hx (h.cell hc) (hat c _ ha)⟩
  have hwl : ∀ r w, v.wo r = some w → w.length = 5 := fun r w hr => by obtain ⟨_, _, _, _, _, _, _, wl, _⟩ := h.wok r w hr; exact wl
  unfold tsS at hK ⊢
  unfold sc_TsRead
  have F1 := And.intro @h1 (And.intro @sh_nil @i5_one)
  refine eS fun K1 hn1 hr1 he1 => ?_
  refine eS fun K2 hn2 hr2 he2 => ?_
  refine eO fun K3 hk3 => ?_
  refine tS 1 F1 ?_
  refine tL F1 ?_
  refine Or.inr (evRngO_mk (by rfl) (by rfl) (fun q0 cnt0 => ?_))
  refine sh1 F1 ?_
  refine hk3 _ ?_
  refine hn2 (some ([3, 5, 6, 7, 8, 55, 56, 57, 239], none)) _ ?_
  refine eB fun K4 hn4 hx4 hr4 he4 => ?_
  refine eW (L3Inv v N M (.sl 6 g es) m i) (cnt0) (some ([3, 5, 6, 7, 8, 55, 56, 57, 239], some ([0, 1, 2, 3, 4, 5], 6))) ([]) ?_ ?_
  · try refine lp0 ?_
    refine ⟨q0, fun j => (mWor v.wo j).isSome, none, fun j hj => by cases hh : v.wo j <;> simp_all, ?_⟩
    (try simp only [eRds_refs, eRds_ren, i5_refs, i5_ren, u5_refs, u5_ren, if_true]) <;> rfl
  · intro k S1 hI
    obtain ⟨q, left, cur, hleft, rfl⟩ := hI
    intro K5 hn5 hr5 he5
    refine eS fun K6 hn6 hr6 he6 => ?_
    refine eO fun K7 hk7 => ?_
    refine tS 1 F1 ?_
    refine evItm_mk 3 (by rfl) ?_
    refine ⟨fun hno => ?_, fun jj sj cj hj1 hj2 hj3 hj4 hj5 => ?_⟩
    · skip
      refine tL F1 ?_
      refine hk7 _ ?_
      refine hn6 (some ([3, 5, 6, 7, 8, 55, 56, 57, 239, 241], none)) _ ?_
      refine eS fun K8 hn8 hr8 he8 => ?_
      refine eC rfl (fun hx => absurd hx (by cases hx)) (fun hc0 => ?_)
      clear hc0
      refine he8 7 _ ?_
      refine he5 7 _ ?_
      refine hx4 _ ?_
      refine hn1 (some ([3, 5, 6, 7, 8, 55, 56, 57], none)) _ ?_
      refine eS fun K9 hn9 hr9 he9 => ?_
      refine eO fun K10 hk10 => ?_
      refine tL F1 ?_
      refine hk10 _ ?_
      refine hn9 (some ([3, 5, 6, 7, 8, 55, 56, 57, 265], none)) _ ?_
      refine eB fun K11 hn11 hx11 hr11 he11 => ?_
      refine eW (L5Inv v N M (.sl 6 g es) m i) (5) (some ([3, 5, 6, 7, 8, 55, 56, 57, 265], some ([0, 1, 2, 3, 4], 5))) ([.unr 3]) ?_ ?_
      · try refine lp0 ?_
        refine ⟨0, by omega, by omega, ?_⟩
        (try simp only [eRds_refs, eRds_ren, i5_refs, i5_ren, u5_refs, u5_ren, if_true]) <;> rfl
      · intro k S1 hI
        obtain ⟨c, hc, rfl, rfl⟩ := hI
        intro K12 hn12 hr12 he12
        rcases (show c = 5 ∨ c < 5 by omega) with rfl | hcc
        · skip
          refine eS fun K13 hn13 hr13 he13 => ?_
          refine eO fun K14 hk14 => ?_
          refine tZ F1 ?_
          refine hk14 _ ?_
          refine hn13 (some ([3, 5, 6, 7, 8, 55, 56, 57, 265, 266], none)) _ ?_
          refine eS fun K15 hn15 hr15 he15 => ?_
          refine eCf ?_
          refine he15 11 _ ?_
          refine he12 11 _ ?_
          refine hx11 _ ?_
          refine hK _ ?_
          refine lp0 ?_
          (try simp only [eRds_refs, eRds_ren, i5_refs, i5_ren, u5_refs, u5_ren, if_true]) <;> rfl
        · skip
          have ha := List.getElem?_eq_getElem (l := v.now) (show c < v.now.length by rw [h.l1]; exact hcc)
          have kn := ok_snNow v.s
          have ka := ok_snAt h.ok (Int.le_refl _) (h.cell hcc)
          rw [h.at_ ha] at ka
          simp only [Option.getD_some, Option.isSome_some] at ka
          generalize v.now[c]'(by rw [h.l1]; exact hcc) = nc at ka ha
          have w2 : (c : Int) < 5 := by omega
          have w3 : IntKind.i64.wrap ((c : Int) + 1) = ((c + 1 : Nat) : Int) := by rw [IntKind.wrap_i64]; omega
          have F2 := And.intro F1 (And.intro @w2 (And.intro @w3 (And.intro @Nat.mul_one @ha)))
          refine eS fun K16 hn16 hr16 he16 => ?_
          refine eO fun K17 hk17 => ?_
          refine tZ F2 ?_
          refine hk17 _ ?_
          refine hn16 (some ([3, 5, 6, 7, 8, 55, 56, 57, 265, 266], none)) _ ?_
          refine eS fun K18 hn18 hr18 he18 => ?_
          refine eCt ?_
          refine hn18 (some ([3, 5, 6, 7, 8, 55, 56, 57, 265], none)) _ ?_
          refine eS fun K19 hn19 hr19 he19 => ?_
          refine eB fun K20 hn20 hx20 hr20 he20 => ?_
          refine eS fun K21 hn21 hr21 he21 => ?_
          refine eO fun K22 hk22 => ?_
          refine tL F2 ?_
          refine hk22 _ ?_
          refine hn21 (some ([3, 5, 6, 7, 8, 39, 55, 56, 57, 265], none)) _ ?_
          refine eS fun K23 hn23 hr23 he23 => ?_
          refine eD [] (n := 8) fun K24 hk24 => ?_
          refine sq0 ?_
          refine fC 1 F2 ?_
          refine fC 1 F2 ?_
          refine fS 1 F2 ?_
          refine ⟨_, kn, ?_⟩
          refine fS 1 F2 ?_
          refine fS 1 F2 ?_
          refine ⟨_, ka, ?_⟩
          refine fL F2 ?_
          refine hk24 _ ?_
          refine sr0 ?_
          refine tL F2 ?_
          refine hn23 (some ([3, 5, 6, 7, 8, 39, 40, 41, 55, 56, 57, 265], none)) _ ?_
          refine eS fun K26 hn26 hr26 he26 => ?_
          refine eO fun K27 hk27 => ?_
          refine tC 6 F2 ?_
          refine tC 1 F2 ?_
          refine tC 1 F2 ?_
          refine tL F2 ?_
          refine hk27 _ ?_
          refine hn26 (some ([3, 5, 6, 7, 8, 55, 56, 57, 265, 284], none)) _ ?_
          refine eCf ?_
          refine hn20 _ ?_
          refine hn19 (some ([3, 5, 6, 7, 8, 55, 56, 57, 265], none)) _ ?_
          refine eO fun K28 hk28 => ?_
          refine tC 1 F2 ?_
          refine tL F2 ?_
          refine hk28 _ ?_
          refine hn12 (5 - (c + 1)) (some ([3, 5, 6, 7, 8, 55, 56, 57, 265], some ([0, 1, 2, 3, 4], 5))) _ ?_ ?_
          all_goals try refine lp0 ?_
          · omega
          · refine ⟨c + 1, by omega, rfl, ?_⟩
            (try simp only [eRds_refs, eRds_ren, i5_refs, i5_ren, u5_refs, u5_ren, if_true]) <;> rfl
    · skip
      obtain ⟨w, hwr, rfl⟩ := Option.map_eq_some_iff.1 hj2
      have hl5 := hwl jj w hwr
      have F3 := And.intro F1 @hl5
      refine tL F3 ?_
      refine hk7 _ ?_
      refine hn6 (some ([3, 5, 6, 7, 8, 55, 56, 57, 239, 241], none)) _ ?_
      refine eS fun K29 hn29 hr29 he29 => ?_
      refine eC rfl (fun hc0 => ?_) (fun hx => absurd hx (by cases hx))
      clear hc0
      refine hn29 (some ([3, 5, 6, 7, 8, 55, 56, 57, 239], none)) _ ?_
      refine eB fun K30 hn30 hx30 hr30 he30 => ?_
      refine eS fun K31 hn31 hr31 he31 => ?_
      refine eO fun K32 hk32 => ?_
      refine tS 1 F3 ?_
      refine evItm_mk 3 (by rfl) ⟨_, hj2, ?_⟩
      refine tZ F3 ?_
      refine hk32 _ ?_
      refine hn31 (some ([3, 5, 6, 7, 8, 34, 35, 55, 56, 57, 239], none)) _ ?_
      refine eS fun K33 hn33 hr33 he33 => ?_
      refine eO fun K34 hk34 => ?_
      refine tL F3 ?_
      refine hk34 _ ?_
      refine hn33 (some ([3, 5, 6, 7, 8, 34, 35, 55, 56, 57, 239, 245], none)) _ ?_
      refine eB fun K35 hn35 hx35 hr35 he35 => ?_
      refine eW (L4Inv v N M (.sl 6 g es) m i q (fun z => left z && z != jj) cj jj w) (5) (some ([3, 5, 6, 7, 8, 34, 35, 55, 56, 57, 239, 245], some ([0, 1, 2, 3, 4, 5, 6], 7))) ([]) ?_ ?_
      · try refine lp0 ?_
        refine ⟨0, by omega, by omega, ?_⟩
        (try simp only [eRds_refs, eRds_ren, i5_refs, i5_ren, u5_refs, u5_ren, if_true]) <;> rfl
      · intro k S1 hI
        obtain ⟨c, hc, rfl, rfl⟩ := hI
        intro K36 hn36 hr36 he36
        rcases (show c = 5 ∨ c < 5 by omega) with rfl | hcc
        · skip
          refine eS fun K37 hn37 hr37 he37 => ?_
          refine eO fun K38 hk38 => ?_
          refine tZ F3 ?_
          refine hk38 _ ?_
          refine hn37 (some ([3, 5, 6, 7, 8, 34, 35, 55, 56, 57, 239, 245, 246], none)) _ ?_
          refine eS fun K39 hn39 hr39 he39 => ?_
          refine eCf ?_
          refine he39 9 _ ?_
          refine he36 9 _ ?_
          refine hx35 _ ?_
          refine hn30 _ ?_
          refine hn5 (cj) (some ([3, 5, 6, 7, 8, 55, 56, 57, 239], some ([0, 1, 2, 3, 4, 5], 6))) _ ?_ ?_
          all_goals try refine lp0 ?_
          · exact hj5
          · refine ⟨q, fun z => left z && z != jj, some jj, fun j hj => hleft j (by simp only [Bool.and_eq_true] at hj; exact hj.1), ?_⟩
            (try simp only [eRds_refs, eRds_ren, i5_refs, i5_ren, u5_refs, u5_ren, if_true]) <;> rfl
        · skip
          obtain ⟨a, ha, kr⟩ := hw jj w hwr c hcc
          have w2 : (c : Int) < 5 := by omega
          have w3 : IntKind.i64.wrap ((c : Int) + 1) = ((c + 1 : Nat) : Int) := by rw [IntKind.wrap_i64]; omega
          have F4 := And.intro F3 (And.intro @w2 (And.intro @w3 (And.intro @Nat.mul_one @ha)))
          refine eS fun K40 hn40 hr40 he40 => ?_
          refine eO fun K41 hk41 => ?_
          refine tZ F4 ?_
          refine hk41 _ ?_
          refine hn40 (some ([3, 5, 6, 7, 8, 34, 35, 55, 56, 57, 239, 245, 246], none)) _ ?_
          refine eS fun K42 hn42 hr42 he42 => ?_
          refine eCt ?_
          refine hn42 (some ([3, 5, 6, 7, 8, 34, 35, 55, 56, 57, 239, 245], none)) _ ?_
          refine eS fun K43 hn43 hr43 he43 => ?_
          refine eB fun K44 hn44 hx44 hr44 he44 => ?_
          refine eS fun K45 hn45 hr45 he45 => ?_
          refine eO fun K46 hk46 => ?_
          refine tL F4 ?_
          refine hk46 _ ?_
          refine hn45 (some ([3, 5, 6, 7, 8, 34, 35, 36, 55, 56, 57, 239, 245], none)) _ ?_
          refine eS fun K47 hn47 hr47 he47 => ?_
          refine eO fun K48 hk48 => ?_
          refine tC 1 F4 ?_
          refine tS 2 F4 ?_
          refine tS 1 F4 ?_
          refine Or.inl (Or.inl ⟨_, kr, ?_⟩)
          refine tL F4 ?_
          refine hk48 _ ?_
          refine hn47 (some ([3, 5, 6, 7, 8, 34, 35, 36, 37, 38, 55, 56, 57, 239, 245], none)) _ ?_
          refine eS fun K49 hn49 hr49 he49 => ?_
          refine eO fun K50 hk50 => ?_
          refine tC 2 F4 ?_
          refine tC 4 F4 ?_
          refine tC 1 F4 ?_
          refine tC 1 F4 ?_
          refine tL F4 ?_
          refine hk50 _ ?_
          refine hn49 (some ([3, 5, 6, 7, 8, 34, 35, 55, 56, 57, 239, 245, 263], none)) _ ?_
          refine eCf ?_
          refine hn44 _ ?_
          refine hn43 (some ([3, 5, 6, 7, 8, 34, 35, 55, 56, 57, 239, 245], none)) _ ?_
          refine eO fun K51 hk51 => ?_
          refine tC 1 F4 ?_
          refine tL F4 ?_
          refine hk51 _ ?_
          refine hn36 (5 - (c + 1)) (some ([3, 5, 6, 7, 8, 34, 35, 55, 56, 57, 239, 245], some ([0, 1, 2, 3, 4, 5, 6], 7))) _ ?_ ?_
          all_goals try refine lp0 ?_
          · omega
          · refine ⟨c + 1, by omega, rfl, ?_⟩
            (try simp only [eRds_refs, eRds_ren, i5_refs, i5_ren, u5_refs, u5_ren, if_true]) <;> rfl
end Go.Proofs.Ytijblpkdfmkcfaa

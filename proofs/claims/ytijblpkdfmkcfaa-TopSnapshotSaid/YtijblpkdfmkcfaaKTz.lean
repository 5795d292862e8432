/-
  TopSnapshot by shadows: an act that commits to two cells.
-/
import Derived.Test.YtijblpkdfmkcfaaKTy
namespace Go.Proofs.Ytijblpkdfmkcfaa
set_option linter.unusedSimpArgs false
set_option linter.unusedVariables false
open Go.RowKit Go.Maps

set_option maxHeartbeats 4000000 in
theorem ts_c2 {acts : List ActT} {i : Nat} {x : ActT} {ia ib iq : Nat} (hA : ActAt acts i x ia ib iq) (hik : ib ≠ ia) {v : TsV} {N M : Nat} (hT : TsI i v) (hN : N ≤ 9) (hM : M ≤ 9) (d2 : (x.op.tmod 4 == 2) = false) (d3 : (x.op.tmod 4 == 3) = false)
    {K : Ex → St → Prop} (hK : BodyK acts i K) : ev sc_TsBody (tsS v N M (.sl 6 2 (acts.map eAct)) acts.length i) K := by
  have hv := rdF _ hT.ok.rd
  have ha5 := hA.a5
  have hb5 := hA.b5
  have hlt := hA.lt
  have hl6 := hA.len
  have hne : ((ib : Int) == (ia : Int)) = false := by simp; omega
  have hne' : ((ib : Int) != (ia : Int)) = true := by simp; omega
  obtain ⟨ni, hni⟩ : ∃ z, v.now[ia]? = some z := ⟨_, List.getElem?_eq_getElem (by rw [hT.l1]; exact ha5)⟩
  obtain ⟨vi, hvi⟩ : ∃ z, v.vers[ia]? = some z := ⟨_, List.getElem?_eq_getElem (by rw [hT.l2]; exact ha5)⟩
  obtain ⟨nk, hnk⟩ : ∃ z, v.now[ib]? = some z := ⟨_, List.getElem?_eq_getElem (by rw [hT.l1]; exact hb5)⟩
  obtain ⟨vk, hvk⟩ : ∃ z, v.vers[ib]? = some z := ⟨_, List.getElem?_eq_getElem (by rw [hT.l2]; exact hb5)⟩
  have hvb := (hT.ver ia vi hvi).2
  have hvb' := (hT.ver ib vk hvk).2
  have hE := hT.ens2 (by omega) hik (V := x.v) (V2 := IntKind.i64.wrap (x.v + 1)) hni hvi hnk hvk
  have kc := ok_snCommit hT.ok (by have := hT.nw; omega) hE
  have hT2 := hT.comm2 (by omega) hik (V := x.v) (V2 := IntKind.i64.wrap (x.v + 1)) hni hvi hnk hvk
  simp only [List.map_cons, List.map_nil] at kc
  generalize commitM v.s _ = t at kc hT2
  have hv2 := rdF t hT2.ok.rd
  have l1 : v.now.length = 5 := hT.l1
  have l2 : v.vers.length = 5 := hT.l2
  have l3 : (v.now.set ia x.v).length = 5 := by rw [List.length_set]; exact l1
  have l4 : (v.vers.set ia (vi + 1)).length = 5 := by rw [List.length_set]; exact l2
  have e1 := i5_set (w := v.now) (c := ia) (by omega) x.v
  have e2 := u5_set (w := v.vers) (c := ia) (by omega) (vi + 1)
  have e3 := i5_set (w := v.now.set ia x.v) (c := ib) (by omega) (IntKind.i64.wrap (x.v + 1))
  have e4 := u5_set (w := v.vers.set ia (vi + 1)) (c := ib) (by omega) (vk + 1)
  have g1 : (v.now.map sI)[ia]? = some (sI ni) := by rw [List.getElem?_map, hni]; rfl
  have g2 : (v.vers.map sU)[ia]? = some (sU vi) := by rw [List.getElem?_map, hvi]; rfl
  have g3 : (v.now.map sI)[ib]? = some (sI nk) := by rw [List.getElem?_map, hnk]; rfl
  have g4 : (v.vers.map sU)[ib]? = some (sU vk) := by rw [List.getElem?_map, hvk]; rfl
  have g5 : ((v.vers.set ia (vi + 1)).map sU)[ib]? = some (sU vk) := by rw [List.getElem?_map, List.getElem?_set_ne (by omega), hvk]; rfl
  have w1 : IntKind.u32.wrap (vi + 1) = vi + 1 := by rw [IntKind.wrap_u32]; omega
  have w4 : IntKind.u32.wrap (vk + 1) = vk + 1 := by rw [IntKind.wrap_u32]; omega
  have w2 : (ia : Int) < 5 := by omega
  have w5 : (ib : Int) < 5 := by omega
  clear hE hni hvi hnk hvk
  unfold tsS
  unfold sc_TsBody
  have F1 := And.intro @hv (And.intro @sh_nil (And.intro @i5_one (And.intro @hA.all (And.intro @d2 (And.intro @d3 (And.intro @Nat.mul_one (And.intro @hv2 (And.intro @w1 (And.intro @w2 (And.intro @w4 (And.intro @w5 (And.intro @l1 (And.intro @l2 (And.intro @l3 (And.intro @l4 (And.intro @g1 (And.intro @g2 (And.intro @g3 (And.intro @g4 (And.intro @g5 (And.intro @e1 (And.intro @e2 (And.intro @e3 (And.intro @e4 (And.intro @i5_arg (And.intro @i5_frz (And.intro @hne @hne')))))))))))))))))))))))))))
  refine eS fun K1 hn1 hr1 he1 => ?_
  refine eB fun K2 hn2 hx2 hr2 he2 => ?_
  refine eS fun K3 hn3 hr3 he3 => ?_
  refine eO fun K4 hk4 => ?_
  refine tC 1 F1 ?_
  refine tC 1 F1 ?_
  refine tZ F1 ?_
  refine hk4 _ ?_
  refine hn3 (some ([3, 5, 6, 7, 8, 10, 55, 56, 57], none)) _ ?_
  refine eS fun K5 hn5 hr5 he5 => ?_
  refine eD [] (n := 9) fun K6 hk6 => ?_
  refine sq0 ?_
  refine fC 2 F1 ?_
  refine fC 1 F1 ?_
  refine fC 3 F1 ?_
  refine fC 1 F1 ?_
  refine fL F1 ?_
  refine hk6 _ ?_
  refine sr0 ?_
  refine tL F1 ?_
  refine hn5 (some ([3, 5, 6, 7, 8, 10, 11, 12, 55, 56, 57], none)) _ ?_
  refine eS fun K8 hn8 hr8 he8 => ?_
  refine eS fun K9 hn9 hr9 he9 => ?_
  refine eO fun K10 hk10 => ?_
  refine tC 2 F1 ?_
  refine tZ F1 ?_
  refine hk10 _ ?_
  refine hn9 (some ([3, 5, 6, 7, 8, 10, 11, 12, 55, 56, 57, 71], none)) _ ?_
  refine eB fun K11 hn11 hx11 hr11 he11 => ?_
  refine eS fun K12 hn12 hr12 he12 => ?_
  refine eO fun K13 hk13 => ?_
  refine tC 1 F1 ?_
  refine tL F1 ?_
  refine hk13 _ ?_
  refine hn12 (some ([3, 5, 6, 7, 8, 10, 11, 12, 55, 56, 57, 71, 148], none)) _ ?_
  refine eCf ?_
  refine eS fun K14 hn14 hr14 he14 => ?_
  refine eO fun K15 hk15 => ?_
  refine tC 1 F1 ?_
  refine tL F1 ?_
  refine hk15 _ ?_
  refine hn14 (some ([3, 5, 6, 7, 8, 10, 11, 12, 55, 56, 57, 178], none)) _ ?_
  refine eCf ?_
  refine eS fun K16 hn16 hr16 he16 => ?_
  refine eD [] (n := 10) fun K17 hk17 => ?_
  refine sq0 ?_
  refine fC 3 F1 ?_
  refine fC 1 F1 ?_
  refine fC 2 F1 ?_
  refine fC 1 F1 ?_
  refine fZ F1 ?_
  refine hk17 _ ?_
  refine sr0 ?_
  refine tL F1 ?_
  refine hn16 (some ([3, 5, 6, 7, 8, 10, 11, 12, 23, 55, 56, 57], none)) _ ?_
  refine eS fun K19 hn19 hr19 he19 => ?_
  refine eS fun K20 hn20 hr20 he20 => ?_
  refine eO fun K21 hk21 => ?_
  refine tZ F1 ?_
  refine hk21 _ ?_
  refine hn20 (some ([3, 5, 6, 7, 8, 10, 11, 12, 23, 55, 56, 57, 86], none)) _ ?_
  refine eCt ?_
  refine eD [] (n := 12) fun K22 hk22 => ?_
  refine sq0 ?_
  refine fC 4 F1 ?_
  refine fC 1 F1 ?_
  refine fC 2 F1 ?_
  refine fC 1 F1 ?_
  refine fC 3 F1 ?_
  refine fZ F1 ?_
  refine hk22 _ ?_
  refine sr0 ?_
  refine tC 2 F1 ?_
  refine tC 1 F1 ?_
  refine tL F1 ?_
  refine hn19 (some ([3, 5, 6, 7, 8, 10, 11, 12, 23, 55, 56, 57], none)) _ ?_
  refine eS fun K24 hn24 hr24 he24 => ?_
  refine eO fun K25 hk25 => ?_
  refine tC 1 F1 ?_
  refine tS 1 F1 ?_
  refine tS 1 F1 ?_
  refine Or.inl (Or.inl ⟨_, kc, ?_⟩)
  refine tC 6 F1 ?_
  refine tL F1 ?_
  refine hk25 _ ?_
  refine hn24 (some ([3, 5, 6, 7, 8, 10, 11, 12, 23, 24, 26, 55, 56, 57], none)) _ ?_
  refine eS fun K26 hn26 hr26 he26 => ?_
  refine eS fun K27 hn27 hr27 he27 => ?_
  refine eO fun K28 hk28 => ?_
  refine tZ F1 ?_
  refine hk28 _ ?_
  refine hn27 (some ([3, 5, 6, 7, 8, 10, 11, 12, 23, 24, 55, 56, 57, 110], none)) _ ?_
  refine eCf ?_
  refine hn26 (some ([3, 5, 6, 7, 8, 10, 11, 12, 23, 24, 55, 56, 57], none)) _ ?_
  refine eS fun K29 hn29 hr29 he29 => ?_
  refine eO fun K30 hk30 => ?_
  refine tC 1 F1 ?_
  refine tZ F1 ?_
  refine hk30 _ ?_
  refine hn29 (some ([3, 5, 6, 7, 8, 10, 11, 12, 23, 55, 56, 57], none)) _ ?_
  refine eS fun K31 hn31 hr31 he31 => ?_
  refine eS fun K32 hn32 hr32 he32 => ?_
  refine eO fun K33 hk33 => ?_
  refine tS 1 F1 ?_
  refine tL F1 ?_
  refine Or.inr (evRngO_mk (by rfl) (by rfl) (fun q0 cnt0 => ?_))
  refine sh1 F1 ?_
  refine hk33 _ ?_
  refine hn32 (some ([3, 5, 6, 7, 8, 10, 11, 12, 23, 55, 56, 57, 113], none)) _ ?_
  refine eB fun K34 hn34 hx34 hr34 he34 => ?_
  refine eW (LcInv t v N M (.sl 6 2 (acts.map eAct)) acts.length i x ia ib [eEn ⟨ia, ni, vi, x.v⟩, eEn ⟨ib, nk, vk, IntKind.i64.wrap (x.v + 1)⟩] 2) (cnt0) (some ([3, 5, 6, 7, 8, 10, 11, 12, 23, 55, 56, 57, 113], some ([0, 1, 2, 3, 4, 5, 7, 9], 8))) ([]) ?_ ?_
  · try refine lp0 ?_
    refine ⟨q0, fun j => (mSi v.si j).isSome, none, v.si, fun r => by cases h : v.si r <;> simp [h], ?_⟩
    (try simp only [eRds_refs, eRds_ren, i5_refs, i5_ren, u5_refs, u5_ren, if_true, and_self]) <;> rfl
  · intro k S1 hI
    obtain ⟨q, left, cur, f, hf, rfl⟩ := hI
    intro K35 hn35 hr35 he35
    refine eS fun K36 hn36 hr36 he36 => ?_
    refine eO fun K37 hk37 => ?_
    refine tS 1 F1 ?_
    refine evItm_mk 4 (by rfl) ?_
    refine ⟨fun hno => ?_, fun jj sj cj hj1 hj2 hj3 hj4 hj5 => ?_⟩
    · skip
      have hf' : f = fun r => (v.si r).map (· + 2) := funext fun r => by rw [hf r, hno r]; rfl
      subst hf'
      refine tL F1 ?_
      refine hk37 _ ?_
      refine hn36 (some ([3, 5, 6, 7, 8, 10, 11, 12, 23, 55, 56, 57, 113, 115], none)) _ ?_
      refine eS fun K38 hn38 hr38 he38 => ?_
      refine eC rfl (fun hx => absurd hx (by cases hx)) (fun hc8 => ?_)
      clear hc8
      refine he38 3 _ ?_
      refine he35 3 _ ?_
      refine hx34 _ ?_
      refine hn31 (some ([3, 5, 6, 7, 8, 10, 11, 12, 55, 56, 57], none)) _ ?_
      refine eS fun K39 hn39 hr39 he39 => ?_
      refine eQ ([.unr 4]) ?_ (fun K40 hk40 => ?_) ?_
      rotate_left
      · skip
        refine evTr_flo rfl fun K41 hk41 => ?_
        refine sh1 F1 ?_
        refine hk41 _ ?_
        refine evTr_flo rfl fun K42 hk42 => ?_
        refine sh1 F1 ?_
        refine hk42 _ ?_
        refine evTr_flo rfl fun K43 hk43 => ?_
        refine sh1 F1 ?_
        refine hk43 _ ?_
        refine evTr_flo rfl fun K44 hk44 => ?_
        refine sh1 F1 ?_
        refine hk44 _ ?_
        refine ⟨?_, ?_⟩
        · skip
          refine evTr_step rfl fun K45 hk45 => ?_
          refine sh1 F1 ?_
          refine sd ?_
          refine hk45 _ ?_
          refine ⟨?_, ?_⟩
          · skip
            refine evTr_step rfl fun K46 hk46 => ?_
            refine sh1 F1 ?_
            refine sd ?_
            refine hk46 _ ?_
            refine ⟨?_, ?_⟩
            · skip
              refine evTr_step rfl fun K47 hk47 => ?_
              refine sh1 F1 ?_
              refine sd ?_
              refine hk47 _ ?_
              refine evTr_flo rfl fun K48 hk48 => ?_
              refine sh1 F1 ?_
              refine sd ?_
              refine hk48 _ ?_
              refine evTr_step rfl fun K49 hk49 => ?_
              refine sh1 F1 ?_
              refine sd ?_
              refine hk49 _ ?_
              refine evTr_step rfl fun K50 hk50 => ?_
              refine sh1 F1 ?_
              refine sd ?_
              refine hk50 _ ?_
              refine evTr_step rfl fun K51 hk51 => ?_
              refine sh1 F1 ?_
              refine sd ?_
              refine hk51 _ ?_
              refine evTr_step rfl fun K52 hk52 => ?_
              refine sh1 F1 ?_
              refine sd ?_
              refine hk52 _ ?_
              refine hk40 _ (some ([3, 5, 6, 7, 8, 10, 11, 12, 55, 56, 57], none)) ?_
              exact sl0
            · skip
              refine evTr_step rfl fun K53 hk53 => ?_
              refine sh1 F1 ?_
              refine sd ?_
              refine hk53 _ ?_
              refine ⟨?_, ?_⟩
              · skip
                refine evTr_step rfl fun K54 hk54 => ?_
                refine sh1 F1 ?_
                refine sd ?_
                refine hk54 _ ?_
                refine evTr_flo rfl fun K55 hk55 => ?_
                refine sh1 F1 ?_
                refine sd ?_
                refine hk55 _ ?_
                refine evTr_step rfl fun K56 hk56 => ?_
                refine sh1 F1 ?_
                refine sd ?_
                refine hk56 _ ?_
                refine evTr_step rfl fun K57 hk57 => ?_
                refine sh1 F1 ?_
                refine sd ?_
                refine hk57 _ ?_
                refine evTr_step rfl fun K58 hk58 => ?_
                refine sh1 F1 ?_
                refine sd ?_
                refine hk58 _ ?_
                refine hk40 _ (some ([3, 5, 6, 7, 8, 10, 11, 12, 55, 56, 57], none)) ?_
                exact sl0
              · skip
                refine evTr_step rfl fun K59 hk59 => ?_
                refine sh1 F1 ?_
                refine sd ?_
                refine hk59 _ ?_
                refine evTr_step rfl fun K60 hk60 => ?_
                refine sh1 F1 ?_
                refine sd ?_
                refine hk60 _ ?_
                refine evTr_flo rfl fun K61 hk61 => ?_
                refine sh1 F1 ?_
                refine sd ?_
                refine hk61 _ ?_
                refine evTr_step rfl fun K62 hk62 => ?_
                refine sh1 F1 ?_
                refine sd ?_
                refine hk62 _ ?_
                refine evTr_step rfl fun K63 hk63 => ?_
                refine sh1 F1 ?_
                refine sd ?_
                refine hk63 _ ?_
                refine hk40 _ (some ([3, 5, 6, 7, 8, 10, 11, 12, 55, 56, 57], none)) ?_
                exact sl0
          · skip
            refine evTr_step rfl fun K64 hk64 => ?_
            refine sh1 F1 ?_
            refine sd ?_
            refine hk64 _ ?_
            refine ⟨?_, ?_⟩
            · skip
              refine evTr_step rfl fun K65 hk65 => ?_
              refine sh1 F1 ?_
              refine sd ?_
              refine hk65 _ ?_
              refine ⟨?_, ?_⟩
              · skip
                refine evTr_step rfl fun K66 hk66 => ?_
                refine sh1 F1 ?_
                refine sd ?_
                refine hk66 _ ?_
                refine evTr_flo rfl fun K67 hk67 => ?_
                refine sh1 F1 ?_
                refine sd ?_
                refine hk67 _ ?_
                refine evTr_step rfl fun K68 hk68 => ?_
                refine sh1 F1 ?_
                refine sd ?_
                refine hk68 _ ?_
                refine evTr_step rfl fun K69 hk69 => ?_
                refine sh1 F1 ?_
                refine sd ?_
                refine hk69 _ ?_
                refine evTr_step rfl fun K70 hk70 => ?_
                refine sh1 F1 ?_
                refine sd ?_
                refine hk70 _ ?_
                refine hk40 _ (some ([3, 5, 6, 7, 8, 10, 11, 12, 55, 56, 57], none)) ?_
                exact sl0
              · skip
                refine evTr_step rfl fun K71 hk71 => ?_
                refine sh1 F1 ?_
                refine sd ?_
                refine hk71 _ ?_
                refine evTr_step rfl fun K72 hk72 => ?_
                refine sh1 F1 ?_
                refine sd ?_
                refine hk72 _ ?_
                refine evTr_flo rfl fun K73 hk73 => ?_
                refine sh1 F1 ?_
                refine sd ?_
                refine hk73 _ ?_
                refine evTr_step rfl fun K74 hk74 => ?_
                refine sh1 F1 ?_
                refine sd ?_
                refine hk74 _ ?_
                refine evTr_step rfl fun K75 hk75 => ?_
                refine sh1 F1 ?_
                refine sd ?_
                refine hk75 _ ?_
                refine hk40 _ (some ([3, 5, 6, 7, 8, 10, 11, 12, 55, 56, 57], none)) ?_
                exact sl0
            · skip
              refine evTr_step rfl fun K76 hk76 => ?_
              refine sh1 F1 ?_
              refine sd ?_
              refine hk76 _ ?_
              refine evTr_step rfl fun K77 hk77 => ?_
              refine sh1 F1 ?_
              refine sd ?_
              refine hk77 _ ?_
              refine evTr_step rfl fun K78 hk78 => ?_
              refine sh1 F1 ?_
              refine sd ?_
              refine hk78 _ ?_
              refine evTr_flo rfl fun K79 hk79 => ?_
              refine sh1 F1 ?_
              refine sd ?_
              refine hk79 _ ?_
              refine evTr_step rfl fun K80 hk80 => ?_
              refine sh1 F1 ?_
              refine sd ?_
              refine hk80 _ ?_
              refine evTr_step rfl fun K81 hk81 => ?_
              refine sh1 F1 ?_
              refine sd ?_
              refine hk81 _ ?_
              refine hk40 _ (some ([3, 5, 6, 7, 8, 10, 11, 12, 55, 56, 57], none)) ?_
              exact sl0
        · skip
          refine evTr_step rfl fun K82 hk82 => ?_
          refine sh1 F1 ?_
          refine sd ?_
          refine hk82 _ ?_
          refine ⟨?_, ?_⟩
          · skip
            refine evTr_step rfl fun K83 hk83 => ?_
            refine sh1 F1 ?_
            refine sd ?_
            refine hk83 _ ?_
            refine ⟨?_, ?_⟩
            · skip
              refine evTr_step rfl fun K84 hk84 => ?_
              refine sh1 F1 ?_
              refine sd ?_
              refine hk84 _ ?_
              refine evTr_flo rfl fun K85 hk85 => ?_
              refine sh1 F1 ?_
              refine sd ?_
              refine hk85 _ ?_
              refine evTr_step rfl fun K86 hk86 => ?_
              refine sh1 F1 ?_
              refine sd ?_
              refine hk86 _ ?_
              refine evTr_step rfl fun K87 hk87 => ?_
              refine sh1 F1 ?_
              refine sd ?_
              refine hk87 _ ?_
              refine evTr_step rfl fun K88 hk88 => ?_
              refine sh1 F1 ?_
              refine sd ?_
              refine hk88 _ ?_
              refine evTr_step rfl fun K89 hk89 => ?_
              refine sh1 F1 ?_
              refine sd ?_
              refine hk89 _ ?_
              refine hk40 _ (some ([3, 5, 6, 7, 8, 10, 11, 12, 55, 56, 57], none)) ?_
              exact sl0
            · skip
              refine evTr_step rfl fun K90 hk90 => ?_
              refine sh1 F1 ?_
              refine sd ?_
              refine hk90 _ ?_
              refine ⟨?_, ?_⟩
              · skip
                refine evTr_step rfl fun K91 hk91 => ?_
                refine sh1 F1 ?_
                refine sd ?_
                refine hk91 _ ?_
                refine evTr_flo rfl fun K92 hk92 => ?_
                refine sh1 F1 ?_
                refine sd ?_
                refine hk92 _ ?_
                refine evTr_step rfl fun K93 hk93 => ?_
                refine sh1 F1 ?_
                refine sd ?_
                refine hk93 _ ?_
                refine evTr_step rfl fun K94 hk94 => ?_
                refine sh1 F1 ?_
                refine sd ?_
                refine hk94 _ ?_
                refine evTr_step rfl fun K95 hk95 => ?_
                refine sh1 F1 ?_
                refine sd ?_
                refine hk95 _ ?_
                refine hk40 _ (some ([3, 5, 6, 7, 8, 10, 11, 12, 55, 56, 57], none)) ?_
                exact sl0
              · skip
                refine evTr_step rfl fun K96 hk96 => ?_
                refine sh1 F1 ?_
                refine sd ?_
                refine hk96 _ ?_
                refine evTr_step rfl fun K97 hk97 => ?_
                refine sh1 F1 ?_
                refine sd ?_
                refine hk97 _ ?_
                refine evTr_flo rfl fun K98 hk98 => ?_
                refine sh1 F1 ?_
                refine sd ?_
                refine hk98 _ ?_
                refine evTr_step rfl fun K99 hk99 => ?_
                refine sh1 F1 ?_
                refine sd ?_
                refine hk99 _ ?_
                refine evTr_step rfl fun K100 hk100 => ?_
                refine sh1 F1 ?_
                refine sd ?_
                refine hk100 _ ?_
                refine hk40 _ (some ([3, 5, 6, 7, 8, 10, 11, 12, 55, 56, 57], none)) ?_
                exact sl0
          · skip
            refine evTr_step rfl fun K101 hk101 => ?_
            refine sh1 F1 ?_
            refine sd ?_
            refine hk101 _ ?_
            refine evTr_flo rfl fun K102 hk102 => ?_
            refine sh1 F1 ?_
            refine sd ?_
            refine hk102 _ ?_
            refine evTr_step rfl fun K103 hk103 => ?_
            refine sh1 F1 ?_
            refine sd ?_
            refine hk103 _ ?_
            refine evTr_step rfl fun K104 hk104 => ?_
            refine sh1 F1 ?_
            refine sd ?_
            refine hk104 _ ?_
            refine evTr_step rfl fun K105 hk105 => ?_
            refine sh1 F1 ?_
            refine sd ?_
            refine hk105 _ ?_
            refine evTr_step rfl fun K106 hk106 => ?_
            refine sh1 F1 ?_
            refine sd ?_
            refine hk106 _ ?_
            refine evTr_step rfl fun K107 hk107 => ?_
            refine sh1 F1 ?_
            refine sd ?_
            refine hk107 _ ?_
            refine hk40 _ (some ([3, 5, 6, 7, 8, 10, 11, 12, 55, 56, 57], none)) ?_
            exact sl0
      refine hn39 (some ([3, 5, 6, 7, 8, 10, 11, 12, 55, 56, 57], none)) _ ?_
      refine eS fun K108 hn108 hr108 he108 => ?_
      refine eO fun K109 hk109 => ?_
      refine tZ F1 ?_
      refine hk109 _ ?_
      refine hn108 (some ([3, 5, 6, 7, 8, 10, 12, 55, 56, 57, 136], none)) _ ?_
      refine eCt ?_
      refine eQ ([]) ?_ (fun K110 hk110 => ?_) ?_
      rotate_left
      · skip
        refine evTr_flo rfl fun K111 hk111 => ?_
        refine sh1 F1 ?_
        refine hk111 _ ?_
        refine evTr_flo rfl fun K112 hk112 => ?_
        refine sh1 F1 ?_
        refine hk112 _ ?_
        refine evTr_flo rfl fun K113 hk113 => ?_
        refine sh1 F1 ?_
        refine hk113 _ ?_
        refine evTr_flo rfl fun K114 hk114 => ?_
        refine sh1 F1 ?_
        refine hk114 _ ?_
        refine ⟨?_, ?_⟩
        · skip
          refine evTr_step rfl fun K115 hk115 => ?_
          refine sh1 F1 ?_
          refine sd ?_
          refine hk115 _ ?_
          refine evTr_flo rfl fun K116 hk116 => ?_
          refine sh1 F1 ?_
          refine sd ?_
          refine hk116 _ ?_
          refine ⟨?_, ?_⟩
          · skip
            refine evTr_step rfl fun K117 hk117 => ?_
            refine sh1 F1 ?_
            refine sd ?_
            refine hk117 _ ?_
            refine ⟨?_, ?_⟩
            · skip
              refine evTr_step rfl fun K118 hk118 => ?_
              refine sh1 F1 ?_
              refine sd ?_
              refine hk118 _ ?_
              refine evTr_flo rfl fun K119 hk119 => ?_
              refine sh1 F1 ?_
              refine sd ?_
              refine hk119 _ ?_
              refine evTr_step rfl fun K120 hk120 => ?_
              refine sh1 F1 ?_
              refine sd ?_
              refine hk120 _ ?_
              refine evTr_step rfl fun K121 hk121 => ?_
              refine sh1 F1 ?_
              refine sd ?_
              refine hk121 _ ?_
              refine evTr_step rfl fun K122 hk122 => ?_
              refine sh1 F1 ?_
              refine sd ?_
              refine hk122 _ ?_
              refine evTr_step rfl fun K123 hk123 => ?_
              refine sh1 F1 ?_
              refine sd ?_
              refine hk123 _ ?_
              refine hk110 _ (some ([3, 5, 6, 7, 8, 10, 55, 56, 57], none)) ?_
              exact sl0
            · skip
              refine evTr_step rfl fun K124 hk124 => ?_
              refine sh1 F1 ?_
              refine sd ?_
              refine hk124 _ ?_
              refine ⟨?_, ?_⟩
              · skip
                refine evTr_step rfl fun K125 hk125 => ?_
                refine sh1 F1 ?_
                refine sd ?_
                refine hk125 _ ?_
                refine evTr_flo rfl fun K126 hk126 => ?_
                refine sh1 F1 ?_
                refine sd ?_
                refine hk126 _ ?_
                refine evTr_step rfl fun K127 hk127 => ?_
                refine sh1 F1 ?_
                refine sd ?_
                refine hk127 _ ?_
                refine evTr_step rfl fun K128 hk128 => ?_
                refine sh1 F1 ?_
                refine sd ?_
                refine hk128 _ ?_
                refine evTr_step rfl fun K129 hk129 => ?_
                refine sh1 F1 ?_
                refine sd ?_
                refine hk129 _ ?_
                refine hk110 _ (some ([3, 5, 6, 7, 8, 10, 55, 56, 57], none)) ?_
                exact sl0
              · skip
                refine evTr_step rfl fun K130 hk130 => ?_
                refine sh1 F1 ?_
                refine sd ?_
                refine hk130 _ ?_
                refine evTr_step rfl fun K131 hk131 => ?_
                refine sh1 F1 ?_
                refine sd ?_
                refine hk131 _ ?_
                refine evTr_flo rfl fun K132 hk132 => ?_
                refine sh1 F1 ?_
                refine sd ?_
                refine hk132 _ ?_
                refine evTr_step rfl fun K133 hk133 => ?_
                refine sh1 F1 ?_
                refine sd ?_
                refine hk133 _ ?_
                refine evTr_step rfl fun K134 hk134 => ?_
                refine sh1 F1 ?_
                refine sd ?_
                refine hk134 _ ?_
                refine hk110 _ (some ([3, 5, 6, 7, 8, 10, 55, 56, 57], none)) ?_
                exact sl0
          · skip
            refine evTr_step rfl fun K135 hk135 => ?_
            refine sh1 F1 ?_
            refine sd ?_
            refine hk135 _ ?_
            refine ⟨?_, ?_⟩
            · skip
              refine evTr_step rfl fun K136 hk136 => ?_
              refine sh1 F1 ?_
              refine sd ?_
              refine hk136 _ ?_
              refine ⟨?_, ?_⟩
              · skip
                refine evTr_step rfl fun K137 hk137 => ?_
                refine sh1 F1 ?_
                refine sd ?_
                refine hk137 _ ?_
                refine evTr_flo rfl fun K138 hk138 => ?_
                refine sh1 F1 ?_
                refine sd ?_
                refine hk138 _ ?_
                refine evTr_step rfl fun K139 hk139 => ?_
                refine sh1 F1 ?_
                refine sd ?_
                refine hk139 _ ?_
                refine evTr_step rfl fun K140 hk140 => ?_
                refine sh1 F1 ?_
                refine sd ?_
                refine hk140 _ ?_
                refine evTr_step rfl fun K141 hk141 => ?_
                refine sh1 F1 ?_
                refine sd ?_
                refine hk141 _ ?_
                refine hk110 _ (some ([3, 5, 6, 7, 8, 10, 55, 56, 57], none)) ?_
                exact sl0
              · skip
                refine evTr_step rfl fun K142 hk142 => ?_
                refine sh1 F1 ?_
                refine sd ?_
                refine hk142 _ ?_
                refine evTr_step rfl fun K143 hk143 => ?_
                refine sh1 F1 ?_
                refine sd ?_
                refine hk143 _ ?_
                refine evTr_flo rfl fun K144 hk144 => ?_
                refine sh1 F1 ?_
                refine sd ?_
                refine hk144 _ ?_
                refine evTr_step rfl fun K145 hk145 => ?_
                refine sh1 F1 ?_
                refine sd ?_
                refine hk145 _ ?_
                refine evTr_step rfl fun K146 hk146 => ?_
                refine sh1 F1 ?_
                refine sd ?_
                refine hk146 _ ?_
                refine hk110 _ (some ([3, 5, 6, 7, 8, 10, 55, 56, 57], none)) ?_
                exact sl0
            · skip
              refine evTr_step rfl fun K147 hk147 => ?_
              refine sh1 F1 ?_
              refine sd ?_
              refine hk147 _ ?_
              refine evTr_step rfl fun K148 hk148 => ?_
              refine sh1 F1 ?_
              refine sd ?_
              refine hk148 _ ?_
              refine evTr_step rfl fun K149 hk149 => ?_
              refine sh1 F1 ?_
              refine sd ?_
              refine hk149 _ ?_
              refine evTr_flo rfl fun K150 hk150 => ?_
              refine sh1 F1 ?_
              refine sd ?_
              refine hk150 _ ?_
              refine evTr_step rfl fun K151 hk151 => ?_
              refine sh1 F1 ?_
              refine sd ?_
              refine hk151 _ ?_
              refine evTr_step rfl fun K152 hk152 => ?_
              refine sh1 F1 ?_
              refine sd ?_
              refine hk152 _ ?_
              refine hk110 _ (some ([3, 5, 6, 7, 8, 10, 55, 56, 57], none)) ?_
              exact sl0
        · skip
          refine evTr_step rfl fun K153 hk153 => ?_
          refine sh1 F1 ?_
          refine sd ?_
          refine hk153 _ ?_
          refine ⟨?_, ?_⟩
          · skip
            refine evTr_step rfl fun K154 hk154 => ?_
            refine sh1 F1 ?_
            refine sd ?_
            refine hk154 _ ?_
            refine evTr_flo rfl fun K155 hk155 => ?_
            refine sh1 F1 ?_
            refine sd ?_
            refine hk155 _ ?_
            refine ⟨?_, ?_⟩
            · skip
              refine evTr_step rfl fun K156 hk156 => ?_
              refine sh1 F1 ?_
              refine sd ?_
              refine hk156 _ ?_
              refine evTr_flo rfl fun K157 hk157 => ?_
              refine sh1 F1 ?_
              refine sd ?_
              refine hk157 _ ?_
              refine evTr_step rfl fun K158 hk158 => ?_
              refine sh1 F1 ?_
              refine sd ?_
              refine hk158 _ ?_
              refine evTr_step rfl fun K159 hk159 => ?_
              refine sh1 F1 ?_
              refine sd ?_
              refine hk159 _ ?_
              refine evTr_step rfl fun K160 hk160 => ?_
              refine sh1 F1 ?_
              refine sd ?_
              refine hk160 _ ?_
              refine evTr_step rfl fun K161 hk161 => ?_
              refine sh1 F1 ?_
              refine sd ?_
              refine hk161 _ ?_
              refine hk110 _ (some ([3, 5, 6, 7, 8, 10, 55, 56, 57], none)) ?_
              exact sl0
            · skip
              refine evTr_step rfl fun K162 hk162 => ?_
              refine sh1 F1 ?_
              refine sd ?_
              refine hk162 _ ?_
              refine ⟨?_, ?_⟩
              · skip
                refine evTr_step rfl fun K163 hk163 => ?_
                refine sh1 F1 ?_
                refine sd ?_
                refine hk163 _ ?_
                refine evTr_flo rfl fun K164 hk164 => ?_
                refine sh1 F1 ?_
                refine sd ?_
                refine hk164 _ ?_
                refine evTr_step rfl fun K165 hk165 => ?_
                refine sh1 F1 ?_
                refine sd ?_
                refine hk165 _ ?_
                refine evTr_step rfl fun K166 hk166 => ?_
                refine sh1 F1 ?_
                refine sd ?_
                refine hk166 _ ?_
                refine evTr_step rfl fun K167 hk167 => ?_
                refine sh1 F1 ?_
                refine sd ?_
                refine hk167 _ ?_
                refine hk110 _ (some ([3, 5, 6, 7, 8, 10, 55, 56, 57], none)) ?_
                exact sl0
              · skip
                refine evTr_step rfl fun K168 hk168 => ?_
                refine sh1 F1 ?_
                refine sd ?_
                refine hk168 _ ?_
                refine evTr_step rfl fun K169 hk169 => ?_
                refine sh1 F1 ?_
                refine sd ?_
                refine hk169 _ ?_
                refine evTr_flo rfl fun K170 hk170 => ?_
                refine sh1 F1 ?_
                refine sd ?_
                refine hk170 _ ?_
                refine evTr_step rfl fun K171 hk171 => ?_
                refine sh1 F1 ?_
                refine sd ?_
                refine hk171 _ ?_
                refine evTr_step rfl fun K172 hk172 => ?_
                refine sh1 F1 ?_
                refine sd ?_
                refine hk172 _ ?_
                refine hk110 _ (some ([3, 5, 6, 7, 8, 10, 55, 56, 57], none)) ?_
                exact sl0
          · skip
            refine evTr_step rfl fun K173 hk173 => ?_
            refine sh1 F1 ?_
            refine sd ?_
            refine hk173 _ ?_
            refine evTr_flo rfl fun K174 hk174 => ?_
            refine sh1 F1 ?_
            refine sd ?_
            refine hk174 _ ?_
            refine evTr_step rfl fun K175 hk175 => ?_
            refine sh1 F1 ?_
            refine sd ?_
            refine hk175 _ ?_
            refine evTr_flo rfl fun K176 hk176 => ?_
            refine sh1 F1 ?_
            refine sd ?_
            refine hk176 _ ?_
            refine evTr_step rfl fun K177 hk177 => ?_
            refine sh1 F1 ?_
            refine sd ?_
            refine hk177 _ ?_
            refine evTr_step rfl fun K178 hk178 => ?_
            refine sh1 F1 ?_
            refine sd ?_
            refine hk178 _ ?_
            refine evTr_step rfl fun K179 hk179 => ?_
            refine sh1 F1 ?_
            refine sd ?_
            refine hk179 _ ?_
            refine evTr_step rfl fun K180 hk180 => ?_
            refine sh1 F1 ?_
            refine sd ?_
            refine hk180 _ ?_
            refine hk110 _ (some ([3, 5, 6, 7, 8, 10, 55, 56, 57], none)) ?_
            exact sl0
      refine hn11 _ ?_
      refine hn8 (some ([3, 5, 6, 7, 8, 10, 55, 56, 57], some ([0, 1, 2, 3, 4, 5], 6))) _ ?_
      refine lp0 ?_
      simp only [eRds_refs, eRds_ren, i5_refs, i5_ren, u5_refs, u5_ren, if_true, and_self]
      refine ts_rest (x := x) hT2 (by omega) (fun v' hT' S' hS' => ?_)
      refine hn2 _ ?_
      refine hn1 (some ([3, 5, 6, 7, 8, 55, 56, 57], some ([0, 1, 2, 3, 4], 5))) _ ?_
      rw [hS']
      unfold tsS
      refine eO fun K181 hk181 => ?_
      refine tC 1 F1 ?_
      refine tL F1 ?_
      refine hk181 _ ?_
      refine hK v' _ _ hT' hN hM _ ?_
      refine lp0 ?_
      unfold tsS
      (try simp only [eRds_refs, eRds_ren, i5_refs, i5_ren, u5_refs, u5_ren, if_true, and_self]) <;> rfl
    · skip
      have hj6 := hj2
      obtain ⟨mm, hmr, rfl⟩ := Option.map_eq_some_iff.1 hj2
      obtain ⟨hvm, hm0, hm1, hjb⟩ := hT.inRng hf hj1 hmr
      have w3 : IntKind.i64.wrap (mm + ((2 : Nat) : Int)) = mm + 2 := by rw [IntKind.wrap_i64]; omega
      have F2 := And.intro F1 (And.intro @hj6 (And.intro @w3 (And.intro @sgd_some @sis_some)))
      refine tL F2 ?_
      refine hk37 _ ?_
      refine hn36 (some ([3, 5, 6, 7, 8, 10, 11, 12, 23, 55, 56, 57, 113, 115], none)) _ ?_
      refine eS fun K182 hn182 hr182 he182 => ?_
      refine eC rfl (fun hc8 => ?_) (fun hx => absurd hx (by cases hx))
      clear hc8
      refine hn182 (some ([3, 5, 6, 7, 8, 10, 11, 12, 23, 55, 56, 57, 113], none)) _ ?_
      refine eB fun K183 hn183 hx183 hr183 he183 => ?_
      refine eS fun K184 hn184 hr184 he184 => ?_
      refine eO fun K185 hk185 => ?_
      refine tS 1 F2 ?_
      refine evItm_mk 4 (by rfl) ⟨_, hj2, ?_⟩
      refine tL F2 ?_
      refine hk185 _ ?_
      refine hn184 (some ([3, 5, 6, 7, 8, 10, 11, 12, 23, 27, 55, 56, 57, 113], none)) _ ?_
      refine eO fun K186 hk186 => ?_
      refine tC 3 F2 ?_
      refine tC 3 F2 ?_
      refine tZ F2 ?_
      refine hk186 _ ?_
      refine hn183 _ ?_
      refine hn35 (cj) (some ([3, 5, 6, 7, 8, 10, 11, 12, 23, 55, 56, 57, 113], some ([0, 1, 2, 3, 4, 5, 6, 7], 8))) _ ?_ ?_
      all_goals try refine lp0 ?_
      · exact hj5
      · refine ⟨q, fun z => left z && z != jj, some jj, updO f jj (some (mm + 2)), fun r => ?_, ?_⟩
        · unfold updO
          by_cases e : r = jj
          · subst e; simp [hvm]
          · simp [e]; exact hf r
        · rw [updI_eq]
          (try simp only [eRds_refs, eRds_ren, i5_refs, i5_ren, u5_refs, u5_ren, if_true, and_self]) <;> rfl
end Go.Proofs.Ytijblpkdfmkcfaa

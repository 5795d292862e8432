/-
  TopSnapshot by shadows: an act that opens a reader, with one free.
-/
import Derived.Test.YtijblpkdfmkcfaaKTv
namespace Go.Proofs.Ytijblpkdfmkcfaa
set_option linter.unusedSimpArgs false
set_option linter.unusedVariables false
open Go.RowKit Go.Maps

theorem TsI.free' {n : Nat} {v : TsV} (h : TsI n v) {m : Nat} {x : Int} (hm : v.s.rd[m]? = some (false, x)) {nl : Nat} (hl : ∃ l : List Int, l.Nodup ∧ l.length = nl ∧ ∀ j, mWor v.wo j ≠ none ↔ j ∈ l) : ¬ (nl : Int) ≥ 8 := by
  obtain ⟨l, h1, h2, h3⟩ := hl
  have := h.free h1 h3 hm
  omega
theorem i5_frz (S : St) (w : List Int) : S.frzCells (w.map sI) = S := by
  induction w with
  | nil => rfl
  | cons x w ih => simp only [List.map_cons, St.frzCells, ih]
set_option maxHeartbeats 4000000 in
theorem ts_oo {acts : List ActT} {i : Nat} {x : ActT} {ia ib iq : Nat} (hA : ActAt acts i x ia ib iq) {v : TsV} {N M : Nat} (hT : TsI i v) (hN : N ≤ 9) (hM : M ≤ 9) (d2 : (x.op.tmod 4 == 2) = true)
    {rm : Nat} {ry : Int} (hm : v.s.rd[rm]? = some (false, ry)) (hlo : ∀ j, j < rm → ∃ x, v.s.rd[j]? = some (true, x)) {K : Ex → St → Prop} (hK : BodyK acts i K) : ev sc_TsBody (tsS v N M (.sl 6 2 (acts.map eAct)) acts.length i) K := by
  have hv := rdF _ hT.ok.rd
  have ko := ok_snOpen hT.ok hm hlo
  have hlt := hA.lt
  have hl6 := hA.len
  have hT2 := (hT.open hm).2
  have hwn : mWor v.wo ((rm + 1 : Nat) : Int) = none := by
    show (v.wo ((rm + 1 : Nat) : Int)).map shI5 = none
    rw [(hT.open hm).1]; rfl
  have hrm : rm < 8 := by have := (List.getElem?_eq_some_iff.1 hm).1; rw [hT.ok.rd] at this; exact this
  have hv2 := rdF (openM v.s rm) hT2.ok.rd
  have l5 : v.now.length = 5 := hT.l1
  have tk : List.take 5 (v.now.map sI) = v.now.map sI := List.take_of_length_le (by rw [List.length_map, hT.l1]; omega)
  have hfr := fun nl => @TsI.free' _ _ hT _ _ hm nl
  have hbW := hT.bdW (r := ((rm + 1 : Nat) : Int)) (by omega)
  have hbS := hT.bdS (r := ((rm + 1 : Nat) : Int)) (by omega)
  clear hlo hm
  unfold tsS
  unfold sc_TsBody
  have F1 := And.intro @hv (And.intro @sh_nil (And.intro @i5_one (And.intro @hA.all (And.intro @d2 (And.intro @hv2 (And.intro @hwn (And.intro @sgd_none (And.intro @sis_none (And.intro @tk (And.intro @l5 (And.intro @i5_arg @i5_frz)))))))))))
  refine eS fun K1 hn1 hr1 he1 => ?_
  refine eB fun K2 hn2 hx2 hr2 he2 => ?_
  refine eS fun K3 hn3 hr3 he3 => ?_
  refine eO fun K4 hk4 => ?_
  refine tC 1 F1 ?_
  refine tC 1 F1 ?_
  refine tZ F1 ?_
  refine hk4 _ ?_
  refine hn3 (some ([3, 5, 6, 7, 8, 10, 55, 56, 57], none)) _ ?_
  refine eS fun K5 hn5 hr5 he5 => ?_
  refine eD [] (n := 9) fun K6 hk6 => ?_
  refine sq0 ?_
  refine fC 2 F1 ?_
  refine fC 1 F1 ?_
  refine fC 3 F1 ?_
  refine fC 1 F1 ?_
  refine fL F1 ?_
  refine hk6 _ ?_
  refine sr0 ?_
  refine tL F1 ?_
  refine hn5 (some ([3, 5, 6, 7, 8, 10, 11, 12, 55, 56, 57], none)) _ ?_
  refine eS fun K8 hn8 hr8 he8 => ?_
  refine eS fun K9 hn9 hr9 he9 => ?_
  refine eO fun K10 hk10 => ?_
  refine tC 2 F1 ?_
  refine tZ F1 ?_
  refine hk10 _ ?_
  refine hn9 (some ([3, 5, 6, 7, 8, 10, 11, 12, 55, 56, 57, 71], none)) _ ?_
  refine eB fun K11 hn11 hx11 hr11 he11 => ?_
  refine eS fun K12 hn12 hr12 he12 => ?_
  refine eO fun K13 hk13 => ?_
  refine tC 1 F1 ?_
  refine tL F1 ?_
  refine hk13 _ ?_
  refine hn12 (some ([3, 5, 6, 7, 8, 10, 11, 12, 55, 56, 57, 71, 148], none)) _ ?_
  refine eCt ?_
  refine eS fun K14 hn14 hr14 he14 => ?_
  refine eO fun K15 hk15 => ?_
  refine tC 1 F1 ?_
  refine tS 1 F1 ?_
  refine Or.inl (Or.inl ⟨_, ko, ?_⟩)
  refine tC 6 F1 ?_
  refine tL F1 ?_
  refine hk15 _ ?_
  refine hn14 (some ([3, 5, 6, 7, 8, 10, 13, 14, 15, 55, 56, 57], none)) _ ?_
  refine eS fun K16 hn16 hr16 he16 => ?_
  refine eS fun K17 hn17 hr17 he17 => ?_
  refine eO fun K18 hk18 => ?_
  refine tS 1 F1 ?_
  refine tS 1 F1 ?_
  refine fun nl0 hl0 => ?_
  have hd2 := hfr _ hl0
  have F2 := And.intro F1 @hd2
  refine tZ F2 ?_
  refine hk18 _ ?_
  refine hn17 (some ([3, 5, 6, 7, 8, 10, 13, 14, 15, 55, 56, 57, 158], none)) _ ?_
  refine eCf ?_
  refine hn16 (some ([3, 5, 6, 7, 8, 10, 13, 14, 15, 55, 56, 57], none)) _ ?_
  refine eS fun K19 hn19 hr19 he19 => ?_
  refine eS fun K20 hn20 hr20 he20 => ?_
  refine eO fun K21 hk21 => ?_
  refine tC 3 F2 ?_
  refine tC 5 F2 ?_
  refine tL F2 ?_
  refine hk21 _ ?_
  refine hn20 (some ([3, 5, 6, 7, 8, 10, 13, 14, 15, 17, 55, 56, 57], none)) _ ?_
  refine eS fun K22 hn22 hr22 he22 => ?_
  refine eO fun K23 hk23 => ?_
  refine tC 4 F2 ?_
  refine tL F2 ?_
  refine hk23 _ ?_
  refine hn22 (some ([3, 5, 6, 7, 8, 10, 13, 14, 55, 56, 57, 171], none)) _ ?_
  refine eCf ?_
  refine hn19 (some ([3, 5, 6, 7, 8, 10, 13, 14, 55, 56, 57], none)) _ ?_
  refine eQ ([]) ?_ (fun K24 hk24 => ?_) ?_
  rotate_left
  · skip
    refine evTr_flo rfl fun K25 hk25 => ?_
    refine sh1 F2 ?_
    refine hk25 _ ?_
    refine evTr_flo rfl fun K26 hk26 => ?_
    refine sh1 F2 ?_
    refine hk26 _ ?_
    refine evTr_flo rfl fun K27 hk27 => ?_
    refine sh1 F2 ?_
    refine hk27 _ ?_
    refine evTr_flo rfl fun K28 hk28 => ?_
    refine sh1 F2 ?_
    refine hk28 _ ?_
    refine ⟨?_, ?_⟩
    · skip
      refine evTr_step rfl fun K29 hk29 => ?_
      refine sh1 F2 ?_
      refine sd ?_
      refine hk29 _ ?_
      refine ⟨?_, ?_⟩
      · skip
        refine evTr_step rfl fun K30 hk30 => ?_
        refine sh1 F2 ?_
        refine sd ?_
        refine hk30 _ ?_
        refine evTr_step rfl fun K31 hk31 => ?_
        refine sh1 F2 ?_
        refine sd ?_
        refine hk31 _ ?_
        refine evTr_step rfl fun K32 hk32 => ?_
        refine sh1 F2 ?_
        refine sd ?_
        refine Or.inr ⟨9, ⟨by decide, hbW _⟩, ?_⟩
        refine hk32 _ ?_
        refine evTr_step rfl fun K33 hk33 => ?_
        refine sh1 F2 ?_
        refine sd ?_
        refine Or.inr ⟨9, ⟨by decide, hbS _⟩, ?_⟩
        refine hk33 _ ?_
        refine hk24 _ (some ([3, 5, 6, 7, 8, 10, 55, 56, 57], none)) ?_
        exact sl0
      · skip
        refine evTr_step rfl fun K34 hk34 => ?_
        refine sh1 F2 ?_
        refine sd ?_
        refine hk34 _ ?_
        refine evTr_step rfl fun K35 hk35 => ?_
        refine sh1 F2 ?_
        refine sd ?_
        refine hk35 _ ?_
        refine evTr_step rfl fun K36 hk36 => ?_
        refine sh1 F2 ?_
        refine sd ?_
        refine Or.inr ⟨9, ⟨by decide, hbW _⟩, ?_⟩
        refine hk36 _ ?_
        refine evTr_step rfl fun K37 hk37 => ?_
        refine sh1 F2 ?_
        refine sd ?_
        refine Or.inr ⟨9, ⟨by decide, hbS _⟩, ?_⟩
        refine hk37 _ ?_
        refine hk24 _ (some ([3, 5, 6, 7, 8, 10, 55, 56, 57], none)) ?_
        exact sl0
    · skip
      refine evTr_step rfl fun K38 hk38 => ?_
      refine sh1 F2 ?_
      refine sd ?_
      refine hk38 _ ?_
      refine evTr_step rfl fun K39 hk39 => ?_
      refine sh1 F2 ?_
      refine sd ?_
      refine hk39 _ ?_
      refine evTr_step rfl fun K40 hk40 => ?_
      refine sh1 F2 ?_
      refine sd ?_
      refine hk40 _ ?_
      refine evTr_step rfl fun K41 hk41 => ?_
      refine sh1 F2 ?_
      refine sd ?_
      refine Or.inr ⟨9, ⟨by decide, hbW _⟩, ?_⟩
      refine hk41 _ ?_
      refine evTr_step rfl fun K42 hk42 => ?_
      refine sh1 F2 ?_
      refine sd ?_
      refine Or.inr ⟨9, ⟨by decide, hbS _⟩, ?_⟩
      refine hk42 _ ?_
      refine hk24 _ (some ([3, 5, 6, 7, 8, 10, 55, 56, 57], none)) ?_
      exact sl0
  refine hn11 _ ?_
  refine hn8 (some ([3, 5, 6, 7, 8, 10, 55, 56, 57], some ([0, 1, 2, 3, 4, 5], 6))) _ ?_
  refine lp0 ?_
  (try simp only [eRds_refs, eRds_ren, i5_refs, i5_ren, u5_refs, u5_ren, if_true])
  rw [updW_eq, updI_eq]
  refine ts_rest (x := x) (N := 9) (M := 9) hT2 (by omega) (fun v' hT' S' hS' => ?_)
  refine hn2 _ ?_
  refine hn1 (some ([3, 5, 6, 7, 8, 55, 56, 57], some ([0, 1, 2, 3, 4], 5))) _ ?_
  rw [hS']
  unfold tsS
  refine eO fun K43 hk43 => ?_
  refine tC 1 F2 ?_
  refine tL F2 ?_
  refine hk43 _ ?_
  refine hK v' 9 9 hT'.mono (by omega) (by omega) _ ?_
  refine lp0 ?_
  unfold tsS
  (try simp only [eRds_refs, eRds_ren, i5_refs, i5_ren, u5_refs, u5_ren, if_true, and_self]) <;> rfl
end Go.Proofs.Ytijblpkdfmkcfaa

/-
  TopSnapshot by shadows: an act that opens a reader.
-/
import Derived.Test.YtijblpkdfmkcfaaKTt
import Derived.Test.YtijblpkdfmkcfaaScT2
namespace Go.Proofs.Ytijblpkdfmkcfaa
set_option linter.unusedSimpArgs false
set_option linter.unusedVariables false
open Go.RowKit Go.Maps

def ActOk (x : ActT) : Prop := (0 ≤ x.op ∧ x.op ≤ 255) ∧ (0 ≤ x.a ∧ x.a ≤ 255) ∧ (0 ≤ x.b ∧ x.b ≤ 255) ∧ (0 ≤ x.n ∧ x.n ≤ 255)
theorem u8_mod {a : Int} (h : 0 ≤ a ∧ a ≤ 255) {k : Int} (hk : 0 < k) (hk2 : k ≤ 8) : ∃ i : Nat, (i : Int) < k ∧ IntKind.i64.wrap (a.tmod k) = (i : Int) := by
  have h1 := Int.emod_nonneg a (show k ≠ 0 by omega)
  have h2 := Int.emod_lt_of_pos a hk
  refine ⟨(a % k).toNat, by omega, ?_⟩
  rw [Int.tmod_eq_emod_of_nonneg h.1, IntKind.wrap_i64]; omega
theorem TsI.bdW {n : Nat} {v : TsV} (h : TsI n v) {r : Int} (hr : 0 ≤ r ∧ r < 9) (z : Sh) (q : Int) (hq : (if q = r then some z else mWor v.wo q) ≠ none) : 0 ≤ q ∧ q < ((9 : Nat) : Int) := by
  by_cases e : q = r
  · omega
  · rw [if_neg e] at hq; have := h.keyW (mWor_none.1 hq); omega
theorem TsI.bdS {n : Nat} {v : TsV} (h : TsI n v) {r : Int} (hr : 0 ≤ r ∧ r < 9) (z : Sh) (q : Int) (hq : (if q = r then some z else mSi v.si q) ≠ none) : 0 ≤ q ∧ q < ((9 : Nat) : Int) := by
  by_cases e : q = r
  · omega
  · rw [if_neg e] at hq; have := h.keyS (r := q) (fun e2 => hq (by simp [e2])); omega
/-- What an act of the law is at its place: which cells and which reader it names. -/
structure ActAt (acts : List ActT) (i : Nat) (x : ActT) (ia ib iq : Nat) : Prop where
  at_ : acts[i]? = some x
  len : acts.length ≤ 60
  a5 : ia < 5
  b5 : ib < 5
  q8 : iq < 8
  ea : IntKind.i64.wrap (x.a.tmod 5) = (ia : Int)
  eb : IntKind.i64.wrap (x.b.tmod 5) = (ib : Int)
  eq : IntKind.i64.wrap (x.n.tmod 8) = (iq : Int)
theorem ActAt.lt {acts : List ActT} {i : Nat} {x : ActT} {ia ib iq : Nat} (h : ActAt acts i x ia ib iq) : i < acts.length := (List.getElem?_eq_some_iff.1 h.at_).1
theorem ActAt.nx {acts : List ActT} {i : Nat} {x : ActT} {ia ib iq : Nat} (h : ActAt acts i x ia ib iq) : IntKind.i64.wrap ((i : Int) + 1) = ((i + 1 : Nat) : Int) := by
  have := h.lt; have := h.len
  rw [IntKind.wrap_i64]; omega
theorem ActAt.all {acts : List ActT} {i : Nat} {x : ActT} {ia ib iq : Nat} (h : ActAt acts i x ia ib iq) :
    acts[i]? = some x ∧ IntKind.i64.wrap (x.a.tmod 5) = (ia : Int) ∧ IntKind.i64.wrap (x.b.tmod 5) = (ib : Int) ∧ IntKind.i64.wrap (x.n.tmod 8) = (iq : Int) ∧ IntKind.i64.wrap ((i : Int) + 1) = ((i + 1 : Nat) : Int) := ⟨h.at_, h.ea, h.eb, h.eq, h.nx⟩
/-- What stands behind the body of the law's loop. -/
def BodyK (acts : List ActT) (i : Nat) (K : Ex → St → Prop) : Prop :=
  ∀ v' N' M', TsI (i + 1) v' → N' ≤ 9 → M' ≤ 9 → ∀ S' : St, S'.keep (some ([3, 5, 6, 7, 8, 55, 56, 57], some ([0, 1, 2, 3, 4], 5))) = tsS v' N' M' (.sl 6 2 (acts.map eAct)) acts.length ((i + 1 : Nat) : Int) → K .next S'
theorem TsI.full' {n : Nat} {v : TsV} (h : TsI n v) (hop : ∀ j, j < 8 → ∃ x, v.s.rd[j]? = some (true, x)) {nl : Nat} (hl : ∃ l : List Int, l.Nodup ∧ l.length = nl ∧ ∀ j, mWor v.wo j ≠ none ↔ j ∈ l) : (nl : Int) ≥ 8 := by
  obtain ⟨l, _, h2, h3⟩ := hl
  have := h.full h3 hop
  omega
set_option maxHeartbeats 4000000 in
theorem ts_of {acts : List ActT} {i : Nat} {x : ActT} {ia ib iq : Nat} (hA : ActAt acts i x ia ib iq) {v : TsV} {N M : Nat} (hT : TsI i v) (hN : N ≤ 9) (hM : M ≤ 9) (d2 : (x.op.tmod 4 == 2) = true)
    (hop : ∀ j, j < 8 → ∃ x, v.s.rd[j]? = some (true, x)) {K : Ex → St → Prop} (hK : BodyK acts i K) : ev sc_TsBody (tsS v N M (.sl 6 2 (acts.map eAct)) acts.length i) K := by
  have hv := rdF _ hT.ok.rd
  have ko := ok_snOpen_no hT.ok hop
  have hlt := hA.lt
  have hl6 := hA.len
  unfold tsS
  unfold sc_TsBody
  have F1 := And.intro @hv (And.intro @sh_nil (And.intro @i5_one (And.intro @hA.all @d2)))
  refine eS fun K1 hn1 hr1 he1 => ?_
  refine eB fun K2 hn2 hx2 hr2 he2 => ?_
  refine eS fun K3 hn3 hr3 he3 => ?_
  refine eO fun K4 hk4 => ?_
  refine tC 1 F1 ?_
  refine tC 1 F1 ?_
  refine tZ F1 ?_
  refine hk4 _ ?_
  refine hn3 (some ([3, 5, 6, 7, 8, 10, 55, 56, 57], none)) _ ?_
  refine eS fun K5 hn5 hr5 he5 => ?_
  refine eD [] (n := 9) fun K6 hk6 => ?_
  refine sq0 ?_
  refine fC 2 F1 ?_
  refine fC 1 F1 ?_
  refine fC 3 F1 ?_
  refine fC 1 F1 ?_
  refine fL F1 ?_
  refine hk6 _ ?_
  refine sr0 ?_
  refine tL F1 ?_
  refine hn5 (some ([3, 5, 6, 7, 8, 10, 11, 12, 55, 56, 57], none)) _ ?_
  refine eS fun K8 hn8 hr8 he8 => ?_
  refine eS fun K9 hn9 hr9 he9 => ?_
  refine eO fun K10 hk10 => ?_
  refine tC 2 F1 ?_
  refine tZ F1 ?_
  refine hk10 _ ?_
  refine hn9 (some ([3, 5, 6, 7, 8, 10, 11, 12, 55, 56, 57, 71], none)) _ ?_
  refine eB fun K11 hn11 hx11 hr11 he11 => ?_
  refine eS fun K12 hn12 hr12 he12 => ?_
  refine eO fun K13 hk13 => ?_
  refine tC 1 F1 ?_
  refine tL F1 ?_
  refine hk13 _ ?_
  refine hn12 (some ([3, 5, 6, 7, 8, 10, 11, 12, 55, 56, 57, 71, 148], none)) _ ?_
  refine eCt ?_
  refine eS fun K14 hn14 hr14 he14 => ?_
  refine eO fun K15 hk15 => ?_
  refine tC 1 F1 ?_
  refine tS 1 F1 ?_
  refine Or.inl (Or.inl ⟨_, ko, ?_⟩)
  refine tC 6 F1 ?_
  refine tL F1 ?_
  refine hk15 _ ?_
  refine hn14 (some ([3, 5, 6, 7, 8, 10, 13, 14, 15, 55, 56, 57], none)) _ ?_
  refine eS fun K16 hn16 hr16 he16 => ?_
  refine eS fun K17 hn17 hr17 he17 => ?_
  refine eO fun K18 hk18 => ?_
  refine tS 1 F1 ?_
  refine tS 1 F1 ?_
  refine fun nl0 hl0 => ?_
  have hd2 := hT.full' hop hl0
  have F2 := And.intro F1 @hd2
  refine tZ F2 ?_
  refine hk18 _ ?_
  refine hn17 (some ([3, 5, 6, 7, 8, 10, 13, 14, 15, 55, 56, 57, 158], none)) _ ?_
  refine eCt ?_
  refine eS fun K19 hn19 hr19 he19 => ?_
  refine eS fun K20 hn20 hr20 he20 => ?_
  refine eO fun K21 hk21 => ?_
  refine tZ F2 ?_
  refine hk21 _ ?_
  refine hn20 (some ([3, 5, 6, 7, 8, 10, 55, 56, 57, 160], none)) _ ?_
  refine eCf ?_
  refine hn19 (some ([3, 5, 6, 7, 8, 10, 55, 56, 57], none)) _ ?_
  refine he16 2 _ ?_
  refine hx11 _ ?_
  refine hn8 (some ([3, 5, 6, 7, 8, 10, 55, 56, 57], some ([0, 1, 2, 3, 4, 5], 6))) _ ?_
  refine lp0 ?_
  (try simp only [eRds_refs, eRds_ren, i5_refs, i5_ren, u5_refs, u5_ren, if_true])
  refine ts_rest (x := x) hT (by omega) (fun v' hT' S' hS' => ?_)
  refine hn2 _ ?_
  refine hn1 (some ([3, 5, 6, 7, 8, 55, 56, 57], some ([0, 1, 2, 3, 4], 5))) _ ?_
  rw [hS']
  unfold tsS
  refine eO fun K22 hk22 => ?_
  refine tC 1 F2 ?_
  refine tL F2 ?_
  refine hk22 _ ?_
  refine hK v' _ _ hT'.mono hN hM _ ?_
  refine lp0 ?_
  unfold tsS
  (try simp only [eRds_refs, eRds_ren, i5_refs, i5_ren, u5_refs, u5_ren, if_true, and_self]) <;> rfl
end Go.Proofs.Ytijblpkdfmkcfaa

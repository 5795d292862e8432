/-
  TopSnapshot by shadows: behind the switch.
-/
import Derived.Test.YtijblpkdfmkcfaaKTq
namespace Go.Proofs.Ytijblpkdfmkcfaa
set_option linter.unusedSimpArgs false
set_option linter.unusedVariables false
open Go.RowKit Go.Maps

structure ActT where
  op : Int
  a : Int
  b : Int
  n : Int
  v : Int
  trim : Bool
abbrev sU8 (n : Int) : Sh := .v (.int .u8 n)
abbrev eAct (x : ActT) : List Sh := [sU8 x.op, sU8 x.a, sU8 x.b, sU8 x.n, sI x.v, sB x.trim]
def tsS6 (v : TsV) (N M : Nat) (A : Sh) (m i : Int) (x : ActT) : St :=
  ⟨[(3, .ptr 0 0 0), (5, .ptr 1 0 0), (6, .ptr 2 0 0), (7, .own 3), (8, .own 4), (10, .ptr 5 0 0), (55, A), (56, sI m), (57, sI i)],
   [(0, .box 30 (eSn v.s)), (1, .box 34 (v.now.map sI)), (2, .box 36 (v.vers.map sU)), (3, .map 3 N (mWor v.wo)), (4, .map 3 M (mSi v.si)), (5, .box 40 (eAct x))], 6⟩
def L2Inv (v : TsV) (N M : Nat) (A : Sh) (m i : Int) (bef cut : Int) (t : SnM) (b : Nat) (k : Nat) (S : St) : Prop :=
  ∃ q left cur, ∃ wr : Nat, wr ≤ b ∧ (∀ r mm, v.si r = some mm → left r = false → mm ≤ wr) ∧ S = ⟨[(3, .ptr 0 0 0), (5, .ptr 1 0 0), (6, .ptr 2 0 0), (7, .own 3), (8, .own 4), (28, sI bef), (29, .ptr 5 0 0), (30, sI cut), (31, sI wr), (55, A), (56, sI m), (57, sI i), (216, .own 6)],
   [(0, .box 30 (eSn v.s)), (1, .box 34 (v.now.map sI)), (2, .box 36 (v.vers.map sU)), (3, .map 3 N (mWor v.wo)), (4, .mpr q 3 M (mSi v.si)), (5, .box 30 (eSn t)), (6, .itm q 3 left k cur)], 7⟩
theorem TsI.sib {n : Nat} {v : TsV} (h : TsI n v) {r mm : Int} (hr : v.si r = some mm) : 0 ≤ mm ∧ mm ≤ 2 * n := by
  cases hw : v.wo r with
  | none => rw [(h.sok r).2 hw] at hr; cases hr
  | some w =>
    obtain ⟨i, x, rfl, _, hx, _⟩ := h.wok r w hw
    exact (h.sab i x mm hx hr).2
set_option maxHeartbeats 4000000 in
theorem ts_rest {n : Nat} {v : TsV} (h : TsI n v) (hn : n ≤ 100) {N M g : Nat} {es : List (List Sh)} {m i : Int} {x : ActT} {K : Ex → St → Prop}
    (hK : ∀ v', TsI n v' → ∀ S', S'.keep (some ([3, 5, 6, 7, 8, 55, 56, 57], some ([0, 1, 2, 3, 4], 5))) = tsS v' N M (.sl 6 g es) m i → K .next S') : ev sc_TsRest (tsS6 v N M (.sl 6 g es) m i x) K := by
  have h1 := rdF _ h.ok.rd
  obtain ⟨o1, o2, o3, o4⟩ := all_ok h.ok
  have h2 := rdF _ o1.rd
  have hT := h.trim
  have kp1 := ok_trKept h.ok
  have kal := ok_trAll h.ok
  have kp2 := ok_trKept o1
  have b1 := keptTo_le h.ok 2048
  have b2 := keptTo_le o1 2048
  have hkt : ∀ w : Nat, (∀ r m, v.si r = some m → m ≤ w) → keptTo (allM v.s) 2048 ≤ 5 + w := fun w hw => h.kept hw
  generalize allM v.s = t at h2 hT kal kp2 b2 hkt
  have q1 : IntKind.i64.wrap ((keptTo v.s 2048 : Int) - ((keptTo v.s 2048 : Int) - (keptTo t 2048 : Int))) = (keptTo t 2048 : Int) := by rw [IntKind.wrap_i64]; omega
  unfold tsS6
  cases hx : x.trim with
  | false =>
    unfold sc_TsRest
    have F1 := And.intro @h1 (And.intro @sh_nil (And.intro @i5_one @hx))
    refine eS fun K1 hn1 hr1 he1 => ?_
    refine eS fun K2 hn2 hr2 he2 => ?_
    refine eO fun K3 hk3 => ?_
    refine tZ F1 ?_
    refine hk3 _ ?_
    refine hn2 (some ([3, 5, 6, 7, 8, 55, 56, 57, 207], none)) _ ?_
    refine eCf ?_
    refine hn1 (some ([3, 5, 6, 7, 8, 55, 56, 57], some ([0, 1, 2, 3, 4], 5))) _ ?_
    refine lp0 ?_
    (try simp only [eRds_refs, eRds_ren, i5_refs, i5_ren, u5_refs, u5_ren, if_true])
    exact ts_read h (fun S' hS => hK v h S' hS)
    skip
  | true =>
    unfold sc_TsRest
    have F1 := And.intro @h1 (And.intro @h2 (And.intro @sh_nil (And.intro @i5_one (And.intro @hx @q1))))
    refine eS fun K1 hn1 hr1 he1 => ?_
    refine eS fun K2 hn2 hr2 he2 => ?_
    refine eO fun K3 hk3 => ?_
    refine tZ F1 ?_
    refine hk3 _ ?_
    refine hn2 (some ([3, 5, 6, 7, 8, 55, 56, 57, 207], none)) _ ?_
    refine eCt ?_
    refine eS fun K4 hn4 hr4 he4 => ?_
    refine eO fun K5 hk5 => ?_
    refine tC 1 F1 ?_
    refine tS 1 F1 ?_
    refine Or.inl (Or.inl ⟨_, kp1, ?_⟩)
    refine tL F1 ?_
    refine hk5 _ ?_
    refine hn4 (some ([3, 5, 6, 7, 8, 28, 55, 56, 57], none)) _ ?_
    refine eS fun K6 hn6 hr6 he6 => ?_
    refine eO fun K7 hk7 => ?_
    refine tC 1 F1 ?_
    refine tS 1 F1 ?_
    refine Or.inl (Or.inl ⟨_, kal, ?_⟩)
    refine tC 5 F1 ?_
    refine tL F1 ?_
    refine hk7 _ ?_
    refine hn6 (some ([3, 5, 6, 7, 8, 28, 29, 30, 55, 56, 57], none)) _ ?_
    refine eS fun K8 hn8 hr8 he8 => ?_
    refine eO fun K9 hk9 => ?_
    refine tL F1 ?_
    refine hk9 _ ?_
    refine hn8 (some ([3, 5, 6, 7, 8, 28, 29, 30, 31, 55, 56, 57], none)) _ ?_
    refine eS fun K10 hn10 hr10 he10 => ?_
    refine eS fun K11 hn11 hr11 he11 => ?_
    refine eO fun K12 hk12 => ?_
    refine tS 1 F1 ?_
    refine tL F1 ?_
    refine Or.inr (evRngO_mk (by rfl) (by rfl) (fun q0 cnt0 => ?_))
    refine sh1 F1 ?_
    refine hk12 _ ?_
    refine hn11 (some ([3, 5, 6, 7, 8, 28, 29, 30, 31, 55, 56, 57, 216], none)) _ ?_
    refine eB fun K13 hn13 hx13 hr13 he13 => ?_
    refine eW (L2Inv v N M (.sl 6 g es) m i (keptTo v.s 2048) ((keptTo v.s 2048 : Int) - (keptTo t 2048 : Int)) t (2 * n)) (cnt0) (some ([3, 5, 6, 7, 8, 28, 29, 30, 31, 55, 56, 57, 216], some ([0, 1, 2, 3, 4, 6, 7], 7))) ([]) ?_ ?_
    · try refine lp0 ?_
      refine ⟨q0, fun j => (mSi v.si j).isSome, none, 0, by omega, fun r mm hr hl => by simp [hr] at hl, ?_⟩
      (try simp only [eRds_refs, eRds_ren, i5_refs, i5_ren, u5_refs, u5_ren, if_true]) <;> rfl
    · intro k S1 hI
      obtain ⟨q, left, cur, wr, hwr, hlow, rfl⟩ := hI
      intro K14 hn14 hr14 he14
      refine eS fun K15 hn15 hr15 he15 => ?_
      refine eO fun K16 hk16 => ?_
      refine tS 1 F1 ?_
      refine evItm_mk 4 (by rfl) ?_
      refine ⟨fun hno => ?_, fun jj sj cj hj1 hj2 hj3 hj4 hj5 => ?_⟩
      · skip
        have hle := hkt wr (fun r mm hr => hlow r mm hr (hno r))
        have kb := ok_trBound 5 wr (by omega) (by omega)
        have d1 : ¬ ((5 + wr : Nat) : Int) < (keptTo t 2048 : Int) := by omega
        have F2 := And.intro F1 @d1
        refine tL F2 ?_
        refine hk16 _ ?_
        refine hn15 (some ([3, 5, 6, 7, 8, 28, 29, 30, 31, 55, 56, 57, 216, 218], none)) _ ?_
        refine eS fun K17 hn17 hr17 he17 => ?_
        refine eC rfl (fun hx => absurd hx (by cases hx)) (fun hc1 => ?_)
        clear hc1
        refine he17 5 _ ?_
        refine he14 5 _ ?_
        refine hx13 _ ?_
        refine hn10 (some ([3, 5, 6, 7, 8, 28, 29, 30, 31, 55, 56, 57], none)) _ ?_
        refine eS fun K18 hn18 hr18 he18 => ?_
        refine eS fun K19 hn19 hr19 he19 => ?_
        refine eO fun K20 hk20 => ?_
        refine tC 1 F2 ?_
        refine tS 1 F2 ?_
        refine Or.inl (Or.inl ⟨_, kp2, ?_⟩)
        refine tC 3 F2 ?_
        refine tC 1 F2 ?_
        refine tC 2 F2 ?_
        refine tS 1 F2 ?_
        refine Or.inl (Or.inl ⟨_, kp2, ?_⟩)
        refine tS 1 F2 ?_
        refine tS 1 F2 ?_
        refine Or.inl (Or.inl ⟨_, kb, ?_⟩)
        refine tC 1 F2 ?_
        refine tL F2 ?_
        refine hk20 _ ?_
        refine hn19 (some ([3, 5, 6, 7, 8, 29, 55, 56, 57, 236], none)) _ ?_
        refine eCf ?_
        refine hn18 (some ([3, 5, 6, 7, 8, 29, 55, 56, 57], none)) _ ?_
        refine eOc ([.unr 4]) fun K21 hk21 => ?_
        refine tC 1 F2 ?_
        refine tZ F2 ?_
        refine hk21 _ ?_
        refine hn1 (some ([3, 5, 6, 7, 8, 55, 56, 57], some ([0, 1, 2, 3, 4], 5))) _ ?_
        refine lp0 ?_
        (try simp only [eRds_refs, eRds_ren, i5_refs, i5_ren, u5_refs, u5_ren, if_true])
        exact ts_read hT (fun S' hS => hK _ hT S' hS)
        skip
      · skip
        obtain ⟨mm, hmr, rfl⟩ := Option.map_eq_some_iff.1 hj2
        have hmb := h.sib hmr
        have w1 : max (wr : Int) mm = ((max wr mm.toNat : Nat) : Int) := by omega
        have F3 := And.intro F1 @w1
        refine tL F3 ?_
        refine hk16 _ ?_
        refine hn15 (some ([3, 5, 6, 7, 8, 28, 29, 30, 31, 55, 56, 57, 216, 218], none)) _ ?_
        refine eS fun K22 hn22 hr22 he22 => ?_
        refine eC rfl (fun hc1 => ?_) (fun hx => absurd hx (by cases hx))
        clear hc1
        refine hn22 (some ([3, 5, 6, 7, 8, 28, 29, 30, 31, 55, 56, 57, 216], none)) _ ?_
        refine eB fun K23 hn23 hx23 hr23 he23 => ?_
        refine eS fun K24 hn24 hr24 he24 => ?_
        refine eO fun K25 hk25 => ?_
        refine tS 1 F3 ?_
        refine evItm_mk 4 (by rfl) ⟨_, hj2, ?_⟩
        refine tL F3 ?_
        refine hk25 _ ?_
        refine hn24 (some ([3, 5, 6, 7, 8, 28, 29, 30, 31, 33, 55, 56, 57, 216], none)) _ ?_
        refine eO fun K26 hk26 => ?_
        refine tL F3 ?_
        refine hk26 _ ?_
        refine hn23 _ ?_
        refine hn14 (cj) (some ([3, 5, 6, 7, 8, 28, 29, 30, 31, 55, 56, 57, 216], some ([0, 1, 2, 3, 4, 5, 6], 7))) _ ?_ ?_
        all_goals try refine lp0 ?_
        · exact hj5
        · refine ⟨q, fun z => left z && z != jj, some jj, max wr mm.toNat, by omega, fun r m2 hr hl => ?_, ?_⟩
          · by_cases e : r = jj
            · subst e; rw [hmr] at hr; cases hr; omega
            · have := hlow r m2 hr (by simpa [e] using hl); omega
          · (try simp only [eRds_refs, eRds_ren, i5_refs, i5_ren, u5_refs, u5_ren, if_true]) <;> rfl
end Go.Proofs.Ytijblpkdfmkcfaa

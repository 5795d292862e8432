/-
  TopSnapshot by shadows: readers.
-/
import Derived.Test.YtijblpkdfmkcfaaKTd
namespace Go.Proofs.Ytijblpkdfmkcfaa
set_option linter.unusedSimpArgs false
set_option linter.unusedVariables false
open Go.RowKit Go.Maps

def closeM (s : SnM) (i : Nat) (r : Bool × Int) : SnM := { s with rd := s.rd.set i (false, r.2) }
theorem ok_snClose_no {s : SnM} (h : SnOk s) (n : Int) (hn : -9223372036854775808 < n) (hr : isR s n = false) : Ok 7 [shSn s, sI n] (.tup [shSn s, sI 10]) := by
  refine ok_of_tr Try.func7 tr_snClose rfl ?_
  have hL : (eRds s.rd).length = 16 := by rw [eRds_len, h.rd]
  have hO := eRds_one s.rd
  have hA := fun S => eRds_arg S s.rd
  have hT := eRds_take h.rd
  have hF := fun S => eRds_frz S s.rd
  have k0 := ok_snIs s h.rd n hn
  rw [hr] at k0
  unfold evFn sc_snClose rv_snClose
  have F1 := And.intro @hL (And.intro @hO (And.intro @hA (And.intro @hT @hF)))
  refine eS fun K1 hn1 hr1 he1 => ?_
  refine eO fun K2 hk2 => ?_
  refine tL F1 ?_
  refine hk2 _ ?_
  refine hn1 (some ([1, 2, 4], none)) _ ?_
  refine eS fun K3 hn3 hr3 he3 => ?_
  refine eS fun K4 hn4 hr4 he4 => ?_
  refine eO fun K5 hk5 => ?_
  refine tC 1 F1 ?_
  refine tS 1 F1 ?_
  refine tS 1 F1 ?_
  refine Or.inl (Or.inl ⟨_, k0, ?_⟩)
  refine tL F1 ?_
  refine hk5 _ ?_
  refine hn4 (some ([1, 2, 4, 9], none)) _ ?_
  refine eCt ?_
  refine eS fun K6 hn6 hr6 he6 => ?_
  refine eO fun K7 hk7 => ?_
  refine tC 1 F1 ?_
  refine tC 1 F1 ?_
  refine tL F1 ?_
  refine hk7 _ ?_
  refine hn6 (some ([4, 5], none)) _ ?_
  refine hr3 _ ?_
  exact sf1 F1
theorem ok_snClose {s : SnM} (h : SnOk s) {i : Nat} {x : Int} (hi : s.rd[i]? = some (true, x)) : Ok 7 [shSn s, sI ((i + 1 : Nat) : Int)] (.tup [shSn (closeM s i (true, x)), sI 0]) := by
  have hlt := (List.getElem?_eq_some_iff.1 hi).1
  have h8 := h.rd
  refine ok_of_tr Try.func7 tr_snClose rfl ?_
  have hL : (eRds s.rd).length = 16 := by rw [eRds_len, h.rd]
  have hO := eRds_one s.rd
  have hA := fun S => eRds_arg S s.rd
  have hT := eRds_take h.rd
  have hF := fun S => eRds_frz S s.rd
  have k0 := ok_snIs s h.rd ((i + 1 : Nat) : Int) (by omega)
  obtain ⟨r, hr, e⟩ := isR_at h8 (i := i) (by omega)
  rw [hi] at hr; cases hr
  rw [e] at k0
  have w1 : IntKind.i64.wrap (((i + 1 : Nat) : Int) - 1) = (i : Int) := by rw [IntKind.wrap_i64]; omega
  have w2 : (i : Int) < 8 := by omega
  have w4 : (eRds (s.rd.set i (false, x))).length = 16 := by rw [eRds_len, List.length_set, h.rd]
  have w5 : List.take (4 + i * 2) (eSn s) ++ [sB false] ++ List.drop (4 + i * 2) (sI s.now :: Sh.mp 44 (mLists s.lists) :: Sh.mp 44 (mWrites s.writes) :: eRds s.rd) = eSn (closeM s i (true, x)) := by
    rw [show 4 + i * 2 = i * 2 + 4 by omega]
    unfold closeM
    simp only [eSn]
    rw [eRds_set1 hi]
    rfl
  have hO' := eRds_one (s.rd.set i (false, x))
  have hA' := fun S => eRds_arg S (s.rd.set i (false, x))
  have hT' := eRds_take (l := s.rd.set i (false, x)) (by rw [List.length_set, h.rd])
  have hF' := fun S => eRds_frz S (s.rd.set i (false, x))
  unfold closeM at w5 ⊢
  unfold evFn sc_snClose rv_snClose
  have F1 := And.intro @hL (And.intro @hO (And.intro @hA (And.intro @hT (And.intro @hF (And.intro @w1 (And.intro @w2 (And.intro @w5 (And.intro @w4 (And.intro @hO' (And.intro @hA' (And.intro @hT' @hF')))))))))))
  refine eS fun K1 hn1 hr1 he1 => ?_
  refine eO fun K2 hk2 => ?_
  refine tL F1 ?_
  refine hk2 _ ?_
  refine hn1 (some ([1, 2, 4], none)) _ ?_
  refine eS fun K3 hn3 hr3 he3 => ?_
  refine eS fun K4 hn4 hr4 he4 => ?_
  refine eO fun K5 hk5 => ?_
  refine tC 1 F1 ?_
  refine tS 1 F1 ?_
  refine tS 1 F1 ?_
  refine Or.inl (Or.inl ⟨_, k0, ?_⟩)
  refine tL F1 ?_
  refine hk5 _ ?_
  refine hn4 (some ([1, 2, 4, 9], none)) _ ?_
  refine eCf ?_
  refine hn3 (some ([1, 2, 4], none)) _ ?_
  refine eS fun K6 hn6 hr6 he6 => ?_
  refine eO fun K7 hk7 => ?_
  refine tC 2 F1 ?_
  refine tC 2 F1 ?_
  refine tZ F1 ?_
  refine hk7 _ ?_
  refine hn6 (some ([2, 4], none)) _ ?_
  refine eS fun K8 hn8 hr8 he8 => ?_
  refine eO fun K9 hk9 => ?_
  refine tC 1 F1 ?_
  refine tC 1 F1 ?_
  refine tL F1 ?_
  refine hk9 _ ?_
  refine hn8 (some ([4, 5], none)) _ ?_
  exact sf1 F1
theorem ok_snRead {s : SnM} (h : SnOk s) {i : Nat} {x : Int} (hi : s.rd[i]? = some (true, x)) {c : Int} (hc : inC s c = true) {v : Int} (hv : atV (listM s c) x = some v) : Ok 12 [shSn s, sI ((i + 1 : Nat) : Int), sI c] (.tup [sI v, sI 0]) := by
  have hlt := (List.getElem?_eq_some_iff.1 hi).1
  have h8 := h.rd
  refine ok_of_tr Try.func12 tr_snRead rfl ?_
  have hL : (eRds s.rd).length = 16 := by rw [eRds_len, h.rd]
  have hO := eRds_one s.rd
  have hA := fun S => eRds_arg S s.rd
  have hT := eRds_take h.rd
  have hF := fun S => eRds_frz S s.rd
  have k0 := ok_snIs s h.rd ((i + 1 : Nat) : Int) (by omega)
  obtain ⟨r, hr, e⟩ := isR_at h8 (i := i) (by omega)
  rw [hi] at hr; cases hr
  rw [e] at k0
  obtain ⟨g1, g2, g3⟩ := eRds_get hi
  have k1 := ok_snCell s c h.rd
  rw [hc] at k1
  have k2 := ok_snList h c
  have k3 := ok_veAt (listM s c) x (h.sort c) (by have := h.len c; omega)
  rw [hv] at k3
  generalize listM s c = l at k2 k3
  have w1 : IntKind.i64.wrap (((i + 1 : Nat) : Int) - 1) = (i : Int) := by rw [IntKind.wrap_i64]; omega
  have w2 : (i : Int) < 8 := by omega
  have w3 : (sI s.cells :: sI s.now :: Sh.mp 44 (mLists s.lists) :: Sh.mp 44 (mWrites s.writes) :: eRds s.rd)[4 + i * 2 + 1]? = some (sI x) := by
    rw [show 4 + i * 2 + 1 = i * 2 + 1 + 4 by omega]; exact g2
  unfold evFn sc_snRead rv_snRead
  have F1 := And.intro @hL (And.intro @hO (And.intro @hA (And.intro @hT (And.intro @hF (And.intro @w1 (And.intro @w2 @w3))))))
  refine eS fun K1 hn1 hr1 he1 => ?_
  refine eO fun K2 hk2 => ?_
  refine tL F1 ?_
  refine hk2 _ ?_
  refine hn1 (some ([1, 2, 3], none)) _ ?_
  refine eS fun K3 hn3 hr3 he3 => ?_
  refine eB fun K4 hn4 hx4 hr4 he4 => ?_
  refine eS fun K5 hn5 hr5 he5 => ?_
  refine eO fun K6 hk6 => ?_
  refine tC 1 F1 ?_
  refine tS 1 F1 ?_
  refine tS 1 F1 ?_
  refine Or.inl (Or.inl ⟨_, k0, ?_⟩)
  refine tL F1 ?_
  refine hk6 _ ?_
  refine hn5 (some ([1, 2, 3, 10], none)) _ ?_
  refine eCf ?_
  refine eS fun K7 hn7 hr7 he7 => ?_
  refine eO fun K8 hk8 => ?_
  refine tC 1 F1 ?_
  refine tS 1 F1 ?_
  refine tS 1 F1 ?_
  refine Or.inl (Or.inl ⟨_, k1, ?_⟩)
  refine tL F1 ?_
  refine hk8 _ ?_
  refine hn7 (some ([1, 2, 3, 15], none)) _ ?_
  refine eCf ?_
  refine hn4 _ ?_
  refine hn3 (some ([1, 2, 3], none)) _ ?_
  refine eS fun K9 hn9 hr9 he9 => ?_
  refine eD [] (n := 13) fun K10 hk10 => ?_
  refine sq0 ?_
  refine fC 1 F1 ?_
  refine fS 1 F1 ?_
  refine fS 1 F1 ?_
  refine ⟨_, k2, ?_⟩
  refine fC 2 F1 ?_
  refine fC 2 F1 ?_
  refine fC 2 F1 ?_
  refine fS 1 F1 ?_
  refine ⟨_, k3, ?_⟩
  refine fL F1 ?_
  refine hk10 _ ?_
  refine sr0 ?_
  refine tL F1 ?_
  refine hn9 (some ([8, 9], none)) _ ?_
  refine eS fun K12 hn12 hr12 he12 => ?_
  refine eS fun K13 hn13 hr13 he13 => ?_
  refine eO fun K14 hk14 => ?_
  refine tL F1 ?_
  refine hk14 _ ?_
  refine hn13 (some ([8, 34], none)) _ ?_
  refine eCf ?_
  refine hn12 (some ([8], none)) _ ?_
  refine eS fun K15 hn15 hr15 he15 => ?_
  refine eO fun K16 hk16 => ?_
  refine tL F1 ?_
  refine hk16 _ ?_
  refine hn15 (some ([6, 7], none)) _ ?_
  exact sf1 F1
theorem ok_snAt {s : SnM} (h : SnOk s) {t : Int} (ht : t ≤ s.now) {c : Int} (hc : inC s c = true) : Ok 13 [shSn s, sI t, sI c] (.tup [sI ((atV (listM s c) t).getD 0), sB (atV (listM s c) t).isSome]) := by
  refine ok_of_tr Try.func13 tr_snAt rfl ?_
  have hL : (eRds s.rd).length = 16 := by rw [eRds_len, h.rd]
  have hO := eRds_one s.rd
  have hA := fun S => eRds_arg S s.rd
  have hT := eRds_take h.rd
  have hF := fun S => eRds_frz S s.rd
  have k1 := ok_snCell s c h.rd
  rw [hc] at k1
  have k2 := ok_snList h c
  have k3 := ok_veAt (listM s c) t (h.sort c) (by have := h.len c; omega)
  generalize atV (listM s c) t = r at k3 ⊢
  generalize listM s c = l at k2 k3
  have d1 : ¬ s.now < t := by omega
  unfold evFn sc_snAt rv_snAt
  have F1 := And.intro @hL (And.intro @hO (And.intro @hA (And.intro @hT (And.intro @hF @d1))))
  refine eS fun K1 hn1 hr1 he1 => ?_
  refine eO fun K2 hk2 => ?_
  refine tL F1 ?_
  refine hk2 _ ?_
  refine hn1 (some ([1, 2, 3], none)) _ ?_
  refine eS fun K3 hn3 hr3 he3 => ?_
  refine eS fun K4 hn4 hr4 he4 => ?_
  refine eO fun K5 hk5 => ?_
  refine tC 1 F1 ?_
  refine tS 1 F1 ?_
  refine tS 1 F1 ?_
  refine Or.inl (Or.inl ⟨_, k1, ?_⟩)
  refine tC 5 F1 ?_
  refine tC 1 F1 ?_
  refine tL F1 ?_
  refine hk5 _ ?_
  refine hn4 (some ([1, 2, 3, 17], none)) _ ?_
  refine eCf ?_
  refine hn3 (some ([1, 2, 3], none)) _ ?_
  refine eS fun K6 hn6 hr6 he6 => ?_
  refine eO fun K7 hk7 => ?_
  refine tC 1 F1 ?_
  refine tS 1 F1 ?_
  refine tS 1 F1 ?_
  refine Or.inl (Or.inl ⟨_, k2, ?_⟩)
  refine tS 1 F1 ?_
  refine tS 1 F1 ?_
  refine Or.inl (Or.inl ⟨_, k3, ?_⟩)
  refine tL F1 ?_
  refine hk7 _ ?_
  refine hn6 (some ([6, 7], none)) _ ?_
  exact sf1 F1
end Go.Proofs.Ytijblpkdfmkcfaa

/-
  The reference of layer 4 by shadows: join.
-/
import Derived.Test.YtfcjkchpldfamaaK4v
namespace Go.Proofs.Ytfcjkchpldfamaa
set_option linter.unusedSimpArgs false
set_option linter.unusedVariables false
open Go.RowKit Go.Maps

def joinR (a b : List Int) (i : Nat) : List Int := (List.zipWith max a b).take i ++ List.replicate (a.length - i) 0
theorem joinR_set {a b : List Int} (hb : b.length = a.length) {i : Nat} {x y : Int} (hx : a[i]? = some x) (hy : b[i]? = some y) : (joinR a b i).set i (max x y) = joinR a b (i + 1) := by
  have hi := (List.getElem?_eq_some_iff.1 hx).1
  have hz : (List.zipWith max a b)[i]? = some (max x y) := by rw [List.getElem?_zipWith, hx, hy]
  have hl : ((List.zipWith max a b).take i).length = i := by simp; omega
  unfold joinR
  rw [List.set_append, if_neg (by omega), hl, List.take_add_one, hz, List.append_assoc]
  congr 1
  obtain ⟨k, hk⟩ : ∃ k, a.length - i = k + 1 := ⟨a.length - i - 1, by omega⟩
  rw [hk, List.replicate_succ, show a.length - (i + 1) = k by omega]
  simp
theorem joinR_len {a b : List Int} (hb : b.length = a.length) {i : Nat} (hi : i ≤ a.length) : (joinR a b i).length = a.length := by
  unfold joinR; simp; omega
theorem joinR_end {a b : List Int} (hb : b.length = a.length) : joinR a b a.length = List.zipWith max a b := by
  unfold joinR
  rw [List.take_of_length_le (by simp; omega)]; simp
def J4Inv (g g2 : Nat) (a b : List Int) (m : Nat) (S : St) : Prop :=
  ∃ i, i ≤ a.length ∧ m = a.length - i ∧ S = ⟨[(0, .sl 1 g (a.map eRI)), (1, .sl 1 g2 (b.map eRI)), (5, .own 0), (6, sI i)], [(0, .row 3 1 ((joinR a b i).map eRI))], 1⟩
set_option maxRecDepth 20000 in
set_option maxHeartbeats 4000000 in
theorem ok_r4join (g g2 : Nat) (a b : List Int) (hb : b.length = a.length) (ha : a.length ≤ 4096) : Ok 82 [.sl 1 g (a.map eRI), .sl 1 g2 (b.map eRI)] (.sl 1 0 ((List.zipWith max a b).map eRI)) := by
  refine ok_of_tr Try.func82 tr_r4join rfl ?_
  have q4 : a.length ≤ 1000000 := by omega
  have q3 : a.length * 8 ≤ 140737488355328 := by omega
  unfold evFn sc_r4join rv_r4join
  have F1 := And.intro @q4 @q3
  refine ev_seq_k fun K1 hn1 hr1 he1 => ?_
  refine ev_ops_k fun K2 hk2 => ?_
  refine sh1 F1 ?_
  refine hk2 _ ?_
  refine hn1 (some ([0, 1], none)) _ ?_
  refine ev_seq_k fun K3 hn3 hr3 he3 => ?_
  refine ev_ops_k fun K4 hk4 => ?_
  refine evL_take 3 fun K5 hk5 => ?_
  refine sh1 F1 ?_
  refine sd ?_
  refine hk5 _ ?_
  refine sh1 F1 ?_
  refine hk4 _ ?_
  refine hn3 (some ([0, 1, 5], none)) _ ?_
  refine ev_seq_k fun K6 hn6 hr6 he6 => ?_
  refine ev_seq_k fun K7 hn7 hr7 he7 => ?_
  refine ev_ops_k fun K8 hk8 => ?_
  refine sh1 F1 ?_
  refine hk8 _ ?_
  refine hn7 (some ([0, 1, 5, 6], none)) _ ?_
  refine ev_block_k fun K9 hn9 hx9 hr9 he9 => ?_
  refine ev_loop_k (J4Inv g g2 a b) (a.length) (some ([0, 1, 5, 6], some ([0], 1))) ([]) ?_ ?_
  · try refine lp0 ?_
    exact ⟨0, by omega, by omega, by simp [joinR]⟩
  · intro k S1 hI
    obtain ⟨i, hi, rfl, rfl⟩ := hI
    have hcase : i = a.length ∨ (∃ x y, a[i]? = some x ∧ b[i]? = some y ∧ x < y) ∨ ∃ x y, a[i]? = some x ∧ b[i]? = some y ∧ ¬ x < y := by
      rcases Nat.lt_or_ge i a.length with h | h
      · by_cases hxy : a[i] < b[i]
        · exact .inr (.inl ⟨_, _, List.getElem?_eq_getElem h, List.getElem?_eq_getElem (by omega), hxy⟩)
        · exact .inr (.inr ⟨_, _, List.getElem?_eq_getElem h, List.getElem?_eq_getElem (by omega), hxy⟩)
      · exact .inl (by omega)
    intro K10 hn10 hr10 he10
    rcases hcase with hc | ⟨x, y, hxi, hyi, hxy⟩ | ⟨x, y, hxi, hyi, hxy⟩
    · skip
      subst hc
      have d2 : ¬ (a.length : Int) < (a.length : Int) := by omega
      have e9 := joinR_end hb
      have F2 := And.intro F1 (And.intro @d2 @e9)
      refine ev_seq_k fun K11 hn11 hr11 he11 => ?_
      refine ev_seq_k fun K12 hn12 hr12 he12 => ?_
      refine ev_ops_k fun K13 hk13 => ?_
      refine sh1 F2 ?_
      refine sd ?_
      refine hk13 _ ?_
      refine hn12 (some ([0, 1, 5, 6, 13], none)) _ ?_
      refine ev_cond_k rfl (fun hx => absurd hx (by simp at hx)) (fun hc0 => ?_)
      clear hc0
      refine he11 0 _ ?_
      refine he10 0 _ ?_
      refine hx9 _ ?_
      refine hn6 (some ([5], none)) _ ?_
      refine ev_seq_k fun K14 hn14 hr14 he14 => ?_
      refine ev_ops_k fun K15 hk15 => ?_
      refine sh1 F2 ?_
      refine hk15 _ ?_
      refine hn14 (some ([4], none)) _ ?_
      exact sf1 F2
    · skip
      skip
      have hlt := (List.getElem?_eq_some_iff.1 hxi).1
      have d2 : (i : Int) < (a.length : Int) := by omega
      have q5 : IntKind.i64.wrap ((i : Int) + 1) = ((i + 1 : Nat) : Int) := by rw [IntKind.wrap_i64]; omega
      have w1 : (joinR a b i).length = a.length := joinR_len hb hi
      obtain ⟨z, w2'⟩ : ∃ z, (joinR a b i)[i]? = some z := ⟨_, List.getElem?_eq_getElem (by omega)⟩
      have d3 : (i : Int) < (b.length : Int) := by omega
      obtain ⟨J, e3, e4, e5, e6⟩ : ∃ J : List Int, ((joinR a b i).map eRI).set i [sI x] = J.map eRI ∧ J[i]? = some x ∧ (J.map eRI).set i [sI y] = (joinR a b (i + 1)).map eRI ∧ J.length = a.length := by
        refine ⟨(joinR a b i).set i x, by rw [List.map_set], by rw [List.getElem?_set, if_pos rfl, if_pos (by omega)], ?_, by rw [List.length_set]; exact w1⟩
        rw [← joinR_set hb hxi hyi, show max x y = y by omega, show ([sI y] : List Sh) = eRI y from rfl, ← List.map_set, List.set_set]
      have F3 := And.intro F1 (And.intro @d2 (And.intro @d3 (And.intro @q5 (And.intro @w1 (And.intro @w2' (And.intro @hxi (And.intro @hyi (And.intro @hxy (And.intro @e3 (And.intro @e4 (And.intro @e5 @e6)))))))))))
      refine ev_seq_k fun K16 hn16 hr16 he16 => ?_
      refine ev_seq_k fun K17 hn17 hr17 he17 => ?_
      refine ev_ops_k fun K18 hk18 => ?_
      refine sh1 F3 ?_
      refine sd ?_
      refine hk18 _ ?_
      refine hn17 (some ([0, 1, 5, 6, 13], none)) _ ?_
      refine ev_cond_k rfl (fun hc0 => ?_) (fun hx => absurd hx (by simp at hx))
      clear hc0
      refine hn16 (some ([0, 1, 5, 6], none)) _ ?_
      refine ev_seq_k fun K19 hn19 hr19 he19 => ?_
      refine ev_block_k fun K20 hn20 hx20 hr20 he20 => ?_
      refine ev_seq_k fun K21 hn21 hr21 he21 => ?_
      refine ev_ops_k fun K22 hk22 => ?_
      refine evL_take 5 fun K23 hk23 => ?_
      refine sh1 F3 ?_
      refine sd ?_
      refine hk23 _ ?_
      refine evL_take 1 fun K24 hk24 => ?_
      refine sh1 F3 ?_
      refine sd ?_
      refine hk24 _ ?_
      refine evL_take 1 fun K25 hk25 => ?_
      refine sh1 F3 ?_
      refine sd ?_
      refine hk25 _ ?_
      refine sh1 F3 ?_
      refine sd ?_
      refine hk22 _ ?_
      refine hn21 (some ([0, 1, 5, 6], none)) _ ?_
      refine ev_seq_k fun K26 hn26 hr26 he26 => ?_
      refine ev_drw_k [] (n := 8) fun K27 hk27 => ?_
      refine sq0 ?_
      refine evF_take 3 fun K29 hk29 => ?_
      refine sh1 F3 ?_
      refine sd ?_
      refine hk29 _ _ _ ?_
      refine evF_take 1 fun K30 hk30 => ?_
      refine sh1 F3 ?_
      refine sd ?_
      refine hk30 _ _ _ ?_
      refine evF_take 3 fun K31 hk31 => ?_
      refine sh1 F3 ?_
      refine sd ?_
      refine hk31 _ _ _ ?_
      refine sh1 F3 ?_
      refine sd ?_
      refine hk27 _ ?_
      refine sr0 ?_
      refine sh1 F3 ?_
      refine sd ?_
      refine hn26 (some ([0, 1, 5, 6, 31], none)) _ ?_
      refine ev_cond_k rfl (fun hc1 => ?_) (fun hx => absurd hx (by simp at hx))
      clear hc1
      refine ev_ops_k fun K32 hk32 => ?_
      refine evL_take 5 fun K33 hk33 => ?_
      refine sh1 F3 ?_
      refine sd ?_
      refine hk33 _ ?_
      refine evL_take 1 fun K34 hk34 => ?_
      refine sh1 F3 ?_
      refine sd ?_
      refine hk34 _ ?_
      refine evL_take 1 fun K35 hk35 => ?_
      refine sh1 F3 ?_
      refine sd ?_
      refine hk35 _ ?_
      refine sh1 F3 ?_
      refine sd ?_
      refine hk32 _ ?_
      refine hn20 _ ?_
      refine hn19 (some ([0, 1, 5, 6], none)) _ ?_
      refine ev_ops_k fun K36 hk36 => ?_
      refine evL_take 2 fun K37 hk37 => ?_
      refine sh1 F3 ?_
      refine sd ?_
      refine hk37 _ ?_
      refine sh1 F3 ?_
      refine hk36 _ ?_
      refine hn10 (a.length - (i + 1)) (some ([0, 1, 5, 6], some ([0], 1))) _ ?_ ?_
      all_goals try refine lp0 ?_
      · omega
      · exact ⟨i + 1, by omega, by omega, rfl⟩
    · skip
      skip
      have hlt := (List.getElem?_eq_some_iff.1 hxi).1
      have d2 : (i : Int) < (a.length : Int) := by omega
      have q5 : IntKind.i64.wrap ((i : Int) + 1) = ((i + 1 : Nat) : Int) := by rw [IntKind.wrap_i64]; omega
      have w1 : (joinR a b i).length = a.length := joinR_len hb hi
      obtain ⟨z, w2'⟩ : ∃ z, (joinR a b i)[i]? = some z := ⟨_, List.getElem?_eq_getElem (by omega)⟩
      have d3 : (i : Int) < (b.length : Int) := by omega
      have e3 : ((joinR a b i).map eRI).set i [sI x] = (joinR a b (i + 1)).map eRI := by
        rw [← joinR_set hb hxi hyi, show max x y = x by omega, show ([sI x] : List Sh) = eRI x from rfl, ← List.map_set]
      have F4 := And.intro F1 (And.intro @d2 (And.intro @d3 (And.intro @q5 (And.intro @w1 (And.intro @w2' (And.intro @hxi (And.intro @hyi (And.intro @hxy @e3))))))))
      refine ev_seq_k fun K38 hn38 hr38 he38 => ?_
      refine ev_seq_k fun K39 hn39 hr39 he39 => ?_
      refine ev_ops_k fun K40 hk40 => ?_
      refine sh1 F4 ?_
      refine sd ?_
      refine hk40 _ ?_
      refine hn39 (some ([0, 1, 5, 6, 13], none)) _ ?_
      refine ev_cond_k rfl (fun hc0 => ?_) (fun hx => absurd hx (by simp at hx))
      clear hc0
      refine hn38 (some ([0, 1, 5, 6], none)) _ ?_
      refine ev_seq_k fun K41 hn41 hr41 he41 => ?_
      refine ev_block_k fun K42 hn42 hx42 hr42 he42 => ?_
      refine ev_seq_k fun K43 hn43 hr43 he43 => ?_
      refine ev_ops_k fun K44 hk44 => ?_
      refine evL_take 5 fun K45 hk45 => ?_
      refine sh1 F4 ?_
      refine sd ?_
      refine hk45 _ ?_
      refine evL_take 1 fun K46 hk46 => ?_
      refine sh1 F4 ?_
      refine sd ?_
      refine hk46 _ ?_
      refine evL_take 1 fun K47 hk47 => ?_
      refine sh1 F4 ?_
      refine sd ?_
      refine hk47 _ ?_
      refine sh1 F4 ?_
      refine sd ?_
      refine hk44 _ ?_
      refine hn43 (some ([0, 1, 5, 6], none)) _ ?_
      refine ev_seq_k fun K48 hn48 hr48 he48 => ?_
      refine ev_drw_k [] (n := 8) fun K49 hk49 => ?_
      refine sq0 ?_
      refine evF_take 3 fun K51 hk51 => ?_
      refine sh1 F4 ?_
      refine sd ?_
      refine hk51 _ _ _ ?_
      refine evF_take 1 fun K52 hk52 => ?_
      refine sh1 F4 ?_
      refine sd ?_
      refine hk52 _ _ _ ?_
      refine evF_take 3 fun K53 hk53 => ?_
      refine sh1 F4 ?_
      refine sd ?_
      refine hk53 _ _ _ ?_
      refine sh1 F4 ?_
      refine sd ?_
      refine hk49 _ ?_
      refine sr0 ?_
      refine sh1 F4 ?_
      refine sd ?_
      refine hn48 (some ([0, 1, 5, 6, 31], none)) _ ?_
      refine ev_cond_k rfl (fun hx => absurd hx (by simp at hx)) (fun hc1 => ?_)
      clear hc1
      refine hn42 _ ?_
      refine hn41 (some ([0, 1, 5, 6], none)) _ ?_
      refine ev_ops_k fun K54 hk54 => ?_
      refine evL_take 2 fun K55 hk55 => ?_
      refine sh1 F4 ?_
      refine sd ?_
      refine hk55 _ ?_
      refine sh1 F4 ?_
      refine hk54 _ ?_
      refine hn10 (a.length - (i + 1)) (some ([0, 1, 5, 6], some ([0], 1))) _ ?_ ?_
      all_goals try refine lp0 ?_
      · omega
      · exact ⟨i + 1, by omega, by omega, rfl⟩
end Go.Proofs.Ytfcjkchpldfamaa

/-
  The reference of layer 4 by shadows: New; the comparison of a memory with its reference.
-/
import Derived.Test.YtfcjkchpldfamaaK4y
import Derived.Test.YtfcjkchpldfamaaMC
namespace Go.Proofs.Ytfcjkchpldfamaa
set_option linter.unusedSimpArgs false
set_option linter.unusedVariables false
open Go.RowKit Go.Maps

theorem ref_new (q n : Nat) (ws : List WordV) (h : ws.length = n) : refOf ⟨ws.map newP, List.replicate q fun _ => none⟩ = ⟨List.replicate q (List.replicate n 0), ws.map fun w => [⟨w, List.replicate n 0⟩]⟩ := by
  subst h
  simp only [refOf, List.map_replicate, List.length_map, List.map_map, toL_none]
  congr 1
  refine List.map_congr_left fun w _ => ?_
  simp [newP, refMsg, toL_none]
abbrev zRow (n : Nat) : List Sh := [.sl 1 0 (List.replicate n [sI 0])]
def RN0 (g : Nat) (ws : List WordV) (q : Nat) (m : Nat) (S : St) : Prop :=
  ∃ i : Nat, i ≤ q ∧ m = q - i ∧ S = ⟨[(0, sI q), (1, .sl 3 g (ws.map eWord)), (4, .ptr 0 0 0), (6, .ptr 1 0 0), (7, sI i)], [(0, .box 68 [.sl 1 0 [], .sl 1 0 []]), (1, .box 68 [.own 2, .sl 1 0 []]), (2, .row 97 1 (List.replicate i (zRow ws.length)))], 3⟩
def RN1 (g : Nat) (ws : List WordV) (q : Nat) (m : Nat) (S : St) : Prop :=
  ∃ i : Nat, i ≤ ws.length ∧ m = ws.length - i ∧ S = ⟨[(1, .sl 3 g (ws.map eWord)), (4, .ptr 0 0 0), (6, .ptr 1 0 0), (8, sI i)], [(0, .box 68 [.sl 1 0 [], .sl 1 0 []]), (1, .box 68 [.own 2, .own 3]), (2, .row 97 1 (List.replicate q (zRow ws.length))), (3, .row 136 1 ((ws.take i).map fun w => [Sh.sl 4 0 [[sI w.val, sU w.ver, sU w.ref, .sl 1 0 (List.replicate ws.length [sI 0])]]]))], 4⟩
set_option maxHeartbeats 4000000 in
theorem ok_r4New (k : Int) (g : Nat) (ws : List WordV) : Ok 26 [sI k, .sl 3 g (ws.map eWord)] (.tup [eRef4 (refOf (mnewM k ws).1), sI (mnewM k ws).2]) := by
  refine ok_of_tr Try.func26 tr_r4New rfl ?_
  unfold mnewM
  have e0 : refOf ⟨[], []⟩ = ⟨[], []⟩ := rfl
  by_cases h1 : k < 1
  · rw [if_pos (.inl h1), e0]
    unfold evFn sc_r4New rv_r4New
    have F1 := @h1
    refine ev_seq_k fun K1 hn1 hr1 he1 => ?_
    refine ev_ops_k fun K2 hk2 => ?_
    refine sh1 F1 ?_
    refine hk2 _ ?_
    refine hn1 (some ([0, 1, 4], none)) _ ?_
    refine ev_seq_k fun K3 hn3 hr3 he3 => ?_
    refine ev_seq_k fun K4 hn4 hr4 he4 => ?_
    refine ev_ops_k fun K5 hk5 => ?_
    refine evL_take 2 fun K6 hk6 => ?_
    refine sh1 F1 ?_
    refine sd ?_
    refine hk6 _ ?_
    refine evL_take 3 fun K7 hk7 => ?_
    refine sh1 F1 ?_
    refine sd ?_
    refine hk7 _ ?_
    refine sh1 F1 ?_
    refine hk5 _ ?_
    refine hn4 (some ([0, 1, 4, 14], none)) _ ?_
    refine ev_cond_k rfl (fun hc0 => ?_) (fun hx => absurd hx (by simp at hx))
    clear hc0
    refine ev_seq_k fun K8 hn8 hr8 he8 => ?_
    refine ev_ops_k fun K9 hk9 => ?_
    refine evL_take 2 fun K10 hk10 => ?_
    refine sh1 F1 ?_
    refine sd ?_
    refine hk10 _ ?_
    refine sh1 F1 ?_
    refine hk9 _ ?_
    refine hn8 (some ([4, 5], none)) _ ?_
    refine hr3 _ ?_
    refine sg1 F1 ?_
    rfl
  by_cases h2 : 8 < k
  · rw [if_pos (.inr h2), e0]
    unfold evFn sc_r4New rv_r4New
    have F1 := And.intro @h1 @h2
    refine ev_seq_k fun K1 hn1 hr1 he1 => ?_
    refine ev_ops_k fun K2 hk2 => ?_
    refine sh1 F1 ?_
    refine hk2 _ ?_
    refine hn1 (some ([0, 1, 4], none)) _ ?_
    refine ev_seq_k fun K3 hn3 hr3 he3 => ?_
    refine ev_seq_k fun K4 hn4 hr4 he4 => ?_
    refine ev_ops_k fun K5 hk5 => ?_
    refine evL_take 2 fun K6 hk6 => ?_
    refine sh1 F1 ?_
    refine sd ?_
    refine hk6 _ ?_
    refine evL_take 3 fun K7 hk7 => ?_
    refine sh1 F1 ?_
    refine sd ?_
    refine hk7 _ ?_
    refine sh1 F1 ?_
    refine hk5 _ ?_
    refine hn4 (some ([0, 1, 4, 14], none)) _ ?_
    refine ev_cond_k rfl (fun hc0 => ?_) (fun hx => absurd hx (by simp at hx))
    clear hc0
    refine ev_seq_k fun K8 hn8 hr8 he8 => ?_
    refine ev_ops_k fun K9 hk9 => ?_
    refine evL_take 2 fun K10 hk10 => ?_
    refine sh1 F1 ?_
    refine sd ?_
    refine hk10 _ ?_
    refine sh1 F1 ?_
    refine hk9 _ ?_
    refine hn8 (some ([4, 5], none)) _ ?_
    refine hr3 _ ?_
    refine sg1 F1 ?_
    rfl
  rw [if_neg (by omega)]
  by_cases h3 : ws.length = 0
  · rw [if_pos h3, e0]
    have d : ((ws.length : Int) == 0) = true := by simp [h3]
    unfold evFn sc_r4New rv_r4New
    have F1 := And.intro @h1 (And.intro @h2 @d)
    refine ev_seq_k fun K1 hn1 hr1 he1 => ?_
    refine ev_ops_k fun K2 hk2 => ?_
    refine sh1 F1 ?_
    refine hk2 _ ?_
    refine hn1 (some ([0, 1, 4], none)) _ ?_
    refine ev_seq_k fun K3 hn3 hr3 he3 => ?_
    refine ev_seq_k fun K4 hn4 hr4 he4 => ?_
    refine ev_ops_k fun K5 hk5 => ?_
    refine evL_take 2 fun K6 hk6 => ?_
    refine sh1 F1 ?_
    refine sd ?_
    refine hk6 _ ?_
    refine evL_take 3 fun K7 hk7 => ?_
    refine sh1 F1 ?_
    refine sd ?_
    refine hk7 _ ?_
    refine sh1 F1 ?_
    refine hk5 _ ?_
    refine hn4 (some ([0, 1, 4, 14], none)) _ ?_
    refine ev_cond_k rfl (fun hx => absurd hx (by simp at hx)) (fun hc0 => ?_)
    clear hc0
    refine hn3 (some ([0, 1, 4], none)) _ ?_
    refine ev_seq_k fun K8 hn8 hr8 he8 => ?_
    refine ev_seq_k fun K9 hn9 hr9 he9 => ?_
    refine ev_ops_k fun K10 hk10 => ?_
    refine sh1 F1 ?_
    refine sd ?_
    refine hk10 _ ?_
    refine hn9 (some ([0, 1, 4, 18], none)) _ ?_
    refine ev_cond_k rfl (fun hc1 => ?_) (fun hx => absurd hx (by simp at hx))
    clear hc1
    refine ev_seq_k fun K11 hn11 hr11 he11 => ?_
    refine ev_ops_k fun K12 hk12 => ?_
    refine evL_take 2 fun K13 hk13 => ?_
    refine sh1 F1 ?_
    refine sd ?_
    refine hk13 _ ?_
    refine sh1 F1 ?_
    refine hk12 _ ?_
    refine hn11 (some ([4, 5], none)) _ ?_
    refine hr8 _ ?_
    refine sg1 F1 ?_
    rfl
  rw [if_neg h3]
  have d : ((ws.length : Int) == 0) = false := by simp; exact fun e => h3 (by rw [e]; rfl)
  by_cases h4 : 4096 < ws.length
  · rw [if_pos h4, e0]
    have d4 : (4096 : Int) < (ws.length : Int) := by omega
    unfold evFn sc_r4New rv_r4New
    have F1 := And.intro @h1 (And.intro @h2 (And.intro @d @d4))
    refine ev_seq_k fun K1 hn1 hr1 he1 => ?_
    refine ev_ops_k fun K2 hk2 => ?_
    refine sh1 F1 ?_
    refine hk2 _ ?_
    refine hn1 (some ([0, 1, 4], none)) _ ?_
    refine ev_seq_k fun K3 hn3 hr3 he3 => ?_
    refine ev_seq_k fun K4 hn4 hr4 he4 => ?_
    refine ev_ops_k fun K5 hk5 => ?_
    refine evL_take 2 fun K6 hk6 => ?_
    refine sh1 F1 ?_
    refine sd ?_
    refine hk6 _ ?_
    refine evL_take 3 fun K7 hk7 => ?_
    refine sh1 F1 ?_
    refine sd ?_
    refine hk7 _ ?_
    refine sh1 F1 ?_
    refine hk5 _ ?_
    refine hn4 (some ([0, 1, 4, 14], none)) _ ?_
    refine ev_cond_k rfl (fun hx => absurd hx (by simp at hx)) (fun hc0 => ?_)
    clear hc0
    refine hn3 (some ([0, 1, 4], none)) _ ?_
    refine ev_seq_k fun K8 hn8 hr8 he8 => ?_
    refine ev_seq_k fun K9 hn9 hr9 he9 => ?_
    refine ev_ops_k fun K10 hk10 => ?_
    refine sh1 F1 ?_
    refine sd ?_
    refine hk10 _ ?_
    refine hn9 (some ([0, 1, 4, 18], none)) _ ?_
    refine ev_cond_k rfl (fun hx => absurd hx (by simp at hx)) (fun hc1 => ?_)
    clear hc1
    refine hn8 (some ([0, 1, 4], none)) _ ?_
    refine ev_seq_k fun K11 hn11 hr11 he11 => ?_
    refine ev_seq_k fun K12 hn12 hr12 he12 => ?_
    refine ev_ops_k fun K13 hk13 => ?_
    refine sh1 F1 ?_
    refine sd ?_
    refine hk13 _ ?_
    refine hn12 (some ([0, 1, 4, 22], none)) _ ?_
    refine ev_cond_k rfl (fun hc2 => ?_) (fun hx => absurd hx (by simp at hx))
    clear hc2
    refine ev_seq_k fun K14 hn14 hr14 he14 => ?_
    refine ev_ops_k fun K15 hk15 => ?_
    refine evL_take 2 fun K16 hk16 => ?_
    refine sh1 F1 ?_
    refine sd ?_
    refine hk16 _ ?_
    refine sh1 F1 ?_
    refine hk15 _ ?_
    refine hn14 (some ([4, 5], none)) _ ?_
    refine hr11 _ ?_
    refine sg1 F1 ?_
    rfl
  rw [if_neg h4]
  have d4 : ¬ (4096 : Int) < (ws.length : Int) := by omega
  obtain ⟨q, rfl⟩ := Int.eq_ofNat_of_zero_le (show 0 ≤ k by omega)
  rw [Int.toNat_natCast, ref_new q ws.length ws rfl]
  have q3 : ws.length * 8 ≤ 140737488355328 := by omega
  have q4 : ws.length ≤ 1000000 := by omega
  unfold evFn sc_r4New rv_r4New
  have F1 := And.intro @h1 (And.intro @h2 (And.intro @d (And.intro @d4 (And.intro @q3 @q4))))
  refine ev_seq_k fun K1 hn1 hr1 he1 => ?_
  refine ev_ops_k fun K2 hk2 => ?_
  refine sh1 F1 ?_
  refine hk2 _ ?_
  refine hn1 (some ([0, 1, 4], none)) _ ?_
  refine ev_seq_k fun K3 hn3 hr3 he3 => ?_
  refine ev_seq_k fun K4 hn4 hr4 he4 => ?_
  refine ev_ops_k fun K5 hk5 => ?_
  refine evL_take 2 fun K6 hk6 => ?_
  refine sh1 F1 ?_
  refine sd ?_
  refine hk6 _ ?_
  refine evL_take 3 fun K7 hk7 => ?_
  refine sh1 F1 ?_
  refine sd ?_
  refine hk7 _ ?_
  refine sh1 F1 ?_
  refine hk5 _ ?_
  refine hn4 (some ([0, 1, 4, 14], none)) _ ?_
  refine ev_cond_k rfl (fun hx => absurd hx (by simp at hx)) (fun hc0 => ?_)
  clear hc0
  refine hn3 (some ([0, 1, 4], none)) _ ?_
  refine ev_seq_k fun K8 hn8 hr8 he8 => ?_
  refine ev_seq_k fun K9 hn9 hr9 he9 => ?_
  refine ev_ops_k fun K10 hk10 => ?_
  refine sh1 F1 ?_
  refine sd ?_
  refine hk10 _ ?_
  refine hn9 (some ([0, 1, 4, 18], none)) _ ?_
  refine ev_cond_k rfl (fun hx => absurd hx (by simp at hx)) (fun hc1 => ?_)
  clear hc1
  refine hn8 (some ([0, 1, 4], none)) _ ?_
  refine ev_seq_k fun K11 hn11 hr11 he11 => ?_
  refine ev_seq_k fun K12 hn12 hr12 he12 => ?_
  refine ev_ops_k fun K13 hk13 => ?_
  refine sh1 F1 ?_
  refine sd ?_
  refine hk13 _ ?_
  refine hn12 (some ([0, 1, 4, 22], none)) _ ?_
  refine ev_cond_k rfl (fun hx => absurd hx (by simp at hx)) (fun hc2 => ?_)
  clear hc2
  refine hn11 (some ([0, 1, 4], none)) _ ?_
  refine ev_seq_k fun K14 hn14 hr14 he14 => ?_
  refine ev_ops_k fun K15 hk15 => ?_
  refine sh1 F1 ?_
  refine hk15 _ ?_
  refine hn14 (some ([0, 1, 4, 6], none)) _ ?_
  refine ev_seq_k fun K16 hn16 hr16 he16 => ?_
  refine ev_seq_k fun K17 hn17 hr17 he17 => ?_
  refine ev_ops_k fun K18 hk18 => ?_
  refine sh1 F1 ?_
  refine hk18 _ ?_
  refine hn17 (some ([0, 1, 4, 6, 7], none)) _ ?_
  refine ev_block_k fun K19 hn19 hx19 hr19 he19 => ?_
  refine ev_loop_k (RN0 g ws q) (q) (some ([0, 1, 4, 6, 7], some ([0, 1, 2], 3))) ([.cell 1 0 (some 97) 1]) ?_ ?_
  · try refine lp0 ?_
    exact ⟨0, by omega, by omega, rfl⟩
  · intro k S1 hI
    obtain ⟨i, hi, rfl, rfl⟩ := hI
    intro K20 hn20 hr20 he20
    refine ev_seq_k fun K21 hn21 hr21 he21 => ?_
    refine ev_seq_k fun K22 hn22 hr22 he22 => ?_
    refine ev_ops_k fun K23 hk23 => ?_
    refine sh1 F1 ?_
    refine sd ?_
    refine hk23 _ ?_
    refine hn22 (some ([0, 1, 4, 6, 7, 26], none)) _ ?_
    refine ev_cond_k rfl (fun hc3 => ?_) (fun hc3 => ?_)
    · try replace hc3 := hcS hc3
      have w2 : IntKind.i64.wrap ((i : Int) + 1) = ((i + 1 : Nat) : Int) := by rw [IntKind.wrap_i64]; omega
      have w3 : (i + 1) * 24 ≤ 140737488355328 := by omega
      have F2 := And.intro F1 (And.intro @w2 @w3)
      refine hn21 (some ([0, 1, 4, 6, 7], none)) _ ?_
      refine ev_seq_k fun K24 hn24 hr24 he24 => ?_
      refine ev_block_k fun K25 hn25 hx25 hr25 he25 => ?_
      refine ev_drw_k [] (n := 6) fun K26 hk26 => ?_
      refine sq0 ?_
      refine evF_take 2 fun K28 hk28 => ?_
      refine sh1 F2 ?_
      refine sd ?_
      refine hk28 _ _ _ ?_
      refine evF_take 3 fun K29 hk29 => ?_
      refine sh1 F2 ?_
      refine sd ?_
      refine hk29 _ _ _ ?_
      refine sh1 F2 ?_
      refine sd ?_
      refine hk26 _ ?_
      refine sr0 ?_
      refine evL_take 1 fun K30 hk30 => ?_
      refine sh1 F2 ?_
      refine sd ?_
      refine hk30 _ ?_
      refine sh1 F2 ?_
      refine sd ?_
      refine hn25 _ ?_
      refine hn24 (some ([0, 1, 4, 6, 7], none)) _ ?_
      refine ev_ops_k fun K31 hk31 => ?_
      refine evL_take 2 fun K32 hk32 => ?_
      refine sh1 F2 ?_
      refine sd ?_
      refine hk32 _ ?_
      refine sh1 F2 ?_
      refine hk31 _ ?_
      refine hn20 (q - (i + 1)) (some ([0, 1, 4, 6, 7], some ([0, 1, 3], 3))) _ ?_ ?_
      all_goals try refine lp0 ?_
      · omega
      · exact ⟨i + 1, by omega, by omega, by rw [List.replicate_succ']⟩
    · try replace hc3 := hcS hc3
      obtain rfl : i = q := by omega
      refine he21 0 _ ?_
      refine he20 0 _ ?_
      refine hx19 _ ?_
      refine hn16 (some ([1, 4, 6], none)) _ ?_
      refine ev_seq_k fun K33 hn33 hr33 he33 => ?_
      refine ev_seq_k fun K34 hn34 hr34 he34 => ?_
      refine ev_ops_k fun K35 hk35 => ?_
      refine sh1 F1 ?_
      refine hk35 _ ?_
      refine hn34 (some ([1, 4, 6, 8], none)) _ ?_
      refine ev_block_k fun K36 hn36 hx36 hr36 he36 => ?_
      refine ev_loop_k (RN1 g ws i) (ws.length) (some ([1, 4, 6, 8], some ([0, 1, 2, 3], 4))) ([.cell 1 1 (some 136) 1]) ?_ ?_
      · try refine lp0 ?_
        exact ⟨0, by omega, by omega, rfl⟩
      · intro k S1 hI
        obtain ⟨j, hj, rfl, rfl⟩ := hI
        intro K37 hn37 hr37 he37
        refine ev_seq_k fun K38 hn38 hr38 he38 => ?_
        refine ev_seq_k fun K39 hn39 hr39 he39 => ?_
        refine ev_ops_k fun K40 hk40 => ?_
        refine sh1 F1 ?_
        refine sd ?_
        refine hk40 _ ?_
        refine hn39 (some ([1, 4, 6, 8, 40], none)) _ ?_
        refine ev_cond_k rfl (fun hc4 => ?_) (fun hc4 => ?_)
        · try replace hc4 := hcS hc4
          obtain ⟨w, hw⟩ : ∃ w, ws[j]? = some w := ⟨_, List.getElem?_eq_getElem (by omega)⟩
          have w2 : IntKind.i64.wrap ((j : Int) + 1) = ((j + 1 : Nat) : Int) := by rw [IntKind.wrap_i64]; omega
          have w4 : (ws.take j).length = j := by simp; omega
          have w3 : (j + 1) * 24 ≤ 140737488355328 := by omega
          have F3 := And.intro F1 (And.intro @hw (And.intro @w2 (And.intro @w3 @w4)))
          refine hn38 (some ([1, 4, 6, 8], none)) _ ?_
          refine ev_seq_k fun K41 hn41 hr41 he41 => ?_
          refine ev_block_k fun K42 hn42 hx42 hr42 he42 => ?_
          refine ev_drw_k [] (n := 12) fun K43 hk43 => ?_
          refine sq0 ?_
          refine evF_take 2 fun K45 hk45 => ?_
          refine sh1 F3 ?_
          refine sd ?_
          refine hk45 _ _ _ ?_
          refine evF_take 3 fun K46 hk46 => ?_
          refine sh1 F3 ?_
          refine sd ?_
          refine hk46 _ _ _ ?_
          refine evF_take 1 fun K47 hk47 => ?_
          refine sh1 F3 ?_
          refine sd ?_
          refine hk47 _ _ _ ?_
          refine evF_take 3 fun K48 hk48 => ?_
          refine sh1 F3 ?_
          refine sd ?_
          refine hk48 _ _ _ ?_
          refine evF_take 2 fun K49 hk49 => ?_
          refine sh1 F3 ?_
          refine sd ?_
          refine hk49 _ _ _ ?_
          refine sh1 F3 ?_
          refine sd ?_
          refine hk43 _ ?_
          refine sr0 ?_
          refine evL_take 1 fun K50 hk50 => ?_
          refine sh1 F3 ?_
          refine sd ?_
          refine hk50 _ ?_
          refine sh1 F3 ?_
          refine sd ?_
          refine hn42 _ ?_
          refine hn41 (some ([1, 4, 6, 8], none)) _ ?_
          refine ev_ops_k fun K51 hk51 => ?_
          refine evL_take 2 fun K52 hk52 => ?_
          refine sh1 F3 ?_
          refine sd ?_
          refine hk52 _ ?_
          refine sh1 F3 ?_
          refine hk51 _ ?_
          refine hn37 (ws.length - (j + 1)) (some ([1, 4, 6, 8], some ([0, 1, 2, 4], 4))) _ ?_ ?_
          all_goals try refine lp0 ?_
          · omega
          · refine ⟨j + 1, by omega, by omega, ?_⟩
            rw [show ws.take (j + 1) = ws.take j ++ [w] from by rw [List.take_add_one, hw]; rfl, List.map_append]
            rfl
        · try replace hc4 := hcS hc4
          obtain rfl : j = ws.length := by omega
          refine he38 2 _ ?_
          refine he37 2 _ ?_
          refine hx36 _ ?_
          refine hn33 (some ([4, 6], none)) _ ?_
          refine ev_seq_k fun K53 hn53 hr53 he53 => ?_
          refine ev_ops_k fun K54 hk54 => ?_
          refine evL_take 1 fun K55 hk55 => ?_
          refine sh1 F1 ?_
          refine sd ?_
          refine hk55 _ ?_
          refine evL_take 1 fun K56 hk56 => ?_
          refine sh1 F1 ?_
          refine sd ?_
          refine hk56 _ ?_
          refine sh1 F1 ?_
          refine hk54 _ ?_
          refine hn53 (some ([4, 5], none)) _ ?_
          refine sg1 F1 ?_
          simp [Function.comp_def]
end Go.Proofs.Ytfcjkchpldfamaa

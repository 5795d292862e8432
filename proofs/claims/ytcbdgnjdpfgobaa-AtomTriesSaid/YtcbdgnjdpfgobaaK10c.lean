/-
  Layer 10 by shadows: the example.
-/
import Derived.Test.YtcbdgnjdpfgobaaK10b
import Derived.Test.YtcbdgnjdpfgobaaMC
namespace Go.Proofs.Ytcbdgnjdpfgobaa
set_option linter.unusedSimpArgs false
set_option linter.unusedVariables false
open Go.RowKit Go.Maps

abbrev opsX : List (List Sh) := [[sI 0, sI 0, sI 3], [sI 1, sI 0, sI 7], [sI 3, sI 0, sI 4], [sI 2, sI 0, sI 0], [sI 3, sI 0, sI 4]]
abbrev ansX : List (List Sh) := [[sI 5], [sI 8], [sI 8], [sI 8], [sI 0]]
abbrev newX : List (List Sh) := [[sI 8], [sI 8], [sI 8], [sI 0], [sI 4]]
def valX : Nat → Int
  | 0 => 5 | 1 => 8 | 2 => 8 | 3 => 8 | 4 => 0 | _ => 4
noncomputable def begX (o : OpV) (v : Int) : WorldM atm := begunW (opsM [o]) ⟨v, 6, 0⟩ zWord
structure AwX (i : Nat) (o : OpV) (a nv : Int) (y : TaskM atm) (s : AtmV) : Prop where
  op : opsX[i]? = some (eOp o)
  len : (opsM [o]).length ≤ 8
  ans : ansX[i]? = some [sI a]
  new : newX[i]? = some [sI nv]
  done : (aloneM (begX o (valX i)) 1 4).2 = true
  one : (aloneM (begX o (valX i)) 1 4).1.tasks.length = 1
  task : (aloneM (begX o (valX i)) 1 4).1.tasks[0]? = some y
  code : y.code = some s
  fin : s.fin = true
  answer : s.answer = a
  word : Wd (aloneM (begX o (valX i)) 1 4).1.m 0 = ⟨nv, 6, 0⟩
  next : valX (i + 1) = nv
theorem awX {i : Nat} (hi : i < 5) : ∃ o a nv y s, AwX i o a nv y s :=
  match i, hi with
  | 0, _ => ⟨⟨0, 0, 3⟩, 5, 8, _, _, by kernel_rfl, by decide, by kernel_rfl, by kernel_rfl, by kernel_rfl, by kernel_rfl, rfl, rfl, by kernel_rfl, by kernel_rfl, by kernel_rfl, rfl⟩
  | 1, _ => ⟨⟨1, 0, 7⟩, 8, 8, _, _, by kernel_rfl, by decide, by kernel_rfl, by kernel_rfl, by kernel_rfl, by kernel_rfl, rfl, rfl, by kernel_rfl, by kernel_rfl, by kernel_rfl, rfl⟩
  | 2, _ => ⟨⟨3, 0, 4⟩, 8, 8, _, _, by kernel_rfl, by decide, by kernel_rfl, by kernel_rfl, by kernel_rfl, by kernel_rfl, rfl, rfl, by kernel_rfl, by kernel_rfl, by kernel_rfl, rfl⟩
  | 3, _ => ⟨⟨2, 0, 0⟩, 8, 0, _, _, by kernel_rfl, by decide, by kernel_rfl, by kernel_rfl, by kernel_rfl, by kernel_rfl, rfl, rfl, by kernel_rfl, by kernel_rfl, by kernel_rfl, rfl⟩
  | 4, _ => ⟨⟨3, 0, 4⟩, 0, 4, _, _, by kernel_rfl, by decide, by kernel_rfl, by kernel_rfl, by kernel_rfl, by kernel_rfl, rfl, rfl, by kernel_rfl, by kernel_rfl, by kernel_rfl, rfl⟩
def AwInv (k : Nat) (S : St) : Prop :=
  ∃ i : Nat, i ≤ 5 ∧ k = 5 - i ∧ S = ⟨[(1, sI (valX i)), (17, .sl 3 0 opsX), (18, sI 5), (19, sI i)], [], 0⟩
set_option maxHeartbeats 8000000 in
theorem ok_l10awake : Ok 36 [] (sB true) := by
  refine ok_of_tr Try.func36 tr_l10awake rfl ?_
  have hK := shK atm
  unfold evFn sc_l10awake rv_l10awake
  have F1 := @hK
  refine ev_seq_k fun K1 hn1 hr1 he1 => ?_
  refine ev_ops_k fun K2 hk2 => ?_
  refine sh1 F1 ?_
  refine hk2 _ ?_
  refine hn1 (some ([], none)) _ ?_
  refine ev_seq_k fun K3 hn3 hr3 he3 => ?_
  refine ev_ops_k fun K4 hk4 => ?_
  refine sh1 F1 ?_
  refine hk4 _ ?_
  refine hn3 (some ([1], none)) _ ?_
  refine ev_seq_k fun K5 hn5 hr5 he5 => ?_
  refine ev_seq_k fun K6 hn6 hr6 he6 => ?_
  refine ev_ops_k fun K7 hk7 => ?_
  refine evL_take 6 fun K8 hk8 => ?_
  refine sh1 F1 ?_
  refine sd ?_
  refine hk8 _ ?_
  refine sh1 F1 ?_
  refine hk7 _ ?_
  refine hn6 (some ([1, 17, 18, 19], none)) _ ?_
  refine ev_block_k fun K9 hn9 hx9 hr9 he9 => ?_
  refine ev_loop_k (AwInv) (5) (some ([1, 17, 18, 19], some ([], 0))) ([]) ?_ ?_
  · try refine lp0 ?_
    exact ⟨0, by omega, by omega, by rfl⟩
  · intro k S1 hI
    obtain ⟨i, hi, rfl, rfl⟩ := hI
    have hcase : i = 5 ∨ i < 5 := by omega
    intro K10 hn10 hr10 he10
    rcases hcase with hcc | hcc
    · skip
      have w2 : ¬ (i : Int) < 5 := by omega
      have F2 := And.intro F1 @w2
      refine ev_seq_k fun K11 hn11 hr11 he11 => ?_
      refine ev_ops_k fun K12 hk12 => ?_
      refine sh1 F2 ?_
      refine sd ?_
      refine hk12 _ ?_
      refine hn11 (some ([1, 17, 18, 19, 20], none)) _ ?_
      refine ev_seq_k fun K13 hn13 hr13 he13 => ?_
      refine ev_cond_k rfl (fun hx => absurd hx (by simp at hx)) (fun hc0 => ?_)
      clear hc0
      refine he13 0 _ ?_
      refine he10 0 _ ?_
      refine hx9 _ ?_
      refine hn5 (some ([], none)) _ ?_
      refine ev_seq_k fun K14 hn14 hr14 he14 => ?_
      refine ev_ops_k fun K15 hk15 => ?_
      refine sh1 F2 ?_
      refine hk15 _ ?_
      refine hn14 (some ([0], none)) _ ?_
      exact sf1 F2
    · skip
      have w2 : (i : Int) < 5 := by omega
      have w3 : IntKind.i64.wrap ((i : Int) + 1) = ((i + 1 : Nat) : Int) := by rw [IntKind.wrap_i64]; omega
      obtain ⟨o, a, nv, y, s, hX⟩ := awX hcc
      have k0 := ok_l10begun ⟨⟨valX i, 6, 0⟩, zWord, 0, [o], 0, []⟩ (by show [o].length ≤ 3; simp)
      change Ok _ [.agg [sI (valX i), sU 6, sU 0, sI 0, sU 0, sU 0, .sl 3 0 [[sI o.kind, sI o.loc, sI o.n]], .sl 3 0 []]] (.tup [eWorld (begX o (valX i)), _, _]) at k0
      have hW := (begun_ok (opsM [o]) ⟨valX i, 6, 0⟩ zWord hX.len).1
      have k1 := ok_kAlone (begX o (valX i)) 1 4 hW (by decide)
      have hA : WorldOk (aloneM (begX o (valX i)) 1 4).1 6 := by
        unfold aloneM
        split
        · exact worldOk_up hW (by omega)
        · exact goesOk 1 4 hW
      rw [hX.done] at k1
      have k2 := ok_kCode y
      have hcd : eCode atm y.code = .ifc 141 (.agg (cAtm s)) := by rw [hX.code]; rfl
      rw [hcd] at k2
      have k3 := ok_aAnswer s
      rw [if_pos hX.fin, hX.fin, hX.answer] at k3
      have k4 := ok_l10word (aloneM (begX o (valX i)) 1 4).1 0 hA (by decide)
      rw [hX.word] at k4
      have y1 := hX.op
      have y2 := hX.ans
      have y3 := hX.new
      have y4 := hX.task
      have y5 := hX.one
      have y6 := hX.next
      generalize (aloneM (begX o (valX i)) 1 4).1 = A at k1 k4 y4 y5
      generalize begX o (valX i) = B at k0 k1
      have y7 : (A.tasks.length : Int) = 1 := by omega
      have y8 : 0 < A.tasks.length := by omega
      have F3 := And.intro F1 (And.intro @w2 (And.intro @w3 (And.intro @y1 (And.intro @y2 (And.intro @y3 (And.intro @y4 (And.intro @y7 @y8)))))))
      refine ev_seq_k fun K16 hn16 hr16 he16 => ?_
      refine ev_ops_k fun K17 hk17 => ?_
      refine sh1 F3 ?_
      refine sd ?_
      refine hk17 _ ?_
      refine hn16 (some ([1, 17, 18, 19, 20], none)) _ ?_
      refine ev_seq_k fun K18 hn18 hr18 he18 => ?_
      refine ev_cond_k rfl (fun hc0 => ?_) (fun hx => absurd hx (by simp at hx))
      clear hc0
      refine hn18 (some ([1, 17, 18, 19], none)) _ ?_
      refine ev_seq_k fun K19 hn19 hr19 he19 => ?_
      refine ev_block_k fun K20 hn20 hx20 hr20 he20 => ?_
      refine ev_seq_k fun K21 hn21 hr21 he21 => ?_
      refine ev_ops_k fun K22 hk22 => ?_
      refine evL_take 2 fun K23 hk23 => ?_
      refine sh1 F3 ?_
      refine sd ?_
      refine hk23 _ ?_
      refine evL_take 1 fun K24 hk24 => ?_
      refine sh1 F3 ?_
      refine sd ?_
      refine hk24 _ ?_
      refine sh1 F3 ?_
      refine sd ?_
      refine hk22 _ ?_
      refine hn21 (some ([1, 2, 3, 17, 18, 19], none)) _ ?_
      refine ev_seq_k fun K25 hn25 hr25 he25 => ?_
      refine ev_ops_k fun K26 hk26 => ?_
      refine evL_take 5 fun K27 hk27 => ?_
      refine sh1 F3 ?_
      refine sd ?_
      refine hk27 _ ?_
      refine evL_take 1 fun K28 hk28 => ?_
      refine sh1 F3 ?_
      refine sd ?_
      refine hk28 _ ?_
      refine sh1 F3 ?_
      refine sd ?_
      refine hk26 _ ?_
      refine hn25 (some ([2, 4, 17, 18, 19], none)) _ ?_
      refine ev_seq_k fun K29 hn29 hr29 he29 => ?_
      refine ev_ops_k fun K30 hk30 => ?_
      refine evL_take 1 fun K31 hk31 => ?_
      refine sh1 F3 ?_
      refine sd ?_
      refine hk31 _ ?_
      refine evL_take 1 fun K32 hk32 => ?_
      refine sh1 F3 ?_
      refine Or.inl (Or.inl ⟨_, k0, ?_⟩)
      refine hk32 _ ?_
      refine evL_take 6 fun K33 hk33 => ?_
      refine sh1 F3 ?_
      refine sd ?_
      refine hk33 _ ?_
      refine sh1 F3 ?_
      refine hk30 _ ?_
      refine hn29 (some ([2, 5, 7, 17, 18, 19], none)) _ ?_
      refine ev_seq_k fun K34 hn34 hr34 he34 => ?_
      refine ev_seq_k fun K35 hn35 hr35 he35 => ?_
      refine ev_ops_k fun K36 hk36 => ?_
      refine sh1 F3 ?_
      refine hk36 _ ?_
      refine hn35 (some ([2, 5, 17, 18, 19, 38], none)) _ ?_
      refine ev_cond_k rfl (fun hx => absurd hx (by simp at hx)) (fun hc1 => ?_)
      clear hc1
      refine hn34 (some ([2, 5, 17, 18, 19], none)) _ ?_
      refine ev_seq_k fun K37 hn37 hr37 he37 => ?_
      refine ev_ops_k fun K38 hk38 => ?_
      refine evL_take 1 fun K39 hk39 => ?_
      refine sh1 F3 ?_
      refine sd ?_
      refine hk39 _ ?_
      refine evL_take 1 fun K40 hk40 => ?_
      refine sh1 F3 ?_
      refine Or.inl (Or.inl ⟨_, k1, ?_⟩)
      refine hk40 _ ?_
      refine evL_take 4 fun K41 hk41 => ?_
      refine sh1 F3 ?_
      refine sd ?_
      refine hk41 _ ?_
      refine sh1 F3 ?_
      refine hk38 _ ?_
      refine hn37 (some ([2, 5, 8, 17, 18, 19], none)) _ ?_
      refine ev_seq_k fun K42 hn42 hr42 he42 => ?_
      refine ev_seq_k fun K43 hn43 hr43 he43 => ?_
      refine ev_ops_k fun K44 hk44 => ?_
      refine evL_take 5 fun K45 hk45 => ?_
      refine sh1 F3 ?_
      refine sd ?_
      refine hk45 _ ?_
      refine evL_take 2 fun K46 hk46 => ?_
      refine sh1 F3 ?_
      refine sd ?_
      refine hk46 _ ?_
      refine sh1 F3 ?_
      refine hk44 _ ?_
      refine hn43 (some ([2, 5, 17, 18, 19, 51], none)) _ ?_
      refine ev_cond_k rfl (fun hx => absurd hx (by simp at hx)) (fun hc2 => ?_)
      clear hc2
      refine hn42 (some ([2, 5, 17, 18, 19], none)) _ ?_
      refine ev_seq_k fun K47 hn47 hr47 he47 => ?_
      refine ev_ops_k fun K48 hk48 => ?_
      refine evL_take 2 fun K49 hk49 => ?_
      refine sh1 F3 ?_
      refine sd ?_
      refine hk49 _ ?_
      refine evL_take 1 fun K50 hk50 => ?_
      refine sh1 F3 ?_
      refine sd ?_
      refine hk50 _ ?_
      refine evL_take 1 fun K51 hk51 => ?_
      refine sh1 F3 ?_
      refine sd ?_
      refine hk51 _ ?_
      refine evL_take 1 fun K52 hk52 => ?_
      refine sh1 F3 ?_
      refine Or.inl (Or.inl ⟨_, k2, ?_⟩)
      refine hk52 _ ?_
      refine evL_take 1 fun K53 hk53 => ?_
      refine sh1 F3 ?_
      refine Or.inl (Or.inl ⟨_, k3, ?_⟩)
      refine hk53 _ ?_
      refine sh1 F3 ?_
      refine hk48 _ ?_
      refine hn47 (some ([2, 5, 9, 10, 17, 18, 19], none)) _ ?_
      refine ev_seq_k fun K54 hn54 hr54 he54 => ?_
      refine ev_ops_k fun K55 hk55 => ?_
      refine evL_take 1 fun K56 hk56 => ?_
      refine sh1 F3 ?_
      refine sd ?_
      refine hk56 _ ?_
      refine evL_take 1 fun K57 hk57 => ?_
      refine sh1 F3 ?_
      refine Or.inl (Or.inl ⟨_, k4, ?_⟩)
      refine hk57 _ ?_
      refine sh1 F3 ?_
      refine sd ?_
      refine hk55 _ ?_
      refine hn54 (some ([2, 9, 10, 11, 17, 18, 19], none)) _ ?_
      refine ev_seq_k fun K58 hn58 hr58 he58 => ?_
      refine ev_seq_k fun K59 hn59 hr59 he59 => ?_
      refine ev_drw_k [] (n := 17) fun K60 hk60 => ?_
      refine sq0 ?_
      refine evF_take 5 fun K62 hk62 => ?_
      refine sh1 F3 ?_
      refine sd ?_
      refine hk62 _ _ _ ?_
      refine evF_take 2 fun K63 hk63 => ?_
      refine sh1 F3 ?_
      refine sd ?_
      refine hk63 _ _ _ ?_
      refine evF_take 1 fun K64 hk64 => ?_
      refine sh1 F3 ?_
      refine sd ?_
      refine hk64 _ _ _ ?_
      refine evF_take 1 fun K65 hk65 => ?_
      refine sh1 F3 ?_
      refine sd ?_
      refine hk65 _ _ _ ?_
      refine evF_take 3 fun K66 hk66 => ?_
      refine sh1 F3 ?_
      refine sd ?_
      refine hk66 _ _ _ ?_
      refine evF_take 1 fun K67 hk67 => ?_
      refine sh1 F3 ?_
      refine sd ?_
      refine hk67 _ _ _ ?_
      refine evF_take 2 fun K68 hk68 => ?_
      refine sh1 F3 ?_
      refine sd ?_
      refine hk68 _ _ _ ?_
      refine evF_take 1 fun K69 hk69 => ?_
      refine sh1 F3 ?_
      refine sd ?_
      refine hk69 _ _ _ ?_
      refine sh1 F3 ?_
      refine hk60 _ ?_
      refine sr0 ?_
      refine evL_take 1 fun K70 hk70 => ?_
      refine sh1 F3 ?_
      refine Or.inl ⟨_, eqsh_word_refl ⟨nv, 6, 0⟩, ?_⟩
      refine hk70 _ ?_
      refine sh1 F3 ?_
      refine hn59 (some ([11, 17, 18, 19, 81], none)) _ ?_
      refine ev_cond_k rfl (fun hx => absurd hx (by simp at hx)) (fun hc3 => ?_)
      clear hc3
      refine hn58 (some ([11, 17, 18, 19], none)) _ ?_
      refine ev_ops_k fun K71 hk71 => ?_
      refine evL_take 2 fun K72 hk72 => ?_
      refine sh1 F3 ?_
      refine sd ?_
      refine hk72 _ ?_
      refine sh1 F3 ?_
      refine hk71 _ ?_
      refine hn20 _ ?_
      refine hn19 (some ([1, 17, 18, 19], none)) _ ?_
      refine ev_ops_k fun K73 hk73 => ?_
      refine evL_take 1 fun K74 hk74 => ?_
      refine sh1 F3 ?_
      refine sd ?_
      refine hk74 _ ?_
      refine sh1 F3 ?_
      refine hk73 _ ?_
      refine hn10 (5 - (i + 1)) (some ([1, 17, 18, 19], some ([], 0))) _ ?_ ?_
      all_goals try refine lp0 ?_
      · omega
      · exact ⟨i + 1, by omega, by omega, by rw [y6]⟩
end Go.Proofs.Ytcbdgnjdpfgobaa

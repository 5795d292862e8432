/-
  Layer 10 by shadows: the example.
-/
import Derived.Test.YtenbagffdlljdaaK10b
import Derived.Test.YtenbagffdlljdaaMC
namespace Go.Proofs.Ytenbagffdlljdaa
set_option linter.unusedSimpArgs false
set_option linter.unusedVariables false
open Go.RowKit Go.Maps
abbrev opsX : List (List Sh) := [[sI 0, sI 0, sI 3], [sI 1, sI 0, sI 7], [sI 3, sI 0, sI 4], [sI 2, sI 0, sI 0], [sI 3, sI 0, sI 4]]
abbrev ansX : List (List Sh) := [[sI 5], [sI 8], [sI 8], [sI 8], [sI 0]]
abbrev newX : List (List Sh) := [[sI 8], [sI 8], [sI 8], [sI 0], [sI 4]]
def valX : Nat → Int
  | 0 => 5 | 1 => 8 | 2 => 8 | 3 => 8 | 4 => 0 | _ => 4
noncomputable def begX (o : OpV) (v : Int) : WorldM atm := begunW (opsM [o]) ⟨v, 6, 0⟩ zWord
structure AwX (i : Nat) (o : OpV) (a nv : Int) (y : TaskM atm) (s : AtmV) : Prop where
  op : opsX[i]? = some (eOp o)
  len : (opsM [o]).length ≤ 8
  ans : ansX[i]? = some [sI a]
  new : newX[i]? = some [sI nv]
  done : (aloneM (begX o (valX i)) 1 4).2 = true
  one : (aloneM (begX o (valX i)) 1 4).1.tasks.length = 1
  task : (aloneM (begX o (valX i)) 1 4).1.tasks[0]? = some y
  code : y.code = some s
  fin : s.fin = true
  answer : s.answer = a
  word : Wd (aloneM (begX o (valX i)) 1 4).1.m 0 = ⟨nv, 6, 0⟩
  next : valX (i + 1) = nv
theorem awX {i : Nat} (hi : i < 5) : ∃ o a nv y s, AwX i o a nv y s :=
  match i, hi with
  | 0, _ => ⟨⟨0, 0, 3⟩, 5, 8, _, _, by kernel_rfl, by decide, by kernel_rfl, by kernel_rfl, by kernel_rfl, by kernel_rfl, rfl, rfl, by kernel_rfl, by kernel_rfl, by kernel_rfl, rfl⟩
  | 1, _ => ⟨⟨1, 0, 7⟩, 8, 8, _, _, by kernel_rfl, by decide, by kernel_rfl, by kernel_rfl, by kernel_rfl, by kernel_rfl, rfl, rfl, by kernel_rfl, by kernel_rfl, by kernel_rfl, rfl⟩
  | 2, _ => ⟨⟨3, 0, 4⟩, 8, 8, _, _, by kernel_rfl, by decide, by kernel_rfl, by kernel_rfl, by kernel_rfl, by kernel_rfl, rfl, rfl, by kernel_rfl, by kernel_rfl, by kernel_rfl, rfl⟩
  | 3, _ => ⟨⟨2, 0, 0⟩, 8, 0, _, _, by kernel_rfl, by decide, by kernel_rfl, by kernel_rfl, by kernel_rfl, by kernel_rfl, rfl, rfl, by kernel_rfl, by kernel_rfl, by kernel_rfl, rfl⟩
  | 4, _ => ⟨⟨3, 0, 4⟩, 0, 4, _, _, by kernel_rfl, by decide, by kernel_rfl, by kernel_rfl, by kernel_rfl, by kernel_rfl, rfl, rfl, by kernel_rfl, by kernel_rfl, by kernel_rfl, rfl⟩
def AwInv (k : Nat) (S : St) : Prop :=
  ∃ i : Nat, i ≤ 5 ∧ k = 5 - i ∧ S = ⟨[(1, sI (valX i)), (17, .sl 3 0 opsX), (18, sI 5), (19, sI i)], [], 0⟩
set_option maxHeartbeats 8000000 in
theorem ok_l10awake : Ok 27 [] (sB true) := by
  refine ok_of_tr Try.func27 tr_l10awake rfl ?_
  have hK := shK atm
  unfold evFn sc_l10awake rv_l10awake
  have F1 := @hK
  refine eS fun _ hn1 _ _ => ?_;refine eO fun _ hk2 => ?_;refine tL F1 ?_;refine hk2 _ ?_;refine hn1 (some ([], none)) _ ?_;refine eS fun _ hn3 _ _ => ?_;refine eO fun _ hk4 => ?_;refine tL F1 ?_;refine hk4 _ ?_;refine hn3 (some ([1], none)) _ ?_;refine eS fun _ hn5 _ _ => ?_;refine eS fun _ hn6 _ _ => ?_;refine eO fun _ hk7 => ?_;refine tC 6 F1 ?_;refine tL F1 ?_;refine hk7 _ ?_;refine hn6 (some ([1,17,18,19], none)) _ ?_;refine eB fun _ _ hx8 _ _ => ?_;refine eW (AwInv) (5) (some ([1,17,18,19], some ([], 0))) ([]) ?_ ?_
  · try refine lp0 ?_
    exact ⟨0, by omega, by omega, by rfl⟩
  · intro k S1 hI
    obtain ⟨i, hi, rfl, rfl⟩ := hI
    have hcase : i = 5 ∨ i < 5 := by omega
    intro _ hn9 _ he9
    rcases hcase with hcc | hcc
    · skip
      have w2 : ¬ (i : Int) < 5 := by omega
      have F2 := And.intro F1 @w2
      refine eS fun _ hn10 _ _ => ?_;refine eO fun _ hk11 => ?_;refine tZ F2 ?_;refine hk11 _ ?_;refine hn10 (some ([1,17,18,19,20], none)) _ ?_;refine eS fun _ _ _ he12 => ?_;refine eCf ?_;refine he12 0 _ ?_;refine he9 0 _ ?_;refine hx8 _ ?_;refine hn5 (some ([], none)) _ ?_;refine eS fun _ hn13 _ _ => ?_;refine eO fun _ hk14 => ?_;refine tL F2 ?_;refine hk14 _ ?_;refine hn13 (some ([0], none)) _ ?_
      exact sf1 F2
    · skip
      have w2 : (i : Int) < 5 := by omega
      have w3 : IntKind.i64.wrap ((i : Int) + 1) = ((i + 1 : Nat) : Int) := by rw [IntKind.wrap_i64]; omega
      obtain ⟨o, a, nv, y, s, hX⟩ := awX hcc
      have k0 := ok_l10begun ⟨⟨valX i, 6, 0⟩, zWord, 0, [o], 0, []⟩ (by show [o].length ≤ 3; simp)
      change Ok _ [.agg [sI (valX i), sU 6, sU 0, sI 0, sU 0, sU 0, .sl 3 0 [[sI o.kind, sI o.loc, sI o.n]], .sl 3 0 []]] (.tup [eWorld (begX o (valX i)), _, _]) at k0
      have hW := (begun_ok (opsM [o]) ⟨valX i, 6, 0⟩ zWord hX.len).1
      have k1 := ok_kAlone (begX o (valX i)) 1 4 hW (by decide)
      have hA : WorldOk (aloneM (begX o (valX i)) 1 4).1 6 := by
        unfold aloneM
        split
        · exact worldOk_up hW (by omega)
        · exact goesOk 1 4 hW
      rw [hX.done] at k1
      have k2 := ok_kCode y
      have hcd : eCode atm y.code = .ifc 175 (.agg (cAtm s)) := by rw [hX.code]; rfl
      rw [hcd] at k2
      have k3 := ok_aAnswer s
      rw [if_pos hX.fin, hX.fin, hX.answer] at k3
      have k4 := ok_l10word (aloneM (begX o (valX i)) 1 4).1 0 hA (by decide)
      rw [hX.word] at k4
      have y1 := hX.op
      have y2 := hX.ans
      have y3 := hX.new
      have y4 := hX.task
      have y5 := hX.one
      have y6 := hX.next
      generalize (aloneM (begX o (valX i)) 1 4).1 = A at k1 k4 y4 y5
      generalize begX o (valX i) = B at k0 k1
      have y7 : (A.tasks.length : Int) = 1 := by omega
      have y8 : 0 < A.tasks.length := by omega
      have F3 := And.intro F1 (And.intro @w2 (And.intro @w3 (And.intro @y1 (And.intro @y2 (And.intro @y3 (And.intro @y4 (And.intro @y7 @y8)))))))
      refine eS fun _ hn15 _ _ => ?_;refine eO fun _ hk16 => ?_;refine tZ F3 ?_;refine hk16 _ ?_;refine hn15 (some ([1,17,18,19,20], none)) _ ?_;refine eS fun _ hn17 _ _ => ?_;refine eCt ?_;refine hn17 (some ([1,17,18,19], none)) _ ?_;refine eS fun _ hn18 _ _ => ?_;refine eB fun _ hn19 _ _ _ => ?_;refine eS fun _ hn20 _ _ => ?_;refine eO fun _ hk21 => ?_;refine tC 2 F3 ?_;refine tC 1 F3 ?_;refine tZ F3 ?_;refine hk21 _ ?_;refine hn20 (some ([1,2,3,17,18,19], none)) _ ?_;refine eS fun _ hn22 _ _ => ?_;refine eO fun _ hk23 => ?_;refine tC 5 F3 ?_;refine tC 1 F3 ?_;refine tZ F3 ?_;refine hk23 _ ?_;refine hn22 (some ([2,4,17,18,19], none)) _ ?_;refine eS fun _ hn24 _ _ => ?_;refine eO fun _ hk25 => ?_;refine tC 1 F3 ?_;refine tS 1 F3 ?_;refine Or.inl (Or.inl ⟨_, k0, ?_⟩);refine tC 6 F3 ?_;refine tL F3 ?_;refine hk25 _ ?_;refine hn24 (some ([2,5,7,17,18,19], none)) _ ?_;refine eS fun _ hn26 _ _ => ?_
      refine eS fun _ hn27 _ _ => ?_;refine eO fun _ hk28 => ?_;refine tL F3 ?_;refine hk28 _ ?_;refine hn27 (some ([2,5,17,18,19,38], none)) _ ?_;refine eCf ?_;refine hn26 (some ([2,5,17,18,19], none)) _ ?_;refine eS fun _ hn29 _ _ => ?_;refine eO fun _ hk30 => ?_;refine tC 1 F3 ?_;refine tS 1 F3 ?_;refine Or.inl (Or.inl ⟨_, k1, ?_⟩);refine tC 4 F3 ?_;refine tL F3 ?_;refine hk30 _ ?_;refine hn29 (some ([2,5,8,17,18,19], none)) _ ?_;refine eS fun _ hn31 _ _ => ?_;refine eS fun _ hn32 _ _ => ?_;refine eO fun _ hk33 => ?_;refine tC 5 F3 ?_;refine tC 2 F3 ?_;refine tL F3 ?_;refine hk33 _ ?_;refine hn32 (some ([2,5,17,18,19,51], none)) _ ?_;refine eCf ?_;refine hn31 (some ([2,5,17,18,19], none)) _ ?_;refine eS fun _ hn34 _ _ => ?_;refine eO fun _ hk35 => ?_;refine tC 2 F3 ?_;refine tC 1 F3 ?_;refine tC 1 F3 ?_;refine tS 1 F3 ?_;refine Or.inl (Or.inl ⟨_, k2, ?_⟩);refine tS 1 F3 ?_;refine Or.inl (Or.inl ⟨_, k3, ?_⟩)
      refine tL F3 ?_;refine hk35 _ ?_;refine hn34 (some ([2,5,9,10,17,18,19], none)) _ ?_;refine eS fun _ hn36 _ _ => ?_;refine eO fun _ hk37 => ?_;refine tC 1 F3 ?_;refine tS 1 F3 ?_;refine Or.inl (Or.inl ⟨_, k4, ?_⟩);refine tZ F3 ?_;refine hk37 _ ?_;refine hn36 (some ([2,9,10,11,17,18,19], none)) _ ?_;refine eS fun _ hn38 _ _ => ?_;refine eS fun _ hn39 _ _ => ?_;refine eD [] (n := 17) fun _ hk40 => ?_;refine sq0 ?_;refine fC 5 F3 ?_;refine fC 2 F3 ?_;refine fC 1 F3 ?_;refine fC 1 F3 ?_;refine fC 3 F3 ?_;refine fC 1 F3 ?_;refine fC 2 F3 ?_;refine fC 1 F3 ?_;refine fL F3 ?_;refine hk40 _ ?_;refine sr0 ?_;refine tS 1 F3 ?_;refine Or.inl ⟨_, eqsh_word_refl ⟨nv, 6, 0⟩, ?_⟩;refine tL F3 ?_;refine hn39 (some ([11,17,18,19,81], none)) _ ?_;refine eCf ?_;refine hn38 (some ([11,17,18,19], none)) _ ?_;refine eO fun _ hk42 => ?_;refine tC 2 F3 ?_;refine tL F3 ?_;refine hk42 _ ?_;refine hn19 _ ?_;refine hn18 (some ([1,17,18,19], none)) _ ?_
      refine eO fun _ hk43 => ?_;refine tC 1 F3 ?_;refine tL F3 ?_;refine hk43 _ ?_;refine hn9 (5 - (i + 1)) (some ([1,17,18,19], some ([], 0))) _ ?_ ?_
      all_goals try refine lp0 ?_
      · omega
      · exact ⟨i + 1, by omega, by omega, by rw [y6]⟩
end Go.Proofs.Ytenbagffdlljdaa

/-
  The arguments of layer 14's laws.
  Layer 14 by shadows: the limit of the laws' inputs.
-/
import Derived.Test.YtkoibcblmgmdmaaGreatDoorArg4
import Derived.Test.YtkoibcblmgmdmaaGreatDoorK14b
import Derived.Test.YtkoibcblmgmdmaaGreatDoorSc14l
import Derived.Test.YtkoibcblmgmdmaaGreatDoorMC
namespace Go.Proofs.YtkoibcblmgmdmaaGreatDoor
set_option linter.unusedSimpArgs false
set_option linter.unusedVariables false
open Go.ChangeShapes Go.WideShapes Go.ChangeAt Go.RowKit Go.Deep Go.Maps

abbrev plI2 : Pl := .cons (.int .i64) (.cons (.int .i64) .nil)
abbrev plI3 : Pl := .cons (.int .i64) (.cons (.int .i64) (.cons (.int .i64) .nil))
abbrev plDoH : Pl := .cons (.int .u8) (.cons (.int .u8) (.cons (.int .i64) .nil))
abbrev plPick : Pl := .cons (.int .i64) (.cons (.int .i64) (.cons (.int .i64) .nil))
abbrev plRun14 : Pl := .cons plI2 (.cons plI3 (.cons (.cons plDoH (.cons plDoH (.cons plDoH .nil))) (.cons (.sl 3 plPick) .nil)))
theorem pl_run14 : planOf Tryz.prog 8 29 = some plRun14 := by kernel_rfl
theorem okd_pick {d : Dt} (h : OkD plPick d) : ∃ x, shP plPick d = ePick x := by
  obtain ⟨_, _, rfl, h1, h⟩ := okd_cons h
  obtain ⟨_, _, rfl, h2, h⟩ := okd_cons h
  obtain ⟨_, _, rfl, h3, h⟩ := okd_cons h
  obtain rfl := okd_nil h
  obtain ⟨a, rfl, a1⟩ := okd_int h1
  obtain ⟨b, rfl, b1⟩ := okd_int h2
  obtain ⟨c, rfl, c1⟩ := okd_int h3
  exact ⟨⟨a, b, c⟩, rfl⟩
theorem okd_picks {d : Dt} (h : OkD (.sl 3 plPick) d) : ∃ ps : List PickV, shP (.sl 3 plPick) d = [.sl 3 2 (ps.map ePick)] ∧ True := by
  obtain ⟨xs, rfl, b1⟩ := okd_sl h
  obtain ⟨ws, e2, b2⟩ := map_shP (Q := fun _ => True) (fun d h => by obtain ⟨x, hx⟩ := okd_pick h; exact ⟨x, hx, trivial⟩) xs b1
  exact ⟨ws, by show [Sh.sl 3 2 (xs.map fun x => shP plPick x)] = _; rw [e2], trivial⟩
structure Run14 where
  a : Int
  b : Int
  h0 : Int
  h1 : Int
  h2 : Int
  d0 : DoH
  d1 : DoH
  d2 : DoH
  picks : List PickV
abbrev cRun14 (r : Run14) : List Sh := [sI r.a, sI r.b, sI r.h0, sI r.h1, sI r.h2, s8h r.d0.kind, s8h r.d0.cell, sI r.d0.n, s8h r.d1.kind, s8h r.d1.cell, sI r.d1.n, s8h r.d2.kind, s8h r.d2.cell, sI r.d2.n, .sl 3 2 (r.picks.map ePick)]
structure Run14In (r : Run14) : Prop where
  d0 : DoInH r.d0
  d1 : DoInH r.d1
  d2 : DoInH r.d2
theorem okd_doH {d : Dt} (h : OkD plDoH d) : ∃ x, shP plDoH d = eDoH x ∧ DoInH x := by
  obtain ⟨_, _, rfl, h1, h⟩ := okd_cons h
  obtain ⟨_, _, rfl, h2, h⟩ := okd_cons h
  obtain ⟨_, _, rfl, h3, h⟩ := okd_cons h
  obtain rfl := okd_nil h
  obtain ⟨a, rfl, a1⟩ := okd_int h1
  obtain ⟨b, rfl, b1⟩ := okd_int h2
  obtain ⟨c, rfl, c1⟩ := okd_int h3
  exact ⟨⟨a, b, c⟩, rfl, a1, b1⟩
theorem okd_run14 {d : Dt} (h : OkD plRun14 d) : ∃ r : Run14, shP plRun14 d = cRun14 r ∧ Run14In r := by
  obtain ⟨c, _, rfl, hc, h⟩ := okd_cons h
  obtain ⟨z, _, rfl, hz, h⟩ := okd_cons h
  obtain ⟨o, _, rfl, ho, h⟩ := okd_cons h
  obtain ⟨p, _, rfl, hp, h⟩ := okd_cons h
  obtain rfl := okd_nil h
  obtain ⟨_, _, rfl, c1, hc⟩ := okd_cons hc
  obtain ⟨_, _, rfl, c2, hc⟩ := okd_cons hc
  obtain rfl := okd_nil hc
  obtain ⟨a, rfl, _⟩ := okd_int c1
  obtain ⟨b, rfl, _⟩ := okd_int c2
  obtain ⟨_, _, rfl, z1, hz⟩ := okd_cons hz
  obtain ⟨_, _, rfl, z2, hz⟩ := okd_cons hz
  obtain ⟨_, _, rfl, z3, hz⟩ := okd_cons hz
  obtain rfl := okd_nil hz
  obtain ⟨h0, rfl, _⟩ := okd_int z1
  obtain ⟨h1, rfl, _⟩ := okd_int z2
  obtain ⟨h2, rfl, _⟩ := okd_int z3
  obtain ⟨o1, _, rfl, q1, ho⟩ := okd_cons ho
  obtain ⟨o2, _, rfl, q2, ho⟩ := okd_cons ho
  obtain ⟨o3, _, rfl, q3, ho⟩ := okd_cons ho
  obtain rfl := okd_nil ho
  obtain ⟨d0, e0, i0⟩ := okd_doH q1
  obtain ⟨d1, e1, i1⟩ := okd_doH q2
  obtain ⟨d2, e2, i2⟩ := okd_doH q3
  obtain ⟨ps, ep, _⟩ := okd_picks hp
  refine ⟨⟨a, b, h0, h1, h2, d0, d1, d2, ps⟩, ?_, i0, i1, i2⟩
  show [sI a, sI b] ++ ([sI h0, sI h1, sI h2] ++ ((shP plDoH o1 ++ (shP plDoH o2 ++ (shP plDoH o3 ++ []))) ++ (shP (.sl 3 plPick) p ++ []))) = _
  rw [e0, e1, e2, ep]
  rfl
end Go.Proofs.YtkoibcblmgmdmaaGreatDoor
namespace Go.Proofs.YtkoibcblmgmdmaaGreatDoor
set_option linter.unusedSimpArgs false
set_option linter.unusedVariables false
open Go.RowKit Go.Maps

def great14 (r : Run14) : Bool := decide ((120 : Int) < (r.picks.length : Int))
theorem ok_l14Great (r : Run14) : Ok 11 [.agg (cRun14 r)] (sB (great14 r)) := by
  refine ok_of_tr Tryz.func11 tr_l14Great rfl ?_
  unfold great14
  unfold evFn sc_l14Great rv_l14Great
  refine eS fun K1 hn1 hr1 he1 => ?_
  refine eO fun K2 hk2 => ?_
  refine tL0 ?_
  refine hk2 _ ?_
  refine hn1 (some ([1], none)) _ ?_
  refine eS fun K3 hn3 hr3 he3 => ?_
  refine eO fun K4 hk4 => ?_
  refine tC0 2 ?_
  refine tC0 2 ?_
  refine tL0 ?_
  refine hk4 _ ?_
  refine hn3 (some ([2], none)) _ ?_
  exact sf0
end Go.Proofs.YtkoibcblmgmdmaaGreatDoor

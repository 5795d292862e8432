/-
  Layer 14 by shadows: what makes codes and tells of them; the laws' plan and codes.
-/
import Derived.Test.YtkoibcblmgmdmaaGreatDoorK14p
import Derived.Test.YtkoibcblmgmdmaaGreatDoorSc14l
import Derived.Test.YtkoibcblmgmdmaaGreatDoorMC
namespace Go.Proofs.YtkoibcblmgmdmaaGreatDoor
set_option linter.unusedSimpArgs false
set_option linter.unusedVariables false
open Go.RowKit Go.Maps
def wrongH (l : LayV) (t : Int) : Int := if checkL l = 0 then (if t < 1 ∨ l.threads < t then 3 else 0) else 1
set_option maxHeartbeats 1000000 in
theorem ok_hzWrong (l : LayV) (t : Int) : Ok 99 [.agg (eLay l), sI t] (sI (wrongH l t)) := by
  refine ok_of_tr Tryz.func99 tr_hzWrong rfl ?_
  have k0 := ok_layCheck l
  unfold wrongH
  by_cases h : checkL l = 0
  case neg =>
    rw [if_neg h]
    have d : (checkL l != 0) = true := by simpa using h
    generalize checkL l = e at k0 d
    unfold evFn sc_hzWrong rv_hzWrong
    have F1 := @d
    refine eS fun K1 hn1 hr1 he1 => ?_;refine eO fun K2 hk2 => ?_;refine tL F1 ?_;refine hk2 _ ?_;refine hn1 (some ([1,2], none)) _ ?_;refine eS fun K3 hn3 hr3 he3 => ?_;refine eB fun K4 hn4 hx4 hr4 he4 => ?_;refine eS fun K5 hn5 hr5 he5 => ?_;refine eO fun K6 hk6 => ?_;refine tC 1 F1 ?_;refine tS 1 F1 ?_;refine Or.inl (Or.inl ⟨_, k0, ?_⟩);refine tC 1 F1 ?_;refine tL F1 ?_;refine hk6 _ ?_;refine hn5 (some ([1,2,5], none)) _ ?_;refine eCt ?_;refine eS fun K7 hn7 hr7 he7 => ?_;refine eO fun K8 hk8 => ?_;refine tL F1 ?_;refine hk8 _ ?_;refine hn7 (some ([4], none)) _ ?_;refine hr4 _ ?_;refine hr3 _ ?_
    exact sf1 F1
  rw [if_pos h]
  rw [h] at k0
  by_cases h1 : t < 1
  · rw [if_pos (.inl h1)]
    unfold evFn sc_hzWrong rv_hzWrong
    have F1 := @h1
    refine eS fun K1 hn1 hr1 he1 => ?_;refine eO fun K2 hk2 => ?_;refine tL F1 ?_;refine hk2 _ ?_;refine hn1 (some ([1,2], none)) _ ?_;refine eS fun K3 hn3 hr3 he3 => ?_;refine eB fun K4 hn4 hx4 hr4 he4 => ?_;refine eS fun K5 hn5 hr5 he5 => ?_;refine eO fun K6 hk6 => ?_;refine tC 1 F1 ?_;refine tS 1 F1 ?_;refine Or.inl (Or.inl ⟨_, k0, ?_⟩);refine tC 1 F1 ?_;refine tL F1 ?_;refine hk6 _ ?_;refine hn5 (some ([1,2,5], none)) _ ?_;refine eCf ?_;refine eS fun K7 hn7 hr7 he7 => ?_;refine eO fun K8 hk8 => ?_;refine tC 2 F1 ?_;refine tC 4 F1 ?_;refine tC 1 F1 ?_;refine tL F1 ?_;refine hk8 _ ?_;refine hn7 (some ([9], none)) _ ?_;refine eCt ?_;refine eS fun K9 hn9 hr9 he9 => ?_;refine eO fun K10 hk10 => ?_;refine tL F1 ?_;refine hk10 _ ?_;refine hn9 (some ([4], none)) _ ?_;refine hr4 _ ?_;refine hr3 _ ?_
    exact sf1 F1
  by_cases h2 : l.threads < t
  · rw [if_pos (.inr h2)]
    unfold evFn sc_hzWrong rv_hzWrong
    have F1 := And.intro @h1 @h2
    refine eS fun K1 hn1 hr1 he1 => ?_;refine eO fun K2 hk2 => ?_;refine tL F1 ?_;refine hk2 _ ?_;refine hn1 (some ([1,2], none)) _ ?_;refine eS fun K3 hn3 hr3 he3 => ?_;refine eB fun K4 hn4 hx4 hr4 he4 => ?_;refine eS fun K5 hn5 hr5 he5 => ?_;refine eO fun K6 hk6 => ?_;refine tC 1 F1 ?_;refine tS 1 F1 ?_;refine Or.inl (Or.inl ⟨_, k0, ?_⟩);refine tC 1 F1 ?_;refine tL F1 ?_;refine hk6 _ ?_;refine hn5 (some ([1,2,5], none)) _ ?_;refine eCf ?_;refine eS fun K7 hn7 hr7 he7 => ?_;refine eO fun K8 hk8 => ?_;refine tC 2 F1 ?_;refine tC 4 F1 ?_;refine tC 1 F1 ?_;refine tL F1 ?_;refine hk8 _ ?_;refine hn7 (some ([9], none)) _ ?_;refine eCt ?_;refine eS fun K9 hn9 hr9 he9 => ?_;refine eO fun K10 hk10 => ?_;refine tL F1 ?_;refine hk10 _ ?_;refine hn9 (some ([4], none)) _ ?_;refine hr4 _ ?_;refine hr3 _ ?_
    exact sf1 F1
  · rw [if_neg (by omega)]
    unfold evFn sc_hzWrong rv_hzWrong
    have F1 := And.intro @h1 @h2
    refine eS fun K1 hn1 hr1 he1 => ?_;refine eO fun K2 hk2 => ?_;refine tL F1 ?_;refine hk2 _ ?_;refine hn1 (some ([1,2], none)) _ ?_;refine eS fun K3 hn3 hr3 he3 => ?_;refine eB fun K4 hn4 hx4 hr4 he4 => ?_;refine eS fun K5 hn5 hr5 he5 => ?_;refine eO fun K6 hk6 => ?_;refine tC 1 F1 ?_;refine tS 1 F1 ?_;refine Or.inl (Or.inl ⟨_, k0, ?_⟩);refine tC 1 F1 ?_;refine tL F1 ?_;refine hk6 _ ?_;refine hn5 (some ([1,2,5], none)) _ ?_;refine eCf ?_;refine eS fun K7 hn7 hr7 he7 => ?_;refine eO fun K8 hk8 => ?_;refine tC 2 F1 ?_;refine tC 4 F1 ?_;refine tC 1 F1 ?_;refine tL F1 ?_;refine hk8 _ ?_;refine hn7 (some ([9], none)) _ ?_;refine eCf ?_;refine hn4 _ ?_;refine hn3 (some ([], none)) _ ?_;refine eS fun K9 hn9 hr9 he9 => ?_;refine eO fun K10 hk10 => ?_;refine tL F1 ?_;refine hk10 _ ?_;refine hn9 (some ([4], none)) _ ?_
    exact sf1 F1
def hazT (l : LayV) (t : Int) : Int := atL l 1 (IntKind.i64.wrap (t - 1)) 1
def protE (l : LayV) (t at' : Int) : Int := if wrongH l t = 0 then (if at' < 0 ∨ sizeofL l ≤ at' then 3 else 0) else wrongH l t
abbrev eMadeH (s : Sh) (e : Int) : Sh := .tup [if e = 0 then s else .v .nilIface, sI e]
set_option maxHeartbeats 1000000 in
theorem ok_hzProtect (l : LayV) (t at' : Int) : Ok 78 [.agg (eLay l), sI t, sI at'] (eMadeH (hzEnc (.prot ⟨at', hazT l t, zWord, false, .begin⟩)) (protE l t at')) := by
  refine ok_of_tr Tryz.func78 tr_hzProtect rfl ?_
  have k0 := ok_hzWrong l t
  have k1 := ok_laySize l
  have k2 := ok_layHaz l t
  unfold protE eMadeH
  by_cases h : wrongH l t = 0
  case neg =>
    rw [if_neg h, if_neg h]
    have d : (wrongH l t != 0) = true := by simpa using h
    generalize wrongH l t = e at k0 d
    unfold evFn sc_hzProtect rv_hzProtect
    have F1 := @d
    refine eS fun K1 hn1 hr1 he1 => ?_;refine eO fun K2 hk2 => ?_;refine tL F1 ?_;refine hk2 _ ?_;refine hn1 (some ([1,2,3], none)) _ ?_;refine eS fun K3 hn3 hr3 he3 => ?_;refine eS fun K4 hn4 hr4 he4 => ?_;refine eO fun K5 hk5 => ?_;refine tC 1 F1 ?_;refine tS 1 F1 ?_;refine tS 1 F1 ?_;refine Or.inl (Or.inl ⟨_, k0, ?_⟩);refine tL F1 ?_;refine hk5 _ ?_;refine hn4 (some ([1,2,3,8], none)) _ ?_;refine eS fun K6 hn6 hr6 he6 => ?_;refine eO fun K7 hk7 => ?_;refine tZ F1 ?_;refine hk7 _ ?_;refine hn6 (some ([1,2,3,8,13], none)) _ ?_;refine eCt ?_;refine eS fun K8 hn8 hr8 he8 => ?_;refine eO fun K9 hk9 => ?_;refine tL F1 ?_;refine hk9 _ ?_;refine hn8 (some ([6,7], none)) _ ?_;refine hr3 _ ?_
    exact sf1 F1
  rw [if_pos h]
  rw [h] at k0
  by_cases h1 : at' < 0
  · have e9 : (if at' < 0 ∨ sizeofL l ≤ at' then (3 : Int) else 0) = 3 := if_pos (.inl h1)
    rw [e9, if_neg (by decide)]
    unfold evFn sc_hzProtect rv_hzProtect
    have F1 := @h1
    refine eS fun K1 hn1 hr1 he1 => ?_;refine eO fun K2 hk2 => ?_;refine tL F1 ?_;refine hk2 _ ?_;refine hn1 (some ([1,2,3], none)) _ ?_;refine eS fun K3 hn3 hr3 he3 => ?_;refine eS fun K4 hn4 hr4 he4 => ?_;refine eO fun K5 hk5 => ?_;refine tC 1 F1 ?_;refine tS 1 F1 ?_;refine tS 1 F1 ?_;refine Or.inl (Or.inl ⟨_, k0, ?_⟩);refine tL F1 ?_;refine hk5 _ ?_;refine hn4 (some ([1,2,3,8], none)) _ ?_;refine eS fun K6 hn6 hr6 he6 => ?_;refine eO fun K7 hk7 => ?_;refine tZ F1 ?_;refine hk7 _ ?_;refine hn6 (some ([1,2,3,8,13], none)) _ ?_;refine eCf ?_;refine hn3 (some ([1,2,3], none)) _ ?_;refine eS fun K8 hn8 hr8 he8 => ?_;refine eS fun K9 hn9 hr9 he9 => ?_;refine eO fun K10 hk10 => ?_;refine tC 2 F1 ?_;refine tC 3 F1 ?_;refine tS 1 F1 ?_
    skip
    refine tC 1 F1 ?_;refine tL F1 ?_;refine hk10 _ ?_;refine hn9 (some ([1,2,3,22], none)) _ ?_;refine eCt ?_;refine eS fun K11 hn11 hr11 he11 => ?_;refine eO fun K12 hk12 => ?_;refine tL F1 ?_;refine hk12 _ ?_;refine hn11 (some ([6,7], none)) _ ?_;refine hr8 _ ?_
    exact sf1 F1
  by_cases h2 : sizeofL l ≤ at'
  · have e9 : (if at' < 0 ∨ sizeofL l ≤ at' then (3 : Int) else 0) = 3 := if_pos (.inr h2)
    rw [e9, if_neg (by decide)]
    unfold evFn sc_hzProtect rv_hzProtect
    have F1 := And.intro @h1 @h2
    refine eS fun K1 hn1 hr1 he1 => ?_;refine eO fun K2 hk2 => ?_;refine tL F1 ?_;refine hk2 _ ?_;refine hn1 (some ([1,2,3], none)) _ ?_;refine eS fun K3 hn3 hr3 he3 => ?_;refine eS fun K4 hn4 hr4 he4 => ?_;refine eO fun K5 hk5 => ?_;refine tC 1 F1 ?_;refine tS 1 F1 ?_;refine tS 1 F1 ?_;refine Or.inl (Or.inl ⟨_, k0, ?_⟩);refine tL F1 ?_;refine hk5 _ ?_;refine hn4 (some ([1,2,3,8], none)) _ ?_;refine eS fun K6 hn6 hr6 he6 => ?_;refine eO fun K7 hk7 => ?_;refine tZ F1 ?_;refine hk7 _ ?_;refine hn6 (some ([1,2,3,8,13], none)) _ ?_;refine eCf ?_;refine hn3 (some ([1,2,3], none)) _ ?_;refine eS fun K8 hn8 hr8 he8 => ?_;refine eS fun K9 hn9 hr9 he9 => ?_;refine eO fun K10 hk10 => ?_;refine tC 2 F1 ?_;refine tC 3 F1 ?_;refine tS 1 F1 ?_;refine Or.inl (Or.inl ⟨_, k1, ?_⟩);refine tC 1 F1 ?_;refine tL F1 ?_;refine hk10 _ ?_;refine hn9 (some ([1,2,3,22], none)) _ ?_;refine eCt ?_;refine eS fun K11 hn11 hr11 he11 => ?_
    refine eO fun K12 hk12 => ?_;refine tL F1 ?_;refine hk12 _ ?_;refine hn11 (some ([6,7], none)) _ ?_;refine hr8 _ ?_
    exact sf1 F1
  · have e9 : (if at' < 0 ∨ sizeofL l ≤ at' then (3 : Int) else 0) = 0 := if_neg (by omega)
    rw [e9, if_pos rfl]
    unfold evFn sc_hzProtect rv_hzProtect
    have F1 := And.intro @h1 @h2
    refine eS fun K1 hn1 hr1 he1 => ?_;refine eO fun K2 hk2 => ?_;refine tL F1 ?_;refine hk2 _ ?_;refine hn1 (some ([1,2,3], none)) _ ?_;refine eS fun K3 hn3 hr3 he3 => ?_;refine eS fun K4 hn4 hr4 he4 => ?_;refine eO fun K5 hk5 => ?_;refine tC 1 F1 ?_;refine tS 1 F1 ?_;refine tS 1 F1 ?_;refine Or.inl (Or.inl ⟨_, k0, ?_⟩);refine tL F1 ?_;refine hk5 _ ?_;refine hn4 (some ([1,2,3,8], none)) _ ?_;refine eS fun K6 hn6 hr6 he6 => ?_;refine eO fun K7 hk7 => ?_;refine tZ F1 ?_;refine hk7 _ ?_;refine hn6 (some ([1,2,3,8,13], none)) _ ?_;refine eCf ?_;refine hn3 (some ([1,2,3], none)) _ ?_;refine eS fun K8 hn8 hr8 he8 => ?_;refine eS fun K9 hn9 hr9 he9 => ?_;refine eO fun K10 hk10 => ?_;refine tC 2 F1 ?_;refine tC 3 F1 ?_;refine tS 1 F1 ?_;refine Or.inl (Or.inl ⟨_, k1, ?_⟩);refine tC 1 F1 ?_;refine tL F1 ?_;refine hk10 _ ?_;refine hn9 (some ([1,2,3,22], none)) _ ?_;refine eCf ?_;refine hn8 (some ([1,2,3], none)) _ ?_
    refine eS fun K11 hn11 hr11 he11 => ?_;refine eO fun K12 hk12 => ?_;refine tC 2 F1 ?_;refine tS 1 F1 ?_;refine tS 1 F1 ?_;refine Or.inl (Or.inl ⟨_, k2, ?_⟩);refine tL F1 ?_;refine hk12 _ ?_;refine hn11 (some ([6,7], none)) _ ?_;refine sg1 F1 ?_
    rfl
theorem ok_hzClear (l : LayV) (t : Int) : Ok 79 [.agg (eLay l), sI t] (eMadeH (hzEnc (.clr ⟨hazT l t, 0⟩)) (wrongH l t)) := by
  refine ok_of_tr Tryz.func79 tr_hzClear rfl ?_
  have k0 := ok_hzWrong l t
  have k2 := ok_layHaz l t
  unfold eMadeH
  by_cases h : wrongH l t = 0
  case neg =>
    rw [if_neg h]
    have d : (wrongH l t != 0) = true := by simpa using h
    generalize wrongH l t = e at k0 d
    unfold evFn sc_hzClear rv_hzClear
    have F1 := @d
    refine eS fun K1 hn1 hr1 he1 => ?_;refine eO fun K2 hk2 => ?_;refine tL F1 ?_;refine hk2 _ ?_;refine hn1 (some ([1,2], none)) _ ?_;refine eS fun K3 hn3 hr3 he3 => ?_;refine eS fun K4 hn4 hr4 he4 => ?_;refine eO fun K5 hk5 => ?_;refine tC 1 F1 ?_;refine tS 1 F1 ?_;refine tS 1 F1 ?_;refine Or.inl (Or.inl ⟨_, k0, ?_⟩);refine tL F1 ?_;refine hk5 _ ?_;refine hn4 (some ([1,2,6], none)) _ ?_;refine eS fun K6 hn6 hr6 he6 => ?_;refine eO fun K7 hk7 => ?_;refine tZ F1 ?_;refine hk7 _ ?_;refine hn6 (some ([1,2,6,11], none)) _ ?_;refine eCt ?_;refine eS fun K8 hn8 hr8 he8 => ?_;refine eO fun K9 hk9 => ?_;refine tL F1 ?_;refine hk9 _ ?_;refine hn8 (some ([4,5], none)) _ ?_;refine hr3 _ ?_
    exact sf1 F1
  rw [if_pos h]
  rw [h] at k0 ⊢
  unfold evFn sc_hzClear rv_hzClear
  refine eS fun K1 hn1 hr1 he1 => ?_;refine eO fun K2 hk2 => ?_;refine tL0 ?_;refine hk2 _ ?_;refine hn1 (some ([1,2], none)) _ ?_;refine eS fun K3 hn3 hr3 he3 => ?_;refine eS fun K4 hn4 hr4 he4 => ?_;refine eO fun K5 hk5 => ?_;refine tC0 1 ?_;refine tS0 1 ?_;refine tS0 1 ?_;refine Or.inl (Or.inl ⟨_, k0, ?_⟩);refine tL0 ?_;refine hk5 _ ?_;refine hn4 (some ([1,2,6], none)) _ ?_;refine eS fun K6 hn6 hr6 he6 => ?_;refine eO fun K7 hk7 => ?_;refine tZ0 ?_;refine hk7 _ ?_;refine hn6 (some ([1,2,6,11], none)) _ ?_;refine eCf ?_;refine hn3 (some ([1,2], none)) _ ?_;refine eS fun K8 hn8 hr8 he8 => ?_;refine eO fun K9 hk9 => ?_;refine tC0 1 ?_;refine tS0 1 ?_;refine tS0 1 ?_;refine Or.inl (Or.inl ⟨_, k2, ?_⟩);refine tL0 ?_;refine hk9 _ ?_;refine hn8 (some ([4,5], none)) _ ?_;refine sg0 ?_
  rfl
theorem ok_hzScan (l : LayV) : Ok 80 [.agg (eLay l)] (eMadeH (hzEnc (.scan ⟨l, 0, [], false⟩)) (if checkL l = 0 then 0 else 1)) := by
  refine ok_of_tr Tryz.func80 tr_hzScan rfl ?_
  have k0 := ok_layCheck l
  unfold eMadeH
  by_cases h : checkL l = 0
  case neg =>
    rw [if_neg h, if_neg (by decide)]
    have d : (checkL l != 0) = true := by simpa using h
    generalize checkL l = e at k0 d
    unfold evFn sc_hzScan rv_hzScan
    have F1 := @d
    refine eS fun K1 hn1 hr1 he1 => ?_;refine eO fun K2 hk2 => ?_;refine tL F1 ?_;refine hk2 _ ?_;refine hn1 (some ([1], none)) _ ?_;refine eS fun K3 hn3 hr3 he3 => ?_;refine eS fun K4 hn4 hr4 he4 => ?_;refine eO fun K5 hk5 => ?_;refine tC 1 F1 ?_;refine tS 1 F1 ?_;refine Or.inl (Or.inl ⟨_, k0, ?_⟩);refine tZ F1 ?_;refine hk5 _ ?_;refine hn4 (some ([1,6], none)) _ ?_;refine eCt ?_;refine eS fun K6 hn6 hr6 he6 => ?_;refine eO fun K7 hk7 => ?_;refine tL F1 ?_;refine hk7 _ ?_;refine hn6 (some ([2,3], none)) _ ?_;refine hr3 _ ?_
    exact sf1 F1
  rw [if_pos h, if_pos rfl]
  rw [h] at k0
  unfold evFn sc_hzScan rv_hzScan
  refine eS fun K1 hn1 hr1 he1 => ?_;refine eO fun K2 hk2 => ?_;refine tL0 ?_;refine hk2 _ ?_;refine hn1 (some ([1], none)) _ ?_;refine eS fun K3 hn3 hr3 he3 => ?_;refine eS fun K4 hn4 hr4 he4 => ?_;refine eO fun K5 hk5 => ?_;refine tC0 1 ?_;refine tS0 1 ?_;refine Or.inl (Or.inl ⟨_, k0, ?_⟩);refine tZ0 ?_;refine hk5 _ ?_;refine hn4 (some ([1,6], none)) _ ?_;refine eCf ?_;refine hn3 (some ([1], none)) _ ?_;refine eS fun K6 hn6 hr6 he6 => ?_;refine eO fun K7 hk7 => ?_;refine tC0 1 ?_;refine tL0 ?_;refine hk7 _ ?_;refine hn6 (some ([2,3], none)) _ ?_;refine sg0 ?_
  rfl
def wordH : HzV → WordV × Bool
  | .prot s => if s.fin = true then (s.word, true) else (zWord, false)
  | _ => (zWord, false)
def heldH : HzV → Option (List Int)
  | .scan s => if s.fin = true then some s.held else none
  | _ => none
abbrev eWordH (r : WordV × Bool) : Sh := .tup [.agg (eWord r.1), sB r.2]
abbrev eHeldH : Option (List Int) → Sh
  | some l => .tup [.sl 1 0 (l.map eH1), sB true]
  | none => .tup [.v (.slice none 0 0), sB false]
theorem infoProt : (Tryz.prog.info? 135).map (fun i => (i.zero, i.size, i.bytes)) = some (some (.agg #[.int .i64 0, .int .i64 0, .nilFunc, .int .i64 0, .int .u32 0, .int .u32 0, .bool false]), 7, 48) := by kernel_rfl
theorem infoScan : (Tryz.prog.info? 132).map (fun i => (i.zero, i.size, i.bytes)) = some (some (.agg #[.int .i64 0, .int .i64 0, .int .i64 0, .int .i64 0, .slice none 0 0, .bool false]), 6, 64) := by kernel_rfl
abbrev zP : Sh := .agg [sI 0, sI 0, .v .nilFunc, sI 0, sU 0, sU 0, sB false]
abbrev zS : Sh := .agg [sI 0, sI 0, sI 0, sI 0, .v (.slice none 0 0), sB false]
theorem plain_rep {H : Hp} {E : Env} : ∀ {vs : List Value}, (vs.all Value.oneCell') = true → RepL H E (vs.map Sh.v) vs
  | [], _ => .nil
  | v :: vs, h => by
    rw [List.all_cons, Bool.and_eq_true] at h
    exact .cons (.v h.1) (plain_rep h.2)
theorem zP_rep (H : Hp) : Rep H E0 zP (.agg #[.int .i64 0, .int .i64 0, .nilFunc, .int .i64 0, .int .u32 0, .int .u32 0, .bool false]) :=
  Rep.agg (plain_rep (vs := [.int .i64 0, .int .i64 0, .nilFunc, .int .i64 0, .int .u32 0, .int .u32 0, .bool false]) rfl) rfl
theorem zP_run (w : World) : (zeroValue 135).run Tryz.prog w = .ok (.agg #[.int .i64 0, .int .i64 0, .nilFunc, .int .i64 0, .int .u32 0, .int .u32 0, .bool false]) w := by
  obtain ⟨i, hi, hz, _⟩ := info_parts infoProt
  exact run_zero hi hz w
theorem zS_rep (H : Hp) : Rep H E0 zS (.agg #[.int .i64 0, .int .i64 0, .int .i64 0, .int .i64 0, .slice none 0 0, .bool false]) :=
  Rep.agg (plain_rep (vs := [.int .i64 0, .int .i64 0, .int .i64 0, .int .i64 0, .slice none 0 0, .bool false]) rfl) rfl
theorem zS_run (w : World) : (zeroValue 132).run Tryz.prog w = .ok (.agg #[.int .i64 0, .int .i64 0, .int .i64 0, .int .i64 0, .slice none 0 0, .bool false]) w := by
  obtain ⟨i, hi, hz, _⟩ := info_parts infoScan
  exact run_zero hi hz w
theorem ok_hzWord (s : HzV) : Ok 24 [hzEnc s] (eWordH (wordH s)) := by
  refine ok_of_tr Tryz.func24 tr_hzWord rfl ?_
  cases s with
  | prot s =>
    obtain ⟨loc, own, ⟨v, r, f⟩, dn, pos⟩ := s
    cases dn
    · change evFn sc_hzWord rv_hzWord [.ifc 135 (.agg [sI loc, sI own, shP14 pos, sI v, sU r, sU f, sB false])] (.tup [.agg [sI 0, sU 0, sU 0], sB false])
      unfold evFn sc_hzWord rv_hzWord
      refine eS fun K1 hn1 hr1 he1 => ?_;refine eO fun K2 hk2 => ?_;refine tL0 ?_;refine hk2 _ ?_;refine hn1 (some ([0,2], none)) _ ?_;refine eS fun K3 hn3 hr3 he3 => ?_;refine eS fun K4 hn4 hr4 he4 => ?_;refine eO fun K5 hk5 => ?_;refine tL0 ?_;refine hk5 _ ?_;refine hn4 (some ([2,5], none)) _ ?_;refine eB fun K6 hn6 hx6 hr6 he6 => ?_;refine eS fun K7 hn7 hr7 he7 => ?_;refine eO fun K8 hk8 => ?_;refine tS0 1 ?_;refine ⟨_, gen_asr_yes Tryz.underlying135 rfl, ?_⟩;refine tL0 ?_;refine hk8 _ ?_;refine hn7 (some ([2,7,8], none)) _ ?_;refine eCt ?_;refine eS fun K9 hn9 hr9 he9 => ?_;refine eO fun K10 hk10 => ?_;refine tZ0 ?_;refine hk10 _ ?_;refine hn9 (some ([2,4], none)) _ ?_;refine eS fun K11 hn11 hr11 he11 => ?_;refine eO fun K12 hk12 => ?_;refine tZ0 ?_;refine hk12 _ ?_;refine hn11 (some ([2,4,10], none)) _ ?_;refine eCf ?_;refine hn6 _ ?_;refine hn3 (some ([2], none)) _ ?_;refine eS fun K13 hn13 hr13 he13 => ?_
      refine eO fun K14 hk14 => ?_;refine tC0 2 ?_;refine tL0 ?_;refine hk14 _ ?_;refine hn13 (some ([2,3], none)) _ ?_
      exact sf0
    · change evFn sc_hzWord rv_hzWord [.ifc 135 (.agg [sI loc, sI own, shP14 pos, sI v, sU r, sU f, sB true])] (.tup [.agg [sI v, sU r, sU f], sB true])
      unfold evFn sc_hzWord rv_hzWord
      refine eS fun K1 hn1 hr1 he1 => ?_;refine eO fun K2 hk2 => ?_;refine tL0 ?_;refine hk2 _ ?_;refine hn1 (some ([0,2], none)) _ ?_;refine eS fun K3 hn3 hr3 he3 => ?_;refine eS fun K4 hn4 hr4 he4 => ?_;refine eO fun K5 hk5 => ?_;refine tL0 ?_;refine hk5 _ ?_;refine hn4 (some ([2,5], none)) _ ?_;refine eB fun K6 hn6 hx6 hr6 he6 => ?_;refine eS fun K7 hn7 hr7 he7 => ?_;refine eO fun K8 hk8 => ?_;refine tS0 1 ?_;refine ⟨_, gen_asr_yes Tryz.underlying135 rfl, ?_⟩;refine tL0 ?_;refine hk8 _ ?_;refine hn7 (some ([2,7,8], none)) _ ?_;refine eCt ?_;refine eS fun K9 hn9 hr9 he9 => ?_;refine eO fun K10 hk10 => ?_;refine tZ0 ?_;refine hk10 _ ?_;refine hn9 (some ([2,4], none)) _ ?_;refine eS fun K11 hn11 hr11 he11 => ?_;refine eO fun K12 hk12 => ?_;refine tZ0 ?_;refine hk12 _ ?_;refine hn11 (some ([2,4,10], none)) _ ?_;refine eCt ?_;refine eS fun K13 hn13 hr13 he13 => ?_;refine eO fun K14 hk14 => ?_
      refine tC0 2 ?_;refine tC0 1 ?_;refine tL0 ?_;refine hk14 _ ?_;refine hn13 (some ([2,3], none)) _ ?_;refine hr6 _ ?_;refine hr3 _ ?_
      exact sf0
  | clr s =>
    unfold wordH hzEnc
    unfold evFn sc_hzWord rv_hzWord
    refine eS fun K1 hn1 hr1 he1 => ?_;refine eO fun K2 hk2 => ?_;refine tL0 ?_;refine hk2 _ ?_;refine hn1 (some ([0,2], none)) _ ?_;refine eS fun K3 hn3 hr3 he3 => ?_;refine eS fun K4 hn4 hr4 he4 => ?_;refine eO fun K5 hk5 => ?_;refine tL0 ?_;refine hk5 _ ?_;refine hn4 (some ([2,5], none)) _ ?_;refine eB fun K6 hn6 hx6 hr6 he6 => ?_;refine eS fun K7 hn7 hr7 he7 => ?_;refine eO fun K8 hk8 => ?_;refine tS0 1 ?_;refine ⟨_, gen_asr_no Tryz.underlying135 rfl (by decide) zP_run zP_rep, ?_⟩;refine tL0 ?_;refine hk8 _ ?_;refine hn7 (some ([2,7,8], none)) _ ?_;refine eCf ?_;refine hn6 _ ?_;refine hn3 (some ([2], none)) _ ?_;refine eS fun K9 hn9 hr9 he9 => ?_;refine eO fun K10 hk10 => ?_;refine tC0 2 ?_;refine tL0 ?_;refine hk10 _ ?_;refine hn9 (some ([2,3], none)) _ ?_;refine sg0 ?_
    rfl
  | scan s =>
    unfold wordH hzEnc
    unfold evFn sc_hzWord rv_hzWord
    refine eS fun K1 hn1 hr1 he1 => ?_;refine eO fun K2 hk2 => ?_;refine tL0 ?_;refine hk2 _ ?_;refine hn1 (some ([0,2], none)) _ ?_;refine eS fun K3 hn3 hr3 he3 => ?_;refine eS fun K4 hn4 hr4 he4 => ?_;refine eO fun K5 hk5 => ?_;refine tL0 ?_;refine hk5 _ ?_;refine hn4 (some ([2,5], none)) _ ?_;refine eB fun K6 hn6 hx6 hr6 he6 => ?_;refine eS fun K7 hn7 hr7 he7 => ?_;refine eO fun K8 hk8 => ?_;refine tS0 1 ?_;refine ⟨_, gen_asr_no Tryz.underlying135 rfl (by decide) zP_run zP_rep, ?_⟩;refine tL0 ?_;refine hk8 _ ?_;refine hn7 (some ([2,7,8], none)) _ ?_;refine eCf ?_;refine hn6 _ ?_;refine hn3 (some ([2], none)) _ ?_;refine eS fun K9 hn9 hr9 he9 => ?_;refine eO fun K10 hk10 => ?_;refine tC0 2 ?_;refine tL0 ?_;refine hk10 _ ?_;refine hn9 (some ([2,3], none)) _ ?_;refine sg0 ?_
    rfl
  | put s =>
    unfold wordH hzEnc
    unfold evFn sc_hzWord rv_hzWord
    refine eS fun K1 hn1 hr1 he1 => ?_;refine eO fun K2 hk2 => ?_;refine tL0 ?_;refine hk2 _ ?_;refine hn1 (some ([0,2], none)) _ ?_;refine eS fun K3 hn3 hr3 he3 => ?_;refine eS fun K4 hn4 hr4 he4 => ?_;refine eO fun K5 hk5 => ?_;refine tL0 ?_;refine hk5 _ ?_;refine hn4 (some ([2,5], none)) _ ?_;refine eB fun K6 hn6 hx6 hr6 he6 => ?_;refine eS fun K7 hn7 hr7 he7 => ?_;refine eO fun K8 hk8 => ?_;refine tS0 1 ?_;refine ⟨_, gen_asr_no Tryz.underlying135 rfl (by decide) zP_run zP_rep, ?_⟩;refine tL0 ?_;refine hk8 _ ?_;refine hn7 (some ([2,7,8], none)) _ ?_;refine eCf ?_;refine hn6 _ ?_;refine hn3 (some ([2], none)) _ ?_;refine eS fun K9 hn9 hr9 he9 => ?_;refine eO fun K10 hk10 => ?_;refine tC0 2 ?_;refine tL0 ?_;refine hk10 _ ?_;refine hn9 (some ([2,3], none)) _ ?_;refine sg0 ?_
    rfl
theorem ok_hzHeld (s : HzV) (hl : ∀ x, s = .scan x → x.held.length ≤ 1000) : Ok 20 [hzEnc s] (eHeldH (heldH s)) := by
  refine ok_of_tr Tryz.func20 tr_hzHeld rfl ?_
  cases s with
  | scan s =>
    have hl := hl s rfl
    obtain ⟨⟨lt, lc, lb⟩, nxt, held, dn⟩ := s
    simp only at hl
    have q1 : held.length ≤ 1000000 := by omega
    have q2 : held.length * 8 ≤ 140737488355328 := by omega
    cases dn
    · change evFn sc_hzHeld rv_hzHeld [.ifc 132 (.agg [sI lt, sI lc, sI lb, sI nxt, .sl 1 0 (held.map eH1), sB false])] (.tup [.v (.slice none 0 0), sB false])
      unfold evFn sc_hzHeld rv_hzHeld
      refine eS fun K1 hn1 hr1 he1 => ?_;refine eO fun K2 hk2 => ?_;refine tL0 ?_;refine hk2 _ ?_;refine hn1 (some ([0], none)) _ ?_;refine eS fun K3 hn3 hr3 he3 => ?_;refine eS fun K4 hn4 hr4 he4 => ?_;refine eO fun K5 hk5 => ?_;refine tL0 ?_;refine hk5 _ ?_;refine hn4 (some ([5], none)) _ ?_;refine eB fun K6 hn6 hx6 hr6 he6 => ?_;refine eS fun K7 hn7 hr7 he7 => ?_;refine eO fun K8 hk8 => ?_;refine tS0 1 ?_;refine ⟨_, gen_asr_yes Tryz.underlying132 rfl, ?_⟩;refine tL0 ?_;refine hk8 _ ?_;refine hn7 (some ([7,8], none)) _ ?_;refine eCt ?_;refine eS fun K9 hn9 hr9 he9 => ?_;refine eO fun K10 hk10 => ?_;refine tZ0 ?_;refine hk10 _ ?_;refine hn9 (some ([4], none)) _ ?_;refine eS fun K11 hn11 hr11 he11 => ?_;refine eO fun K12 hk12 => ?_;refine tZ0 ?_;refine hk12 _ ?_;refine hn11 (some ([4,10], none)) _ ?_;refine eCf ?_;refine hn6 _ ?_;refine hn3 (some ([], none)) _ ?_;refine eS fun K13 hn13 hr13 he13 => ?_
      refine eO fun K14 hk14 => ?_;refine tL0 ?_;refine hk14 _ ?_;refine hn13 (some ([2,3], none)) _ ?_
      exact sf0
    · change evFn sc_hzHeld rv_hzHeld [.ifc 132 (.agg [sI lt, sI lc, sI lb, sI nxt, .sl 1 0 (held.map eH1), sB true])] (.tup [.sl 1 0 (held.map eH1), sB true])
      unfold evFn sc_hzHeld rv_hzHeld
      have F1 := And.intro @q1 @q2
      refine eS fun K1 hn1 hr1 he1 => ?_;refine eO fun K2 hk2 => ?_;refine tL F1 ?_;refine hk2 _ ?_;refine hn1 (some ([0], none)) _ ?_;refine eS fun K3 hn3 hr3 he3 => ?_;refine eS fun K4 hn4 hr4 he4 => ?_;refine eO fun K5 hk5 => ?_;refine tL F1 ?_;refine hk5 _ ?_;refine hn4 (some ([5], none)) _ ?_;refine eB fun K6 hn6 hx6 hr6 he6 => ?_;refine eS fun K7 hn7 hr7 he7 => ?_;refine eO fun K8 hk8 => ?_;refine tS 1 F1 ?_;refine ⟨_, gen_asr_yes Tryz.underlying132 rfl, ?_⟩;refine tL F1 ?_;refine hk8 _ ?_;refine hn7 (some ([7,8], none)) _ ?_;refine eCt ?_;refine eS fun K9 hn9 hr9 he9 => ?_;refine eO fun K10 hk10 => ?_;refine tZ F1 ?_;refine hk10 _ ?_;refine hn9 (some ([4], none)) _ ?_;refine eS fun K11 hn11 hr11 he11 => ?_;refine eO fun K12 hk12 => ?_;refine tZ F1 ?_;refine hk12 _ ?_;refine hn11 (some ([4,10], none)) _ ?_;refine eCt ?_;refine eS fun K13 hn13 hr13 he13 => ?_;refine eO fun K14 hk14 => ?_
      refine tC 1 F1 ?_;refine tC 2 F1 ?_;refine tC 1 F1 ?_;refine tL F1 ?_;refine hk14 _ ?_;refine hn13 (some ([2,3], none)) _ ?_;refine hr6 _ ?_;refine hr3 _ ?_
      exact sf1 F1
  | prot s =>
    unfold heldH hzEnc
    unfold evFn sc_hzHeld rv_hzHeld
    refine eS fun K1 hn1 hr1 he1 => ?_;refine eO fun K2 hk2 => ?_;refine tL0 ?_;refine hk2 _ ?_;refine hn1 (some ([0], none)) _ ?_;refine eS fun K3 hn3 hr3 he3 => ?_;refine eS fun K4 hn4 hr4 he4 => ?_;refine eO fun K5 hk5 => ?_;refine tL0 ?_;refine hk5 _ ?_;refine hn4 (some ([5], none)) _ ?_;refine eB fun K6 hn6 hx6 hr6 he6 => ?_;refine eS fun K7 hn7 hr7 he7 => ?_;refine eO fun K8 hk8 => ?_;refine tS0 1 ?_;refine ⟨_, gen_asr_no Tryz.underlying132 rfl (by decide) zS_run zS_rep, ?_⟩;refine tL0 ?_;refine hk8 _ ?_;refine hn7 (some ([7,8], none)) _ ?_;refine eCf ?_;refine hn6 _ ?_;refine hn3 (some ([], none)) _ ?_;refine eS fun K9 hn9 hr9 he9 => ?_;refine eO fun K10 hk10 => ?_;refine tL0 ?_;refine hk10 _ ?_;refine hn9 (some ([2,3], none)) _ ?_
    exact sf0
  | clr s =>
    unfold heldH hzEnc
    unfold evFn sc_hzHeld rv_hzHeld
    refine eS fun K1 hn1 hr1 he1 => ?_;refine eO fun K2 hk2 => ?_;refine tL0 ?_;refine hk2 _ ?_;refine hn1 (some ([0], none)) _ ?_;refine eS fun K3 hn3 hr3 he3 => ?_;refine eS fun K4 hn4 hr4 he4 => ?_;refine eO fun K5 hk5 => ?_;refine tL0 ?_;refine hk5 _ ?_;refine hn4 (some ([5], none)) _ ?_;refine eB fun K6 hn6 hx6 hr6 he6 => ?_;refine eS fun K7 hn7 hr7 he7 => ?_;refine eO fun K8 hk8 => ?_;refine tS0 1 ?_;refine ⟨_, gen_asr_no Tryz.underlying132 rfl (by decide) zS_run zS_rep, ?_⟩;refine tL0 ?_;refine hk8 _ ?_;refine hn7 (some ([7,8], none)) _ ?_;refine eCf ?_;refine hn6 _ ?_;refine hn3 (some ([], none)) _ ?_;refine eS fun K9 hn9 hr9 he9 => ?_;refine eO fun K10 hk10 => ?_;refine tL0 ?_;refine hk10 _ ?_;refine hn9 (some ([2,3], none)) _ ?_
    exact sf0
  | put s =>
    unfold heldH hzEnc
    unfold evFn sc_hzHeld rv_hzHeld
    refine eS fun K1 hn1 hr1 he1 => ?_;refine eO fun K2 hk2 => ?_;refine tL0 ?_;refine hk2 _ ?_;refine hn1 (some ([0], none)) _ ?_;refine eS fun K3 hn3 hr3 he3 => ?_;refine eS fun K4 hn4 hr4 he4 => ?_;refine eO fun K5 hk5 => ?_;refine tL0 ?_;refine hk5 _ ?_;refine hn4 (some ([5], none)) _ ?_;refine eB fun K6 hn6 hx6 hr6 he6 => ?_;refine eS fun K7 hn7 hr7 he7 => ?_;refine eO fun K8 hk8 => ?_;refine tS0 1 ?_;refine ⟨_, gen_asr_no Tryz.underlying132 rfl (by decide) zS_run zS_rep, ?_⟩;refine tL0 ?_;refine hk8 _ ?_;refine hn7 (some ([7,8], none)) _ ?_;refine eCf ?_;refine hn6 _ ?_;refine hn3 (some ([], none)) _ ?_;refine eS fun K9 hn9 hr9 he9 => ?_;refine eO fun K10 hk10 => ?_;refine tL0 ?_;refine hk10 _ ?_;refine hn9 (some ([2,3], none)) _ ?_
    exact sf0
theorem ok_l14plan : Ok 14 [] (.agg (eLay planH)) := by
  refine ok_of_tr Tryz.func14 tr_l14plan rfl ?_
  unfold evFn sc_l14plan rv_l14plan
  refine eS fun _ hn1 _ _ => ?_;refine eO fun _ hk2 => ?_;refine tL0 ?_;refine hk2 _ ?_;refine hn1 (some ([0], none)) _ ?_;refine eS fun _ hn3 _ _ => ?_;refine eO fun _ hk4 => ?_;refine tZ0 ?_;refine hk4 _ ?_;refine hn3 (some ([0], none)) _ ?_
  exact sf0
abbrev s8h (n : Int) : Sh := .v (.int .u8 n)
abbrev eDoH (d : DoH) : List Sh := [s8h d.kind, s8h d.cell, sI d.n]
structure DoInH (d : DoH) : Prop where
  kind : 0 ≤ d.kind ∧ d.kind ≤ 255
  cell : 0 ≤ d.cell ∧ d.cell ≤ 255
theorem remH {k m r : Int} (h0 : 0 ≤ k ∧ k ≤ 255) (h : k % m = r) : k.tmod m = r := by
  rw [Int.tmod_eq_emod_of_nonneg h0.1, h]
theorem wrong_planH {i : Nat} (hi : i < 3) : wrongH planH ((i : Int) + 1) = 0 := by
  unfold wrongH
  rw [if_pos (by decide), if_neg (by show ¬ ((i : Int) + 1 < 1 ∨ (3 : Int) < (i : Int) + 1); omega)]
theorem haz_planH {i : Nat} (hi : i < 3) : hazT planH ((i : Int) + 1) = hazP i := by
  unfold hazT hazP
  rw [show IntKind.i64.wrap ((i : Int) + 1 - 1) = (i : Int) by rw [IntKind.wrap_i64]; omega]
theorem size_planH : sizeofL planH = 376 := by decide
set_option maxHeartbeats 4000000 in
theorem ok_l14code {i : Nat} (hi : i < 3) (d : DoH) (hd : DoInH d) : Ok 48 [sI ((i : Int) + 1), .agg (eDoH d)] (.tup [hzEnc (codeH i d), sB true]) := by
  refine ok_of_tr Tryz.func48 tr_l14code rfl ?_
  have kp := ok_l14plan
  have hcr := celP_in d
  have hw := wrong_planH hi
  have k1 := ok_layCell planH (d.cell % 2)
  change Ok _ _ (sI (celP d)) at k1
  have k2 := ok_hzProtect planH ((i : Int) + 1) (celP d)
  have k3 := ok_hzClear planH ((i : Int) + 1)
  have k4 := ok_hzScan planH
  have k5 := ok_aNew (opP d)
  unfold protE eMadeH at k2
  unfold eMadeH at k3 k4
  have e9 : (if celP d < 0 ∨ (376 : Int) ≤ celP d then (3 : Int) else 0) = 0 := if_neg (by omega)
  rw [hw, haz_planH hi, if_pos rfl, size_planH, e9, if_pos rfl] at k2
  rw [hw, haz_planH hi, if_pos rfl] at k3
  rw [if_pos (show checkL planH = 0 by decide), if_pos rfl] at k4
  rw [if_pos (show checkA (opP d) = 0 by
    unfold checkA opP
    rw [if_neg (by simp), if_neg (by simp only; omega), if_neg (by simp)])] at k5
  have w2 := remH hd.cell (m := 2) rfl
  have w3 : IntKind.i64.wrap (d.cell % 2) = d.cell % 2 := by rw [IntKind.wrap_i64]; omega
  obtain ⟨kind, cell, n⟩ := d
  simp only at w2 w3 k1
  have hc : kind % 4 = 0 ∨ kind % 4 = 1 ∨ kind % 4 = 2 ∨ kind % 4 = 3 := by omega
  have hkd := hd.kind
  simp only at hkd
  unfold codeH
  simp only
  generalize hP : celP ⟨kind, cell, n⟩ = P at *
  generalize planH = L at kp k1 k2 k3 k4 ⊢
  rcases hc with h | h | h | h
  · rw [if_pos h]
    have w1 := remH hkd h
    unfold evFn sc_l14code rv_l14code
    have F1 := And.intro @w1 (And.intro @w2 @w3)
    refine eS fun K1 hn1 hr1 he1 => ?_;refine eO fun K2 hk2 => ?_;refine tL F1 ?_;refine hk2 _ ?_;refine hn1 (some ([0,3], none)) _ ?_;refine eS fun K3 hn3 hr3 he3 => ?_;refine eO fun K4 hk4 => ?_;refine tS 1 F1 ?_;refine Or.inl (Or.inl ⟨_, kp, ?_⟩);refine tZ F1 ?_;refine hk4 _ ?_;refine hn3 (some ([0,3,6], none)) _ ?_;refine eS fun K5 hn5 hr5 he5 => ?_;refine eO fun K6 hk6 => ?_;refine tC 1 F1 ?_;refine tC 2 F1 ?_;refine tC 1 F1 ?_;refine tS 1 F1 ?_;refine tS 1 F1 ?_;refine Or.inl (Or.inl ⟨_, k1, ?_⟩);refine tL F1 ?_;refine hk6 _ ?_;refine hn5 (some ([0,3,6,7], none)) _ ?_;refine eS fun K7 hn7 hr7 he7 => ?_;refine eO fun K8 hk8 => ?_;refine tL F1 ?_;refine hk8 _ ?_;refine hn7 (some ([0,3,6,7], none)) _ ?_;refine eS fun K9 hn9 hr9 he9 => ?_;refine eO fun K10 hk10 => ?_;refine tL F1 ?_;refine hk10 _ ?_;refine hn9 (some ([0,3,6,7], none)) _ ?_;refine eS fun K11 hn11 hr11 he11 => ?_;refine eS fun K12 hn12 hr12 he12 => ?_
    refine eO fun K13 hk13 => ?_;refine tC 2 F1 ?_;refine tZ F1 ?_;refine hk13 _ ?_;refine hn12 (some ([0,3,6,7,19], none)) _ ?_;refine eB fun K14 hn14 hx14 hr14 he14 => ?_;refine eS fun K15 hn15 hr15 he15 => ?_;refine eO fun K16 hk16 => ?_;refine tC 1 F1 ?_;refine tL F1 ?_;refine hk16 _ ?_;refine hn15 (some ([0,3,6,7,19,28], none)) _ ?_;refine eCt ?_;refine eO fun K17 hk17 => ?_;refine tC 1 F1 ?_;refine tS 2 F1 ?_;refine tS 1 F1 ?_;refine Or.inl (Or.inl ⟨_, k2, ?_⟩);refine tL F1 ?_;refine hk17 _ ?_;refine hn14 _ ?_;refine hn11 (some ([8,9], none)) _ ?_;refine eS fun K18 hn18 _ _ => ?_;refine eD [] (n := 8) fun K19 hk19 => ?_;refine sq0 ?_;refine fC 3 F1 ?_;refine fS 2 F1 ?_;refine fS 1 F1 ?_;refine ⟨_, gen_some_neq codeIface, ?_⟩;refine fL F1 ?_;refine hk19 _ ?_;refine sr0 ?_;refine tL F1 ?_;refine hn18 (some ([4,5], none)) _ ?_
    exact sf1 F1
  · rw [if_neg (by omega), if_pos h]
    have w1 := remH hkd h
    unfold evFn sc_l14code rv_l14code
    have F1 := And.intro @w1 (And.intro @w2 @w3)
    refine eS fun K1 hn1 hr1 he1 => ?_;refine eO fun K2 hk2 => ?_;refine tL F1 ?_;refine hk2 _ ?_;refine hn1 (some ([0,3], none)) _ ?_;refine eS fun K3 hn3 hr3 he3 => ?_;refine eO fun K4 hk4 => ?_;refine tS 1 F1 ?_;refine Or.inl (Or.inl ⟨_, kp, ?_⟩);refine tZ F1 ?_;refine hk4 _ ?_;refine hn3 (some ([0,3,6], none)) _ ?_;refine eS fun K5 hn5 hr5 he5 => ?_;refine eO fun K6 hk6 => ?_;refine tC 1 F1 ?_;refine tC 2 F1 ?_;refine tC 1 F1 ?_;refine tS 1 F1 ?_;refine tS 1 F1 ?_;refine Or.inl (Or.inl ⟨_, k1, ?_⟩);refine tL F1 ?_;refine hk6 _ ?_;refine hn5 (some ([0,3,6,7], none)) _ ?_;refine eS fun K7 hn7 hr7 he7 => ?_;refine eO fun K8 hk8 => ?_;refine tL F1 ?_;refine hk8 _ ?_;refine hn7 (some ([0,3,6,7], none)) _ ?_;refine eS fun K9 hn9 hr9 he9 => ?_;refine eO fun K10 hk10 => ?_;refine tL F1 ?_;refine hk10 _ ?_;refine hn9 (some ([0,3,6,7], none)) _ ?_;refine eS fun K11 hn11 hr11 he11 => ?_;refine eS fun K12 hn12 hr12 he12 => ?_
    refine eO fun K13 hk13 => ?_;refine tC 2 F1 ?_;refine tZ F1 ?_;refine hk13 _ ?_;refine hn12 (some ([0,3,6,7,19], none)) _ ?_;refine eB fun K14 hn14 hx14 hr14 he14 => ?_;refine eS fun K15 hn15 hr15 he15 => ?_;refine eO fun K16 hk16 => ?_;refine tC 1 F1 ?_;refine tL F1 ?_;refine hk16 _ ?_;refine hn15 (some ([0,3,6,7,19,28], none)) _ ?_;refine eCf ?_;refine eS fun K17 hn17 hr17 he17 => ?_;refine eO fun K18 hk18 => ?_;refine tC 1 F1 ?_;refine tL F1 ?_;refine hk18 _ ?_;refine hn17 (some ([0,3,6,7,19,37], none)) _ ?_;refine eCt ?_;refine eO fun K19 hk19 => ?_;refine tC 1 F1 ?_;refine tS 1 F1 ?_;refine tS 1 F1 ?_;refine Or.inl (Or.inl ⟨_, k3, ?_⟩);refine tL F1 ?_;refine hk19 _ ?_;refine hn14 _ ?_;refine hn11 (some ([8,9], none)) _ ?_;refine eS fun K20 hn20 _ _ => ?_;refine eD [] (n := 8) fun K21 hk21 => ?_;refine sq0 ?_;refine fC 3 F1 ?_;refine fS 2 F1 ?_;refine fS 1 F1 ?_;refine ⟨_, gen_some_neq codeIface, ?_⟩
    refine fL F1 ?_;refine hk21 _ ?_;refine sr0 ?_;refine tL F1 ?_;refine hn20 (some ([4,5], none)) _ ?_
    exact sf1 F1
  · rw [if_neg (by omega), if_neg (by omega), if_pos h]
    have w1 := remH hkd h
    unfold evFn sc_l14code rv_l14code
    have F1 := And.intro @w1 (And.intro @w2 @w3)
    refine eS fun K1 hn1 hr1 he1 => ?_;refine eO fun K2 hk2 => ?_;refine tL F1 ?_;refine hk2 _ ?_;refine hn1 (some ([0,3], none)) _ ?_;refine eS fun K3 hn3 hr3 he3 => ?_;refine eO fun K4 hk4 => ?_;refine tS 1 F1 ?_;refine Or.inl (Or.inl ⟨_, kp, ?_⟩);refine tZ F1 ?_;refine hk4 _ ?_;refine hn3 (some ([0,3,6], none)) _ ?_;refine eS fun K5 hn5 hr5 he5 => ?_;refine eO fun K6 hk6 => ?_;refine tC 1 F1 ?_;refine tC 2 F1 ?_;refine tC 1 F1 ?_;refine tS 1 F1 ?_;refine tS 1 F1 ?_;refine Or.inl (Or.inl ⟨_, k1, ?_⟩);refine tL F1 ?_;refine hk6 _ ?_;refine hn5 (some ([0,3,6,7], none)) _ ?_;refine eS fun K7 hn7 hr7 he7 => ?_;refine eO fun K8 hk8 => ?_;refine tL F1 ?_;refine hk8 _ ?_;refine hn7 (some ([0,3,6,7], none)) _ ?_;refine eS fun K9 hn9 hr9 he9 => ?_;refine eO fun K10 hk10 => ?_;refine tL F1 ?_;refine hk10 _ ?_;refine hn9 (some ([0,3,6,7], none)) _ ?_;refine eS fun K11 hn11 hr11 he11 => ?_;refine eS fun K12 hn12 hr12 he12 => ?_
    refine eO fun K13 hk13 => ?_;refine tC 2 F1 ?_;refine tZ F1 ?_;refine hk13 _ ?_;refine hn12 (some ([0,3,6,7,19], none)) _ ?_;refine eB fun K14 hn14 hx14 hr14 he14 => ?_;refine eS fun K15 hn15 hr15 he15 => ?_;refine eO fun K16 hk16 => ?_;refine tC 1 F1 ?_;refine tL F1 ?_;refine hk16 _ ?_;refine hn15 (some ([0,3,6,7,19,28], none)) _ ?_;refine eCf ?_;refine eS fun K17 hn17 hr17 he17 => ?_;refine eO fun K18 hk18 => ?_;refine tC 1 F1 ?_;refine tL F1 ?_;refine hk18 _ ?_;refine hn17 (some ([0,3,6,7,19,37], none)) _ ?_;refine eCf ?_;refine eS fun K19 hn19 hr19 he19 => ?_;refine eO fun K20 hk20 => ?_;refine tC 1 F1 ?_;refine tL F1 ?_;refine hk20 _ ?_;refine hn19 (some ([3,6,7,45], none)) _ ?_;refine eCt ?_;refine eO fun K21 hk21 => ?_;refine tC 1 F1 ?_;refine tS 1 F1 ?_;refine Or.inl (Or.inl ⟨_, k4, ?_⟩);refine tL F1 ?_;refine hk21 _ ?_;refine hn14 _ ?_;refine hn11 (some ([8,9], none)) _ ?_;refine eS fun K22 hn22 hr22 he22 => ?_
    refine eD [] (n := 8) fun K23 hk23 => ?_;refine sq0 ?_;refine fC 3 F1 ?_;refine fS 2 F1 ?_;refine fS 1 F1 ?_;refine ⟨_, gen_some_neq codeIface, ?_⟩;refine fL F1 ?_;refine hk23 _ ?_;refine sr0 ?_;refine tL F1 ?_;refine hn22 (some ([4,5], none)) _ ?_
    exact sf1 F1
  · rw [if_neg (by omega), if_neg (by omega), if_neg (by omega)]
    have w1 := remH hkd h
    unfold opP at k5 ⊢
    rw [hP] at k5 ⊢
    unfold evFn sc_l14code rv_l14code
    have F1 := And.intro @w1 (And.intro @w2 @w3)
    refine eS fun K1 hn1 hr1 he1 => ?_;refine eO fun K2 hk2 => ?_;refine tL F1 ?_;refine hk2 _ ?_;refine hn1 (some ([0,3], none)) _ ?_;refine eS fun K3 hn3 hr3 he3 => ?_;refine eO fun K4 hk4 => ?_;refine tS 1 F1 ?_;refine Or.inl (Or.inl ⟨_, kp, ?_⟩);refine tZ F1 ?_;refine hk4 _ ?_;refine hn3 (some ([0,3,6], none)) _ ?_;refine eS fun K5 hn5 hr5 he5 => ?_;refine eO fun K6 hk6 => ?_;refine tC 1 F1 ?_;refine tC 2 F1 ?_;refine tC 1 F1 ?_;refine tS 1 F1 ?_;refine tS 1 F1 ?_;refine Or.inl (Or.inl ⟨_, k1, ?_⟩);refine tL F1 ?_;refine hk6 _ ?_;refine hn5 (some ([0,3,6,7], none)) _ ?_;refine eS fun K7 hn7 hr7 he7 => ?_;refine eO fun K8 hk8 => ?_;refine tL F1 ?_;refine hk8 _ ?_;refine hn7 (some ([0,3,6,7], none)) _ ?_;refine eS fun K9 hn9 hr9 he9 => ?_;refine eO fun K10 hk10 => ?_;refine tL F1 ?_;refine hk10 _ ?_;refine hn9 (some ([0,3,6,7], none)) _ ?_;refine eS fun K11 hn11 hr11 he11 => ?_;refine eS fun K12 hn12 hr12 he12 => ?_
    refine eO fun K13 hk13 => ?_;refine tC 2 F1 ?_;refine tZ F1 ?_;refine hk13 _ ?_;refine hn12 (some ([0,3,6,7,19], none)) _ ?_;refine eB fun K14 hn14 hx14 hr14 he14 => ?_;refine eS fun K15 hn15 hr15 he15 => ?_;refine eO fun K16 hk16 => ?_;refine tC 1 F1 ?_;refine tL F1 ?_;refine hk16 _ ?_;refine hn15 (some ([0,3,6,7,19,28], none)) _ ?_;refine eCf ?_;refine eS fun K17 hn17 hr17 he17 => ?_;refine eO fun K18 hk18 => ?_;refine tC 1 F1 ?_;refine tL F1 ?_;refine hk18 _ ?_;refine hn17 (some ([0,3,6,7,19,37], none)) _ ?_;refine eCf ?_;refine eS fun K19 hn19 hr19 he19 => ?_;refine eO fun K20 hk20 => ?_;refine tC 1 F1 ?_;refine tL F1 ?_;refine hk20 _ ?_;refine hn19 (some ([3,6,7,45], none)) _ ?_;refine eCf ?_;refine eO fun K21 hk21 => ?_;refine tC 3 F1 ?_;refine tS 1 F1 ?_;refine tS 1 F1 ?_;refine Or.inl (Or.inl ⟨_, k5, ?_⟩);refine tL F1 ?_;refine hk21 _ ?_;refine hn14 _ ?_;refine hn11 (some ([8,9], none)) _ ?_
    refine eS fun K22 hn22 hr22 he22 => ?_;refine eD [] (n := 8) fun K23 hk23 => ?_;refine sq0 ?_;refine fC 3 F1 ?_;refine fS 2 F1 ?_;refine fS 1 F1 ?_;refine ⟨_, gen_some_neq codeIface, ?_⟩;refine fL F1 ?_;refine hk23 _ ?_;refine sr0 ?_;refine tL F1 ?_;refine hn22 (some ([4,5], none)) _ ?_
    exact sf1 F1
theorem ok_l14val {C : Coder} (w : WorldM C) (p : Int) {n : Nat} (h : WorldOk w n) (hn : n ≤ 900) : Ok 16 [eWorld w, sI p] (sI (Wd w.m p).val) := by
  refine ok_of_tr Tryz.func16 tr_l14val rfl ?_
  have hK := shK C
  have k0 := ok_cWord w.m p h.mach.mem (by omega)
  generalize decide (PlcB w.m.mem p) = b at k0
  unfold evFn sc_l14val rv_l14val
  have F1 := @hK
  refine eS fun _ hn1 _ _ => ?_;refine eO fun _ hk2 => ?_;refine tL F1 ?_;refine hk2 _ ?_;refine hn1 (some ([1,2], none)) _ ?_;refine eS fun _ hn3 _ _ => ?_;refine eO fun _ hk4 => ?_;refine tC 2 F1 ?_;refine tS 1 F1 ?_;refine tS 1 F1 ?_;refine Or.inl (Or.inl ⟨_, k0, ?_⟩);refine tC 5 F1 ?_;refine tL F1 ?_;refine hk4 _ ?_;refine hn3 (some ([5], none)) _ ?_;refine eS fun _ hn5 _ _ => ?_;refine eO fun _ hk6 => ?_;refine tC 2 F1 ?_;refine tL F1 ?_;refine hk6 _ ?_;refine hn5 (some ([4], none)) _ ?_
  exact sf1 F1
end Go.Proofs.YtkoibcblmgmdmaaGreatDoor

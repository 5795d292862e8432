/-
  Layer 8 once more, for codes that have a part of one's own memory: tasks.
-/
import Derived.Test.YtkmbcjnaaokilaaGreatDoorMK11
import Derived.Test.YtkmbcjnaaokilaaGreatDoorMS
import Derived.Test.YtkmbcjnaaokilaaGreatDoorK12e
namespace Go.Proofs.YtkmbcjnaaokilaaGreatDoor
set_option linter.unusedSimpArgs false
set_option linter.unusedVariables false
open Go.RowKit Go.Maps
structure OFr (ids ids' : List Nat) (O : List (Nat × Ob)) (n : Nat) (O' : List (Nat × Ob)) (n' : Nat) : Prop where
 le : n ≤ n'
 old : ∀ e,e < n → e ∉ ids → getA O' e = getA O e
 new : ∀ e ∈ ids',e ∈ ids ∨ n < e
theorem OFr.at {ids ids' : List Nat} {O O' : List (Nat × Ob)} {n n' e : Nat} {X : Ob} (h : OFr ids ids' O n O' n') (he : e < n) (hx : e ∉ ids) (hX : getA O e = some X) : getA O' e = some X := by
 rw [h.old e he hx]; exact hX
structure Owner (C : Coder) where
 ids : C.St → List Nat
 own : C.St → List (Nat × Ob) → Nat → Prop
 fgt : C.St → C.St
 lt : ∀ {s O n},own s O n → ∀ e ∈ ids s,e < n
 to : ∀ {s O n O' n'},own s O n → n ≤ n' → (∀ e ∈ ids s,getA O' e = getA O e) → own s O' n'
 good' : ∀ {a b n},fgt a = fgt b → C.good n a → C.good n b
 nxt : ∀ {a b} (g : GotV),fgt a = fgt b → fgt (C.next a g).1 = fgt (C.next b g).1 ∧ (C.next a g).2 = (C.next b g).2
 step : ∀ {n s} (g : GotV),C.good n s → n ≤ 900 → ∃ t x f,C.enc s = .ifc t x ∧ MethodIs t "Next" f ∧ Enters f ∧ ∀ O n,own s O n → OkO f [x,.agg (eGot g)] O n (fun _ r O' n' =>
  ∃ s',fgt s' = fgt (C.next s g).1 ∧ r = .tup [C.enc s',.agg (eAct4 (C.next s g).2.1),sB (C.next s g).2.2] ∧ own s' O' n' ∧ OFr (ids s) (ids s') O n O' n')
section
variable {C : Coder} (W : Owner C)
def tIds (t : TaskM C) : List Nat := match t.code with
 | some s => W.ids s
 | none => []
def tOwn (t : TaskM C) (O : List (Nat × Ob)) (n : Nat) : Prop := ∀ s,t.code = some s → W.own s O n
def fgtT (t : TaskM C) : TaskM C := { t with code := t.code.map W.fgt }
end
section
variable {C : Coder} {W : Owner C}
theorem fgt_said {t u : TaskM C} {s s' : C.St} {a : ActM} {b : Bool} (ht : t.gots = u.gots) (hs : W.fgt s = W.fgt s') : fgtT W (saidM t s a b) = fgtT W (saidM u s' a b) := by
 unfold saidM fgtT
 split
 ·simp [hs,ht]
 ·simp [hs,ht]
theorem tIds_said {t : TaskM C} {s : C.St} {a : ActM} {b : Bool} : tIds W (saidM t s a b) = W.ids s := by unfold saidM tIds; cases b <;> rfl
theorem tOwn_said {t : TaskM C} {s : C.St} {a : ActM} {b : Bool} {O : List (Nat × Ob)} {n : Nat} (h : W.own s O n) : tOwn W (saidM t s a b) O n := by
 intro s' hs'
 unfold saidM at hs'
 split at hs' <;> (cases hs'; exact h)
theorem notid {s : C.St} {O : List (Nat × Ob)} {n e : Nat} (h : W.own s O n) (he : n ≤ e) : e ∉ W.ids s := fun hm => absurd (W.lt h e hm) (by omega)
def TPost (ids : List Nat) (O : List (Nat × Ob)) (n : Nat) (W : Owner C) (t : TaskM C) (_ : Hp → Env → Prop) (r : Sh) (O' : List (Nat × Ob)) (n' : Nat) : Prop :=
 ∃ t',fgtT W t' = fgtT W t ∧ r = .agg (eTask t') ∧ tOwn W t' O' n' ∧ OFr ids (tIds W t') O n O' n'
abbrev zTaskC : List Sh := [.v .nilIface,.v .nilFunc,sI 0,sI 0,sI 0,sU 0,sU 0,sI 0,sU 0,sU 0,.sl 4 0 []]
set_option maxHeartbeats 4000000 in
theorem okO_kStart (s : C.St) {k : Nat} (hs : C.good k s) (hk : k ≤ 900) (O : List (Nat × Ob)) (n : Nat) (ho : W.own s O n) : OkO 67 [eCode C (some s)] O n (TPost (W.ids s) O n W (startM s)) := by
 refine okO_of_trS Tryz.func67 tr_kStart rfl fun J => ?_
 have hid := oid n
 obtain ⟨ty,x,f,he,hm,hE,hok⟩ := W.step zGot hs hk
 have hes : eCode C (some s) = .ifc ty x := he
 have hK := shK C
 have ho1 : W.own s ((n + 1,.box 84 zTaskC) :: (n,.gh J) :: O) (n + 2) := W.to ho (by omega) fun e he => by have := W.lt ho e he; simp only [getA]; repeat rw [if_neg (by omega)]
 have c0 := fun s' => ok_kTold (zTask C) s' (C.next s zGot).2.1 (C.next s zGot).2.2
 rw [hes]
 unfold sc_kStart rv_kStart
 have F1 := And.intro @hK @hid
 refine eS fun _ hn1 _ _ => ?_;refine eO fun _ hk2 => ?_;refine tL F1 ?_;refine hk2 _ ?_;refine hn1 (some ([0,2],none)) _ ?_;refine eS fun _ hn3 _ _ => ?_;refine eS fun _ hn4 _ _ => ?_;refine eO fun _ hk5 => ?_;refine tS 1 F1 ?_;refine tL F1 ?_;refine Or.inl ⟨_,gen_some_eq codeIface,?_⟩;refine hk5 _ ?_;refine hn4 (some ([0,2,4],none)) _ ?_;refine eCf ?_;refine hn3 (some ([0,2],none)) _ ?_;refine eS fun _ hn6 _ _ => ?_;refine eO fun _ hk7 => ?_;refine tS 3 F1 ?_;refine tS 1 F1 ?_;refine Or.inr (evInvO_mk (hok _ _ ho1) (hm) (hE) (sgE1 F1) (sgE1 F1) (fun Jg1 rg1 Og1 ng1 hPg1 => ?_))
 obtain ⟨s',hs',rfl,hO',hF⟩ := hPg1
 dsimp only at hO' hF
 have g0 := hF.at (e := n) (X := .gh J) (by omega) (notid ho (by omega)) (sgE1 F1)
 have g1 := hF.at (e := n + 1) (X := .box 84 zTaskC) (by omega) (notid ho (by omega)) (sgE1 F1)
 have hec : C.enc s' = eCode C (some s') := rfl
 have F2 := And.intro F1 (And.intro @g0 (And.intro @g1 @hec))
 refine tS 3 F2 ?_;refine tS 1 F2 ?_;refine Or.inl (Or.inl ⟨_,c0 s',?_⟩);refine tZ F2 ?_;refine hk7 _ ?_;refine hn6 (some ([2],none)) _ ?_
 first | refine finO_ret (sgE1 F2) (sgE1 F2) (sgE1 F2) ?_ | refine finO_next (sgE1 F2) (sgE1 F2) (sgE1 F2) ?_
 try dsimp only
 refine ⟨_,fgt_said (t := zTask C) (u := zTask C) (s := s') rfl hs',rfl,tOwn_said (W.to hO' (by omega) fun e he => ?_),⟨by have := hF.le; omega,fun e he hx => ?_,fun e he => ?_⟩⟩
 ·rcases hF.new e he with h | h
  ·have := W.lt ho e h; simp only [getA,getA_delO]; repeat rw [if_neg (by omega)]
  ·simp only [getA,getA_delO]; repeat rw [if_neg (by omega)]
 ·simp only [getA,getA_delO]; repeat rw [if_neg (by omega)]
  rw [hF.old e (by omega) hx]
  simp only [getA]; repeat rw [if_neg (by omega)]
 ·rw [tIds_said] at he
  rcases hF.new e he with h | h
  ·exact .inl h
  ·exact .inr (by omega)
structure GvP (W : Owner C) (s : C.St) (g : GotV) (O : List (Nat × Ob)) (m : Nat) (x : C.St) (O' : List (Nat × Ob)) (n' : Nat) : Prop where
 fgt : W.fgt x = W.fgt (C.next s g).1
 own : W.own x O' n'
 fr : OFr (W.ids s) (W.ids x) O m O' n'
theorem GvP.of {W : Owner C} {s : C.St} {g : GotV} {O O' : List (Nat × Ob)} {m n' n0 : Nat} {x : C.St} (h1 : W.fgt x = W.fgt (C.next s g).1) (h2 : W.own x O' n') (h3 : OFr (W.ids s) (W.ids x) O m O' n') (hlt : ∀ e ∈ W.ids s,e < n0) (hn : n0 ≤ m) : GvP W s g O m x (delA O' m) n' :=
 ⟨h1,W.to h2 (Nat.le_refl _) fun e he => (by
  rw [getA_delO,if_neg]
  rcases h3.new e he with h | h
  ·have := hlt e h; omega
  ·omega),⟨h3.le,fun e he hx => (by rw [getA_delO,if_neg (by omega)]; exact h3.old e he hx),h3.new⟩⟩
structure GvMid (W : Owner C) (s : C.St) (g : GotV) (t1 : TaskM C) (J : Hp → Env → Prop) (O : List (Nat × Ob)) (n : Nat) (S : St) (x : C.St) : Prop where
 p : getA S.T 4 = some (.ptr (n + 3) 0 0)
 v : getA S.T 25 = some (.agg (eTask (saidM t1 x (C.next s g).2.1 (C.next s g).2.2)))
 bx : getA S.O (n + 3) = some (.box 84 zTaskC)
 gh : getA S.O n = some (.gh J)
 fgt : W.fgt x = W.fgt (C.next s g).1
 own : W.own x S.O S.n
 fr : OFr (W.ids s) (W.ids x) O n S.O S.n
 far : ∀ e ∈ W.ids x,e < n ∨ n + 5 ≤ e
 le : n + 5 ≤ S.n
structure GvFin (W : Owner C) (s : C.St) (g : GotV) (t1 : TaskM C) (J : Hp → Env → Prop) (O : List (Nat × Ob)) (n : Nat) (S : St) (x : C.St) : Prop where
 p : getA S.T 4 = some (.ptr (n + 3) 0 0)
 bx : getA S.O (n + 3) = some (.box 84 (eTask (saidM t1 x (C.next s g).2.1 (C.next s g).2.2)))
 gh : getA S.O n = some (.gh J)
 fgt : W.fgt x = W.fgt (C.next s g).1
 own : W.own x S.O S.n
 fr : OFr (W.ids s) (W.ids x) O n S.O S.n
abbrev gvTk (n : Nat) (ty : TypeId) (x : Sh) (act : ActM) : List Sh := [.ifc ty x,.fn (.method "Next") [.ifc ty x] [],sI act.op,sI act.place,sI act.old.val,sU act.old.ver,sU act.old.ref,sI act.new.val,sU act.new.ver,sU act.new.ref,.own (n + 4)]
abbrev gvOb (J : Hp → Env → Prop) (O : List (Nat × Ob)) (n : Nat) (ty : TypeId) (x : Sh) (act : ActM) (gots : List GotV) (g : GotV) : List (Nat × Ob) :=
 (n + 1,.box 84 (gvTk n ty x act)) :: (n + 4,.row 100 4 (gots.map eGot ++ [eGot g])) :: (n + 3,.box 84 zTaskC) :: (n + 2,.box 100 (eGot g)) :: (n,.gh J) :: delA O (n + 1)
theorem gvOb_old {J : Hp → Env → Prop} {O : List (Nat × Ob)} {n : Nat} {ty : TypeId} {x : Sh} {act : ActM} {gots : List GotV} {g : GotV} {e : Nat} (he : e < n) : getA (gvOb J O n ty x act gots g) e = getA O e := by
 simp only [getA,getA_delO]; repeat rw [if_neg (by omega)]
abbrev gvBl (n : Nat) (ty : TypeId) (x : Sh) : List (Nat × Sh) := [(2,.ptr (n + 1) 0 0),(3,.ptr (n + 2) 0 0),(4,.ptr (n + 3) 0 0),(5,.fn (.method "Next") [.ifc ty x] [])]
abbrev gvB (n : Nat) (ty : TypeId) (x : Sh) (act : ActM) (g : GotV) : List (Nat × (Nat × Sh)) := [(18,0,.agg (gvTk n ty x act)),(19,1,.fn (.method "Next") [.ifc ty x] []),(20,2,.agg (eGot g))]
abbrev gvW (a : ActM) (d : Bool) (s' : C.St) : List (Nat × (Nat × Sh)) := [(21,3,.tup [eCode C (some s'),.agg (eAct4 a),sB d]),(22,4,eCode C (some s')),(23,5,.agg (eAct4 a)),(24,6,sB d)]
abbrev gvWt : List (List Nat) := [[],[],[],[1,2],[3],[3],[3],[0,4,5,6,3],[7,7,0,1,2,3,4,5,6,7]]
abbrev gvI (W : Owner C) (s : C.St) (g : GotV) (J : Hp → Env → Prop) (O : List (Nat × Ob)) (n : Nat) (ty : TypeId) (x : Sh) (act : ActM) (gots : List GotV) (done : List Nat) (S : St) (s' : C.St) : Prop :=
 RgC (gvBl n ty x) (fun s' => gvB n ty x act g ++ gvW (C := C) (C.next s g).2.1 (C.next s g).2.2 s') [4,5,6] 3 (gvOb J O n ty x act gots g) (n + 5) (GvP W s g (gvOb J O n ty x act gots g) (n + 5)) done S s'
theorem gv_mem {s : C.St} {g : GotV} {J : Hp → Env → Prop} {O : List (Nat × Ob)} {n : Nat} {ty : TypeId} {x : Sh} {act : ActM} {gots : List GotV} {done : List Nat} {S : St} {s' : C.St} (h : gvI W s g J O n ty x act gots done S s') (hlt : ∀ e ∈ W.ids s,e < n) {e : Nat} {X : Ob} (h1 : n ≤ e) (h2 : e < n + 5) (hX : getA (gvOb J O n ty x act gots g) e = some X) : getA S.O e = some X := by
 cases hc : done.contains 3 with
 | false => rw [(h.pre hc).1]; exact hX
 | true => exact (h.post hc).fr.at h2 (fun hm => absurd (hlt e hm) (by omega)) hX
set_option maxHeartbeats 8000000 in
set_option maxRecDepth 20000 in
theorem okO_kGive (t : TaskM C) (g : GotV) {k : Nat} (ht : TaskOk t k) (hk : k ≤ 900) (O : List (Nat × Ob)) (n : Nat) (ho : tOwn W t O n) : OkO 75 [.agg (eTask t),.agg (eGot g)] O n (TPost (tIds W t) O n W (giveM t g)) := by
 refine okO_of_trC Tryz.func75 tr_kGiveO rfl fun J => ?_
 have hid := oid n
 have hK := shK C
 have k0 := ok_kDone t
 obtain ⟨code,live,act,gots⟩ := t
 have hgl := ht.gots
 simp only at hgl
 cases live
 ·have e : giveM ⟨code,false,act,gots⟩ g = ⟨code,false,act,gots⟩ := if_neg (by simp)
  rw [e]
  unfold sc_kGiveO rv_kGiveO
  have F1 := And.intro @hK @hid
  refine eS fun K1 hn1 hr1 he1 => ?_;refine eO fun K2 hk2 => ?_;refine tL F1 ?_;refine hk2 _ ?_;refine hn1 (some ([2,3,4],none)) _ ?_;refine eS fun K3 hn3 hr3 he3 => ?_;refine eS fun K4 hn4 hr4 he4 => ?_;refine eO fun K5 hk5 => ?_;refine tC 1 F1 ?_;refine tL F1 ?_;refine Or.inl (Or.inl ⟨_,k0,?_⟩);refine hk5 _ ?_;refine hn4 (some ([2,3,4,7],none)) _ ?_;refine eCt ?_;refine eS fun K6 hn6 hr6 he6 => ?_;refine eO fun K7 hk7 => ?_;refine tC 1 F1 ?_;refine tZ F1 ?_;refine hk7 _ ?_;refine hn6 (some ([4],none)) _ ?_;refine hr3 _ ?_
  first | refine finO_ret (sgE1 F1) (sgE1 F1) (sgE1 F1) ?_ | refine finO_next (sgE1 F1) (sgE1 F1) (sgE1 F1) ?_
  try dsimp only
  refine ⟨_,rfl,rfl,fun s hs => W.to (ho s hs) (by omega) fun e he => ?_,⟨by omega,fun e he hx => ?_,fun e he => .inl he⟩⟩
  ·have := W.lt (ho s hs) e he
   simp only [getA,getA_delO]; repeat rw [if_neg (by omega)]
  ·simp only [getA,getA_delO]; repeat rw [if_neg (by omega)]
 ·obtain ⟨s,hs⟩ := ht.code rfl
  simp only at hs
  subst hs
  obtain ⟨ty,x,f,he,hm,hE,hok⟩ := W.step g (ht.good s rfl) hk
  have hos := ho s rfl
  have hes : eCode C (some s) = .ifc ty x := he
  have e : giveM ⟨some s,true,act,gots⟩ g = saidM ⟨some s,true,act,gots ++ [g]⟩ (C.next s g).1 (C.next s g).2.1 (C.next s g).2.2 := if_pos rfl
  rw [e]
  have e2 : eFn C (some s) true = .fn (.method "Next") [.ifc ty x] [] := by unfold eFn; rw [if_pos rfl,hes]
  have c0 := fun s' => ok_kTold (⟨some s,true,act,gots ++ [g]⟩ : TaskM C) s' (C.next s g).2.1 (C.next s g).2.2
  have hlt := W.lt hos
  have hos1 : W.own s (gvOb J O n ty x act gots g) (n + 5) := W.to hos (by omega) fun e he => gvOb_old (hlt e he)
  simp only [eTask,hes,e2,List.map_append,List.map_cons,List.map_nil] at k0 c0 ⊢
  have q1 : gots.length ≤ 1000000 := by omega
  have q2 : (gots.length + 1) * 24 ≤ 140737488355328 := by omega
  unfold sc_kGiveO rv_kGiveO
  have F1 := And.intro @hK (And.intro @hid (And.intro @q1 @q2))
  refine eS fun K1 hn1 hr1 he1 => ?_;refine eO fun K2 hk2 => ?_;refine tL F1 ?_;refine hk2 _ ?_;refine hn1 (some ([2,3,4],none)) _ ?_;refine eS fun K3 hn3 hr3 he3 => ?_;refine eS fun K4 hn4 hr4 he4 => ?_;refine eO fun K5 hk5 => ?_;refine tC 1 F1 ?_;refine tL F1 ?_;refine Or.inl (Or.inl ⟨_,k0,?_⟩);refine hk5 _ ?_;refine hn4 (some ([2,3,4,7],none)) _ ?_;refine eCf ?_;refine hn3 (some ([2,3,4],none)) _ ?_;refine eS fun K6 hn6 hr6 he6 => ?_;refine eO fun K7 hk7 => ?_;refine tC 2 F1 ?_;refine tL F1 ?_;refine hk7 _ ?_;refine hn6 (some ([2,3,4,5],none)) _ ?_;refine eS fun _ hn8 _ _ => ?_;refine eD [] (n := 5) fun K9 hk9 => ?_;refine sq0 ?_;refine fC 2 F1 ?_;refine fS 1 F1 ?_;refine ⟨_,ok_clipGot _ _,?_⟩;refine fC 1 F1 ?_;refine fZ F1 ?_;refine hk9 _ ?_;refine sr0 ?_;refine tC 1 F1 ?_;refine tZ F1 ?_;refine hn8 (some ([2,3,4,5],none)) _ ?_;refine eS fun _ hn11 _ _ => ?_;refine eCflP ([]) (fun done S => Closed gvWt done ∧ ((done.contains 7 = false ∧ done.contains 8 = false ∧ ∃ s',gvI W s g J O n ty x act gots done S s') ∨ (done.contains 7 = true ∧ done.contains 8 = false ∧ ∃ s',GvMid W s g ⟨some s,true,act,gots ++ [g]⟩ J O n S s') ∨ ((∀ i,i < 9 → done.contains i = true) ∧ ∃ s',GvFin W s g ⟨some s,true,act,gots ++ [g]⟩ J O n S s'))) (fun S => ∃ s' O1 n1,S = ⟨[(4,.ptr (n + 3) 0 0)],O1,n1⟩ ∧ GvFin W s g ⟨some s,true,act,gots ++ [g]⟩ J O n S s') ?_ ?_ ?_ ?_
  ·skip
   refine ⟨closed_nil _,.inl ⟨rfl,rfl,s,RgC.init (fun t v h => ?_) ?_ ?_⟩⟩
   ·simp only [getA] at h
    simp only [St.casts,St.keep,keepT,getA,reduceIte,Nat.reduceEqDiff]
    repeat' split at h
    all_goals first | (rename_i e9; subst e9; exact h) | cases h
   ·rfl
   ·rfl
  ·skip
   intro done S i0 ⟨hc,hI⟩ hr
   have hi9 := rdyN_lt hr
   have hnr := rdyN_not hr
   rcases hI with ⟨h7,h8,s',hI⟩ | ⟨h7,h8,s',hM⟩ | ⟨hall,_⟩
   ·have b2 := hI.base 2 _ rfl
    have b3 := hI.base 3 _ rfl
    have b4 := hI.base 4 _ rfl
    have b5 := hI.base 5 _ rfl
    have m1 := gv_mem hI hlt (e := n + 1) (by omega) (by omega) (sgE1 F1)
    have m2 := gv_mem hI hlt (e := n + 2) (by omega) (by omega) (sgE1 F1)
    have m3 := gv_mem hI hlt (e := n + 3) (by omega) (by omega) (sgE1 F1)
    have m4 := gv_mem hI hlt (e := n + 4) (by omega) (by omega) (sgE1 F1)
    have m0 := gv_mem hI hlt (e := n) (by omega) (by omega) (sgE1 F1)
    have hgot := fun t j v h h2 => hI.got t j v h h2
    have hcase : i0 = 0 ∨ i0 = 1 ∨ i0 = 2 ∨ i0 = 3 ∨ i0 = 4 ∨ i0 = 5 ∨ i0 = 6 ∨ i0 = 7 ∨ i0 = 8 := by simp at hi9; omega
    rcases hcase with rfl | rfl | rfl | rfl | rfl | rfl | rfl | rfl | rfl
    ·skip
     have F9 := And.intro b2 m1
     refine cfOpN rfl fun K9 hk9 => ?_;refine sh1 F9 ?_;refine sd ?_;refine hk9 _ ?_
     exact ⟨hc.cons hr,.inl ⟨by rw [cons_cC (by decide)]; exact h7,by rw [cons_cC (by decide)]; exact h8,s',hI.put (i := 0) (t := 18) rfl rfl rfl (by decide) (fun h => by cases h)⟩⟩
    ·skip
     have F9 := b5
     refine cfOpN rfl fun K9 hk9 => ?_;refine sh1 F9 ?_;refine hk9 _ ?_
     exact ⟨hc.cons hr,.inl ⟨by rw [cons_cC (by decide)]; exact h7,by rw [cons_cC (by decide)]; exact h8,s',hI.put (i := 1) (t := 19) rfl rfl rfl (by decide) (fun h => by cases h)⟩⟩
    ·skip
     have F9 := And.intro b3 m2
     refine cfOpN rfl fun K9 hk9 => ?_;refine sh1 F9 ?_;refine sd ?_;refine hk9 _ ?_
     exact ⟨hc.cons hr,.inl ⟨by rw [cons_cC (by decide)]; exact h7,by rw [cons_cC (by decide)]; exact h8,s',hI.put (i := 2) (t := 20) rfl rfl rfl (by decide) (fun h => by cases h)⟩⟩
    ·have hw := rdyN_wait hr rfl
     have g1 := hgot 19 1 _ rfl (hw 1 rfl)
     have g2 := hgot 20 2 _ rfl (hw 2 rfl)
     obtain ⟨T9,O9,n9⟩ := S
     obtain ⟨e1,e2⟩ := hI.pre hnr
     dsimp only at e1 e2
     subst e1 e2
     dsimp only at g1 g2
     have F9 := And.intro g1 g2
     refine cfOpN rfl fun K9 hk9 => ?_;refine Or.inr (evCallvO_mk (hok _ _ hos1) (sgE1 F9) (by simp only [St.opdL,St.opd,g2,St.res,Option.map_some,Option.bind_some]) (.inr ⟨"Next",ty,x,[],[],rfl,hm,hE,rfl⟩) fun J9 r9 O9 n9 hP9 => ?_)
     obtain ⟨s9,q1,rfl,q2,q3⟩ := hP9
     refine hk9 _ ?_
     exact ⟨hc.cons hr,.inl ⟨by rw [cons_cC (by decide)]; exact h7,by rw [cons_cC (by decide)]; exact h8,s9,hI.call2 (t := 21) hnr rfl rfl rfl rfl (GvP.of q1 q2 q3 hlt (by omega))⟩⟩
    ·skip
     have hw := rdyN_wait hr rfl
     have g1 := hgot 21 3 _ rfl (hw 3 rfl)
     have F9 := And.intro hK g1
     refine cfOpN rfl fun K9 hk9 => ?_;refine sh1 F9 ?_;refine hk9 _ ?_
     exact ⟨hc.cons hr,.inl ⟨by rw [cons_cC (by decide)]; exact h7,by rw [cons_cC (by decide)]; exact h8,s',hI.put (i := 4) (t := 22) rfl rfl rfl (by decide) (fun _ => hw 3 rfl)⟩⟩
    ·skip
     have hw := rdyN_wait hr rfl
     have g1 := hgot 21 3 _ rfl (hw 3 rfl)
     have F9 := And.intro hK g1
     refine cfOpN rfl fun K9 hk9 => ?_;refine sh1 F9 ?_;refine hk9 _ ?_
     exact ⟨hc.cons hr,.inl ⟨by rw [cons_cC (by decide)]; exact h7,by rw [cons_cC (by decide)]; exact h8,s',hI.put (i := 5) (t := 23) rfl rfl rfl (by decide) (fun _ => hw 3 rfl)⟩⟩
    ·skip
     have hw := rdyN_wait hr rfl
     have g1 := hgot 21 3 _ rfl (hw 3 rfl)
     have F9 := And.intro hK g1
     refine cfOpN rfl fun K9 hk9 => ?_;refine sh1 F9 ?_;refine hk9 _ ?_
     exact ⟨hc.cons hr,.inl ⟨by rw [cons_cC (by decide)]; exact h7,by rw [cons_cC (by decide)]; exact h8,s',hI.put (i := 6) (t := 24) rfl rfl rfl (by decide) (fun _ => hw 3 rfl)⟩⟩
    ·have hw := rdyN_wait hr rfl
     have g0 := hgot 18 0 _ rfl (hw 0 rfl)
     have g4 := hgot 22 4 _ rfl (hw 4 rfl)
     have g5 := hgot 23 5 _ rfl (hw 5 rfl)
     have g6 := hgot 24 6 _ rfl (hw 6 rfl)
     obtain ⟨p1,p2,p3⟩ := hI.post (hw 3 rfl)
     have F9 := And.intro hK (And.intro hid (And.intro g0 (And.intro g4 (And.intro g5 (And.intro g6 (And.intro m4 (Int.toNat_natCast)))))))
     refine cfOpN rfl fun K9 hk9 => ?_;refine sh1 F9 ?_;refine Or.inl (Or.inl ⟨_,c0 s',?_⟩);refine hk9 _ ?_
     have hfar : ∀ e ∈ W.ids s',e < n ∨ n + 5 ≤ e := fun e he => by
      rcases p3.new e he with h | h
      ·exact .inl (hlt e h)
      ·exact .inr (by omega)
     refine ⟨hc.cons hr,.inr (.inl ⟨cons_sC _ _,by rw [cons_cC (by decide)]; exact h8,s',⟨?_,?_,?_,?_,p1,W.to p2 (Nat.le_refl _) fun e he => ?_,⟨by show n ≤ S.n; have := p3.le; omega,fun e he hx => ?_,fun e he => ?_⟩,hfar,p3.le⟩⟩)⟩
     ·simp only [getA,getA_delA_other,getA_put,Nat.reduceEqDiff,reduceIte,ne_eq,not_false_eq_true]; exact b4
     ·simp only [getA,reduceIte]
     ·simp only [getA,getA_delO]; repeat rw [if_neg (by omega)]
      exact m3
     ·simp only [getA,getA_delO]; repeat rw [if_neg (by omega)]
      exact m0
     ·rcases hfar e he with h | h
      ·simp only [getA,getA_delO]; repeat rw [if_neg (by omega)]
      ·simp only [getA,getA_delO]; repeat rw [if_neg (by omega)]
     ·simp only [getA,getA_delO]; repeat rw [if_neg (by omega)]
      rw [p3.old e (by omega) hx,gvOb_old he]
     ·rcases p3.new e he with h | h
      ·exact .inl h
      ·exact .inr (by omega)
    ·have hw := rdyN_wait hr rfl
     rw [hw 7 rfl] at h7; cases h7
   ·have h0 : ∀ j,j < 8 → done.contains j = true := fun j hj => by
     have w7 := hc 7 _ h7 rfl
     have w3 := hc 3 _ (w7 3 rfl) rfl
     have : j = 0 ∨ j = 1 ∨ j = 2 ∨ j = 3 ∨ j = 4 ∨ j = 5 ∨ j = 6 ∨ j = 7 := by omega
     rcases this with rfl | rfl | rfl | rfl | rfl | rfl | rfl | rfl
     ·exact w7 0 rfl
     ·exact w3 1 rfl
     ·exact w3 2 rfl
     ·exact w7 3 rfl
     ·exact w7 4 rfl
     ·exact w7 5 rfl
     ·exact w7 6 rfl
     ·exact h7
    have e8 : i0 = 8 := by
     rcases Nat.lt_or_ge i0 8 with h | h
     ·rw [h0 i0 h] at hnr; cases hnr
     ·simp at hi9; omega
    subst e8
    have F9 := And.intro hK (And.intro hM.p (And.intro hM.v hM.bx))
    refine cfOpN rfl fun K9 hk9 => ?_;refine sh1 F9 ?_;refine sd ?_;refine hk9 _ ?_
    have hle := hM.le
    refine ⟨hc.cons hr,.inr (.inr ⟨fun i hi => ?_,s',⟨hM.p,?_,?_,hM.fgt,W.to hM.own (Nat.le_refl _) fun e he => ?_,⟨hM.fr.le,fun e he hx => ?_,hM.fr.new⟩⟩⟩)⟩
    ·by_cases h : i = 8
     ·subst h; exact cons_sC _ _
     ·rw [cons_cC h]; exact h0 i (by omega)
    ·simp only [getA,reduceIte]
    ·simp only [getA,getA_delO]; repeat rw [if_neg (by omega)]
     exact hM.gh
    ·rcases hM.far e he with h | h
     ·simp only [getA,getA_delO]; repeat rw [if_neg (by omega)]
     ·simp only [getA,getA_delO]; repeat rw [if_neg (by omega)]
    ·simp only [getA,getA_delO]; repeat rw [if_neg (by omega)]
     exact hM.fr.old e he hx
   ·rw [hall i0 (by simp at hi9; omega)] at hnr; cases hnr
  ·skip
   rintro done S ⟨hc,⟨h7,h8,_⟩ | ⟨h7,h8,_⟩ | ⟨_,s',hF⟩⟩ hall
   ·rw [hall 8 (by decide)] at h8; cases h8
   ·rw [hall 8 (by decide)] at h8; cases h8
   ·refine ⟨some ([4],none),s',srtO S.O,S.n,?_,?_⟩
    ·show St.mk (keepT S.T [4]) _ _ = _
     simp only [St.keep,keepT,hF.p]
    ·obtain ⟨a1,a2,a3,a4,a5,a6⟩ := hF
     refine ⟨?_,by show getA (srtO S.O) _ = _; rw [getA_srtO]; exact a2,by show getA (srtO S.O) _ = _; rw [getA_srtO]; exact a3,a4,W.to a5 (Nat.le_refl _) fun e he => getA_srtO _ _,⟨a6.le,fun e he hx => by show getA (srtO S.O) _ = _; rw [getA_srtO]; exact a6.old e he hx,a6.new⟩⟩
     show getA (keepT S.T [4]) 4 = _
     simp only [keepT,a1,getA,reduceIte]
  rintro S1 ⟨s',O1,n1,rfl,a1,a2,a3,a4,a5,a6⟩
  dsimp only at a1 a2 a3 a5 a6
  have F2 := And.intro F1 (And.intro @a2 @a3)
  refine hn11 (some ([4],none)) _ ?_
  first | refine finO_ret (sgE1 F2) (sgE1 F2) (sgE1 F2) ?_ | refine finO_next (sgE1 F2) (sgE1 F2) (sgE1 F2) ?_
  try dsimp only
  exact ⟨_,fgt_said rfl a4,rfl,tOwn_said a5,a6.le,a6.old,fun e he => by rw [tIds_said] at he; exact a6.new e he⟩
end
end Go.Proofs.YtkmbcjnaaokilaaGreatDoor

/-
  Layer 8 by shadows: codes, tasks.
-/
import Derived.Test.YtkmbcjnaaokilaaGreatDoorK6b
import Derived.Test.YtkmbcjnaaokilaaGreatDoorMK5
import Derived.Test.YtkmbcjnaaokilaaGreatDoorSc8
import Derived.Test.YtkmbcjnaaokilaaGreatDoorMC
namespace Go.Proofs.YtkmbcjnaaokilaaGreatDoor
set_option linter.unusedSimpArgs false
set_option linter.unusedVariables false
open Go.RowKit Go.Maps
theorem infoTask : (Tryz.prog.info? 84).map (fun i => (i.zero,i.size,i.bytes)) = some (some (.agg #[.nilIface,.nilFunc,.int .i64 0,.int .i64 0,.int .i64 0,.int .u32 0,.int .u32 0,.int .i64 0,.int .u32 0,.int .u32 0,.slice none 0 0]),11,96) := by kernel_rfl
set_option maxRecDepth 100000 in
set_option maxHeartbeats 1000000 in
theorem row_cloneTask (g : Nat) (es : List (List Sh)) (hn : es.length ≤ 1000000) : OkRow 74 [.sl 11 g es] 84 11 es := by
 intro w H vs hs hv
 obtain ⟨i0,hi,hz0,hz1,hz2⟩ := info_parts infoTask
 cases hv with
 | cons hx ht =>
  rename_i u vs'
  cases ht
  obtain ⟨a,n,c,rfl⟩ : ∃ a n c,u = Value.slice a n c := by cases hx; exact ⟨_,_,_,rfl⟩
  obtain ⟨xs,p1,p2,p3,p3',_,p5,p6⟩ := sl_cells hs hx
  subst p2
  clear hx
  have hq := fun w a l c => Lib.run_eql_slice_nil (P := Tryz.prog) w 60 _ a l c 0 0 Tryz.underlying60
  cases a with
  | none =>
   have hc := p5 rfl
   have hn0 : es = [] := List.eq_nil_of_length_eq_zero (by omega)
   subst hn0; subst hc
   cases p1
   simp only [List.length_nil]
   go_enter Tryz.func74,Tryz.ntmps74
   go_wp2
   go_ret
   exact ⟨_,[],rfl,Grow.refl hs,by decide,World.ownsRow_nil _ _ _ _,.nil,fun _ => ⟨_,rfl⟩⟩
  | some ad =>
   by_cases h0 : es = []
   ·subst h0
    cases p1
    clear p6
    simp only [List.length_nil]
    go_enter Tryz.func74,Tryz.ntmps74
    go_wp2_with (first
     | (at_builtin; refine wpList_append_nothing rfl _ _ 60 84 i0 rfl Tryz.underlying60 hi _ _ _ rfl rfl ?_)
     | go_in)
    go_ret
    refine ⟨_,[],rfl,(Grow.refl hs).alloc _,by decide,?_,.nil,fun _ => ⟨_,rfl⟩⟩
    exact World.ownsRow_made _ _ 0 (Nat.le_refl _) (by decide) (by simp)
   have hcw : ∀ (j : Nat) (u : Value),xs[j]? = some u → (w.alloc (.cells #[] 84)).cell? (ad.add j) = some u := fun j u hu => by
    obtain ⟨cells,t,fr,h1,h2,h3⟩ := cell_block (p6 ad rfl j u hu)
    simp [World.cell?,h1,heap_past _ _ h2,h3]
   have hxl := p1.length
   have h1 := p1.one
   clear p6
   obtain ⟨n,hN⟩ : ∃ n,n = es.length := ⟨_,rfl⟩
   rw [← hN] at hxl hn p3 ⊢
   have HN := Lib.hid hN
   clear hN
   go_enter Tryz.func74,Tryz.ntmps74
   go_wp2_with (first
    | (at_builtin; refine wpList_append_own _ rfl _ _ 60 rfl w.heap.size 84 i0 _ 11 96 Tryz.underlying60 hi hz0 hz1 hz2 rfl (by decide) (.slice (some ⟨w.heap.size,0,none⟩) 0 0) 0 [] rfl (World.ownsRow_made _ _ 0 (Nat.le_refl _) (by decide) (by simp)) ad n c xs rfl hxl hcw h1 (by unfold maxLen; omega) (by omega) (by simp) ?_; intro v' w1 hown hg1 hnil)
    | go_in)
   go_ret
   refine ⟨v',xs,rfl,?_,by decide,by rw [← HN.out]; simpa using hown,p1,fun e => absurd e h0⟩
   exact ((Grow.refl hs).alloc _).grown hg1 (fun k hk => by simp [Value.ownBlock] at hk; subst hk; exact ⟨Nat.le_refl _,hs.none (Nat.le_refl _)⟩)
structure Coder where
 St : Type
 enc : St → Sh
 next : St → GotV → St × ActM × Bool
 good : Nat → St → Prop
 up : ∀ {n k s},good n s → n ≤ k → good k s
 keeps : ∀ {n s} (g : GotV),good n s → good (n + 1) (next s g).1
 shape : ∀ s,∃ t x,enc s = .ifc t x
class CoRuns (C : Coder) : Prop where
 ok : ∀ {n s} (g : GotV),C.good n s → n ≤ 900 → ∃ t x f,C.enc s = .ifc t x ∧ MethodIs t "Next" f ∧ Enters f ∧ Ok f [x,.agg (eGot g)] (.tup [C.enc (C.next s g).1,.agg (eAct4 (C.next s g).2.1),sB (C.next s g).2.2])
def eCode (C : Coder) : Option C.St → Sh
 | none => .v .nilIface
 | some s => C.enc s
def eFn (C : Coder) (c : Option C.St) (live : Bool) : Sh := if live = true then .fn (.method "Next") [eCode C c] [] else .v .nilFunc
theorem eCode_cases (C : Coder) (c : Option C.St) : eCode C c = .v .nilIface ∨ ∃ t x,eCode C c = .ifc t x := by
 cases c with
 | none => exact .inl rfl
 | some s => exact .inr (C.shape s)
theorem eFn_cases (C : Coder) (c : Option C.St) (b : Bool) : eFn C c b = .v .nilFunc ∨ ∃ f l,eFn C c b = .fn f l [] := by
 unfold eFn
 split
 ·exact .inr ⟨_,_,rfl⟩
 ·exact .inl rfl
structure TaskM (C : Coder) where
 code : Option C.St
 live : Bool
 act : ActM
 gots : List GotV
abbrev eTask {C : Coder} (t : TaskM C) : List Sh := [eCode C t.code,eFn C t.code t.live,sI t.act.op,sI t.act.place,sI t.act.old.val,sU t.act.old.ver,sU t.act.old.ref,sI t.act.new.val,sU t.act.new.ver,sU t.act.new.ref,.sl 4 0 (t.gots.map eGot)]
structure Plain (x : Sh) : Prop where
 res : ∀ S : St,S.res x = x
 arg1 : ∀ S : St,S.arg1 x = some x
 arg : ∀ S : St,S.arg x = some x
 cells : x.cells = [x]
 one : x.one = true
 pure : x.pure = true
 frzS : ∀ S : St,S.frzSh x = S
 frzC : ∀ (S : St) l,S.frzCells (x :: l) = S.frzCells l
 noS : ∀ S : St,noFrzS S x = true
 noC : ∀ S : St,noFrzC S x = true
 refC : ∀ ids,refsC ids x = true
 refO : ∀ ids,refsOk ids x = true
 renC : ∀ ids,renC ids x = x
 renS : ∀ ids,renSh ids x = x
theorem plain_ifc (t : TypeId) (x : Sh) : Plain (.ifc t x) := ⟨fun _ => rfl,fun _ => rfl,fun _ => rfl,rfl,rfl,rfl,fun _ => rfl,fun _ _ => rfl,fun _ => rfl,fun _ => rfl,fun _ => rfl,fun _ => rfl,fun _ => rfl,fun _ => rfl⟩
theorem plain_fn (f : Fn) (a b : List Sh) : Plain (.fn f a b) := ⟨fun _ => rfl,fun _ => rfl,fun _ => rfl,rfl,rfl,rfl,fun _ => rfl,fun _ _ => rfl,fun _ => rfl,fun _ => rfl,fun _ => rfl,fun _ => rfl,fun _ => rfl,fun _ => rfl⟩
theorem plain_v (v : Value) : Plain (.v v) := ⟨fun _ => rfl,fun _ => rfl,fun _ => rfl,rfl,rfl,rfl,fun _ => rfl,fun _ _ => rfl,fun _ => rfl,fun _ => rfl,fun _ => rfl,fun _ => rfl,fun _ => rfl,fun _ => rfl⟩
theorem plain_code (C : Coder) (c : Option C.St) : Plain (eCode C c) := by
 rcases eCode_cases C c with e | ⟨t,x,e⟩
 ·rw [e]; exact plain_v _
 ·rw [e]; exact plain_ifc _ _
theorem plain_eFn (C : Coder) (c : Option C.St) (b : Bool) : Plain (eFn C c b) := by
 rcases eFn_cases C c b with e | ⟨t,x,e⟩
 ·rw [e]; exact plain_v _
 ·rw [e]; exact plain_fn _ _ _
theorem plainF {x : Sh} (p : Plain x) : (∀ S : St,S.res x = x) ∧ (∀ S : St,S.arg1 x = some x) ∧ (∀ S : St,S.arg x = some x) ∧ x.cells = [x] ∧ x.one = true ∧ x.pure = true ∧ (∀ S : St,S.frzSh x = S) ∧ (∀ (S : St) l,S.frzCells (x :: l) = S.frzCells l) ∧ (∀ S : St,noFrzS S x = true) ∧ (∀ S : St,noFrzC S x = true) ∧ (∀ ids,refsC ids x = true) ∧ (∀ ids,refsOk ids x = true) ∧ (∀ ids,renC ids x = x) ∧ (∀ ids,renSh ids x = x) :=
 ⟨p.res,p.arg1,p.arg,p.cells,p.one,p.pure,p.frzS,p.frzC,p.noS,p.noC,p.refC,p.refO,p.renC,p.renS⟩
theorem shK (C : Coder) : (∀ c (S : St),S.res (eCode C c) = eCode C c) ∧ (∀ c (S : St),S.arg1 (eCode C c) = some (eCode C c)) ∧ (∀ c (S : St),S.arg (eCode C c) = some (eCode C c)) ∧ (∀ c,(eCode C c).cells = [eCode C c]) ∧ (∀ c,(eCode C c).one = true) ∧ (∀ c,(eCode C c).pure = true) ∧ (∀ c (S : St),S.frzSh (eCode C c) = S) ∧ (∀ c (S : St) l,S.frzCells (eCode C c :: l) = S.frzCells l) ∧ (∀ c (S : St),noFrzS S (eCode C c) = true) ∧ (∀ c (S : St),noFrzC S (eCode C c) = true) ∧ (∀ c ids,refsC ids (eCode C c) = true) ∧ (∀ c ids,refsOk ids (eCode C c) = true) ∧ (∀ c ids,renC ids (eCode C c) = eCode C c) ∧ (∀ c ids,renSh ids (eCode C c) = eCode C c) ∧
  (∀ c b (S : St),S.res (eFn C c b) = eFn C c b) ∧ (∀ c b (S : St),S.arg1 (eFn C c b) = some (eFn C c b)) ∧ (∀ c b (S : St),S.arg (eFn C c b) = some (eFn C c b)) ∧ (∀ c b,(eFn C c b).cells = [eFn C c b]) ∧ (∀ c b,(eFn C c b).one = true) ∧ (∀ c b,(eFn C c b).pure = true) ∧ (∀ c b (S : St),S.frzSh (eFn C c b) = S) ∧ (∀ c b (S : St) l,S.frzCells (eFn C c b :: l) = S.frzCells l) ∧ (∀ c b (S : St),noFrzS S (eFn C c b) = true) ∧ (∀ c b (S : St),noFrzC S (eFn C c b) = true) ∧ (∀ c b ids,refsC ids (eFn C c b) = true) ∧ (∀ c b ids,refsOk ids (eFn C c b) = true) ∧ (∀ c b ids,renC ids (eFn C c b) = eFn C c b) ∧ (∀ c b ids,renSh ids (eFn C c b) = eFn C c b) :=
 ⟨fun c => (plain_code C c).res,fun c => (plain_code C c).arg1,fun c => (plain_code C c).arg,fun c => (plain_code C c).cells,fun c => (plain_code C c).one,fun c => (plain_code C c).pure,fun c => (plain_code C c).frzS,fun c => (plain_code C c).frzC,fun c => (plain_code C c).noS,fun c => (plain_code C c).noC,fun c => (plain_code C c).refC,fun c => (plain_code C c).refO,fun c => (plain_code C c).renC,fun c => (plain_code C c).renS,
  fun c b => (plain_eFn C c b).res,fun c b => (plain_eFn C c b).arg1,fun c b => (plain_eFn C c b).arg,fun c b => (plain_eFn C c b).cells,fun c b => (plain_eFn C c b).one,fun c b => (plain_eFn C c b).pure,fun c b => (plain_eFn C c b).frzS,fun c b => (plain_eFn C c b).frzC,fun c b => (plain_eFn C c b).noS,fun c b => (plain_eFn C c b).noC,fun c b => (plain_eFn C c b).refC,fun c b => (plain_eFn C c b).refO,fun c b => (plain_eFn C c b).renC,fun c b => (plain_eFn C c b).renS⟩
def zAct : ActM := ⟨0,0,zWord,zWord⟩
def zTask (C : Coder) : TaskM C := ⟨none,false,zAct,[]⟩
def saidM {C : Coder} (t : TaskM C) (s : C.St) (a : ActM) (done : Bool) : TaskM C := if done = true then ⟨some s,false,zAct,t.gots⟩ else ⟨some s,true,a,t.gots⟩
theorem codeIface : Tryz.prog.underlying 35 = some (.interface (Tryz.prog.methodsAt 35)) := by kernel_rfl
theorem fnNext : Tryz.prog.underlying 75 = some (.func #[100] #[35,81,4] false) := by kernel_rfl
set_option maxHeartbeats 2000000 in
theorem ok_kTold {C : Coder} (t : TaskM C) (s : C.St) (a : ActM) (done : Bool) : Ok 82 [.agg (eTask t),eCode C (some s),.agg (eAct4 a),sB done] (.agg (eTask (saidM t s a done))) := by
 refine ok_of_tr Tryz.func82 tr_kTold rfl ?_
 obtain ⟨ty,x,he⟩ := C.shape s
 have hes : eCode C (some s) = .ifc ty x := he
 have hK := shK C
 cases done
 ·have e1 : saidM t s a false = ⟨some s,true,a,t.gots⟩ := if_neg (by simp)
  have e2 : eFn C (some s) true = .fn (.method "Next") [.ifc ty x] [] := by unfold eFn; rw [if_pos rfl,hes]
  rw [e1,hes]
  simp only [eTask,hes,e2]
  unfold evFn sc_kTold rv_kTold
  have F1 := @hK
  refine eS fun K1 hn1 hr1 he1 => ?_;refine eO fun K2 hk2 => ?_;refine tL F1 ?_;refine hk2 _ ?_;refine hn1 (some ([1,3,4,6,8],none)) _ ?_;refine eS fun K3 hn3 hr3 he3 => ?_;refine eP ([]) [1,3,4,8] [0,1,2,4,6] [3,5,7] (by kernel_rfl) (fun K4 hk4 => ?_);refine sp0 ?_
  have F2 := And.intro F1 @shPP
  refine evP_take 2 fun K5 hk5 => ?_;refine sh1 F2 ?_;refine sd ?_;refine hk5 _ ?_;refine sh1 F2 ?_;refine hk4 _ (by rfl) (fun K6 hk6 => ?_);refine sp0 ?_;refine toKL ?_;refine tC 1 F2 ?_;refine tC 1 F2 ?_;refine tZ F2 ?_;refine hk6 _ ?_;refine so0 ?_;refine hn3 (some ([1,3,4,8],none)) _ ?_;refine eS fun K7 hn7 hr7 he7 => ?_;refine eS fun K8 hn8 hr8 he8 => ?_;refine eO fun K9 hk9 => ?_;refine tS 3 F2 ?_;refine tS 1 F2 ?_;refine Or.inl ⟨_,gen_some_eq codeIface,?_⟩;refine tL F2 ?_;refine hk9 _ ?_;refine hn8 (some ([1,4,8,18],none)) _ ?_;refine eCf ?_;refine hn7 (some ([1,4,8],none)) _ ?_;refine eS fun K10 hn10 hr10 he10 => ?_;refine eO fun K11 hk11 => ?_;refine tZ F2 ?_;refine hk11 _ ?_;refine hn10 (some ([4,8],none)) _ ?_;refine eS fun K12 hn12 hr12 he12 => ?_;refine eO fun K13 hk13 => ?_;refine tC 1 F2 ?_;refine tZ F2 ?_;refine hk13 _ ?_;refine hn12 (some ([8],none)) _ ?_
  exact sf1 F2
 ·have e1 : saidM t s a true = ⟨some s,false,zAct,t.gots⟩ := if_pos rfl
  have e2 : eFn C (some s) false = .v .nilFunc := rfl
  rw [e1,hes]
  simp only [eTask,hes,e2]
  unfold evFn sc_kTold rv_kTold
  have F1 := @hK
  refine eS fun K1 hn1 hr1 he1 => ?_;refine eO fun K2 hk2 => ?_;refine tL F1 ?_;refine hk2 _ ?_;refine hn1 (some ([1,3,4,6,8],none)) _ ?_;refine eS fun K3 hn3 hr3 he3 => ?_;refine eP ([]) [1,3,4,8] [0,1,2,4,6] [3,5,7] (by kernel_rfl) (fun K4 hk4 => ?_);refine sp0 ?_
  have F2 := And.intro F1 @shPP
  refine evP_take 2 fun K5 hk5 => ?_;refine sh1 F2 ?_;refine sd ?_;refine hk5 _ ?_;refine sh1 F2 ?_;refine hk4 _ (by rfl) (fun K6 hk6 => ?_);refine sp0 ?_;refine toKL ?_;refine tC 1 F2 ?_;refine tC 1 F2 ?_;refine tZ F2 ?_;refine hk6 _ ?_;refine so0 ?_;refine hn3 (some ([1,3,4,8],none)) _ ?_;refine eS fun K7 hn7 hr7 he7 => ?_;refine eS fun K8 hn8 hr8 he8 => ?_;refine eO fun K9 hk9 => ?_;refine tS 3 F2 ?_;refine tS 1 F2 ?_
  skip
  refine tL F2 ?_;refine hk9 _ ?_;refine hn8 (some ([1,4,8,18],none)) _ ?_;refine eCt ?_;refine eS fun K10 hn10 hr10 he10 => ?_;refine eO fun K11 hk11 => ?_;refine tZ F2 ?_;refine hk11 _ ?_;refine hn10 (some ([4,8],none)) _ ?_;refine eS fun K12 hn12 hr12 he12 => ?_;refine eO fun K13 hk13 => ?_;refine tC 1 F2 ?_;refine tZ F2 ?_;refine hk13 _ ?_;refine hn12 (some ([8],none)) _ ?_;refine hr7 _ ?_;refine sg1 F2 ?_
  rfl
theorem ok_kDone {C : Coder} (t : TaskM C) : Ok 55 [.agg (eTask t)] (sB (!t.live)) := by
 refine ok_of_tr Tryz.func55 tr_kDone rfl ?_
 have hK := shK C
 have hE : EqSh 75 (eFn C t.code t.live) (.v .nilFunc) (!t.live) := by
  cases t.live
  ·exact eqsh_fn_nil fnNext
  ·exact eqsh_fn_some fnNext
 unfold evFn sc_kDone rv_kDone
 have F1 := @hK
 refine eS fun _ hn1 _ _ => ?_;refine eO fun _ hk2 => ?_;refine tL F1 ?_;refine hk2 _ ?_;refine hn1 (some ([1],none)) _ ?_;refine eS fun _ hn3 _ _ => ?_;refine eO fun _ hk4 => ?_;refine tC 2 F1 ?_;refine tS 1 F1 ?_;refine Or.inl ⟨_,hE,?_⟩;refine tL F1 ?_;refine hk4 _ ?_;refine hn3 (some ([2],none)) _ ?_
 exact sf1 F1
theorem ok_kAct {C : Coder} (t : TaskM C) : Ok 72 [.agg (eTask t)] (.tup [.agg (eAct4 t.act),sB t.live]) := by
 refine ok_of_tr Tryz.func72 tr_kAct rfl ?_
 have hK := shK C
 have hn : (!!t.live) = t.live := by simp
 unfold evFn sc_kAct rv_kAct
 have F1 := And.intro @hK @hn
 refine eS fun _ hn1 _ _ => ?_;refine eO fun _ hk2 => ?_;refine tL F1 ?_;refine hk2 _ ?_;refine hn1 (some ([1,2],none)) _ ?_;refine eS fun _ hn3 _ _ => ?_;refine eP ([]) [2,3] [0,1,2,3,4,6] [5] (by kernel_rfl) (fun _ hk4 => ?_);refine sp0 ?_
 have F2 := And.intro F1 @shPP
 refine evP_take 2 fun _ hk5 => ?_;refine sh1 F2 ?_;refine sd ?_;refine hk5 _ ?_;refine evP_take 1 fun _ hk6 => ?_;refine sh1 F2 ?_;refine sd ?_;refine hk6 _ ?_;refine evP_take 1 fun _ hk7 => ?_;refine sh1 F2 ?_;refine ⟨_,ok_kDone t,?_⟩;refine hk7 _ ?_;refine sh1 F2 ?_;refine hk4 _ (by rfl) (fun _ hk8 => ?_);refine sp0 ?_;refine toKL ?_;refine tZ F2 ?_;refine hk8 _ ?_;refine so0 ?_;refine hn3 (some ([2,3],none)) _ ?_
 exact sf1 F2
theorem ok_kCode {C : Coder} (t : TaskM C) : Ok 45 [.agg (eTask t)] (eCode C t.code) := by
 refine ok_of_tr Tryz.func45 tr_kCode rfl ?_
 have hK := shK C
 unfold evFn sc_kCode rv_kCode
 have F1 := @hK
 refine eS fun _ hn1 _ _ => ?_;refine eO fun _ hk2 => ?_;refine tL F1 ?_;refine hk2 _ ?_;refine hn1 (some ([1],none)) _ ?_;refine eS fun _ hn3 _ _ => ?_;refine eO fun _ hk4 => ?_;refine tC 2 F1 ?_;refine tL F1 ?_;refine hk4 _ ?_;refine hn3 (some ([2],none)) _ ?_
 exact sf1 F1
def startM {C : Coder} (s : C.St) : TaskM C := saidM (zTask C) (C.next s zGot).1 (C.next s zGot).2.1 (C.next s zGot).2.2
def giveM {C : Coder} (t : TaskM C) (g : GotV) : TaskM C := if t.live = true then (match t.code with
 | some s => saidM { t with gots := t.gots ++ [g] } (C.next s g).1 (C.next s g).2.1 (C.next s g).2.2
 | none => t) else t
structure TaskOk {C : Coder} (t : TaskM C) (n : Nat) : Prop where
 gots : t.gots.length ≤ n
 code : t.live = true → ∃ s,t.code = some s
 good : ∀ s,t.code = some s → C.good n s
theorem ok_clipGot (g : Nat) (es : List (List Sh)) : Ok 94 [.sl 4 g es] (.sl 4 1 es) := by
 refine ok_of_tr Tryz.func94 tr_clipGot rfl ?_
 unfold evFn sc_clipGot rv_clipGot
 refine eS fun _ hn1 _ _ => ?_;refine eO fun _ hk2 => ?_;refine tL0 ?_;refine hk2 _ ?_;refine hn1 (some ([0],none)) _ ?_;refine eS fun _ hn3 _ _ => ?_;refine eO fun _ hk4 => ?_;refine tC0 6 ?_;refine tL0 ?_;refine hk4 _ ?_;refine hn3 (some ([2],none)) _ ?_
 exact sf0
end Go.Proofs.YtkmbcjnaaokilaaGreatDoor

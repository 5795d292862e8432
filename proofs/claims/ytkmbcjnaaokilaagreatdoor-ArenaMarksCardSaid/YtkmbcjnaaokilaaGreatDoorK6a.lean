/-
  Layer 6 by shadows: the machine, its small functions.
-/
import Derived.Test.YtkmbcjnaaokilaaGreatDoorMK13
import Derived.Test.YtkmbcjnaaokilaaGreatDoorMK10
import Derived.Test.YtkmbcjnaaokilaaGreatDoorSc6
import Derived.Test.YtkmbcjnaaokilaaGreatDoorMC
namespace Go.Proofs.YtkmbcjnaaokilaaGreatDoor
set_option linter.unusedSimpArgs false
set_option linter.unusedVariables false
open Go.RowKit Go.Maps
theorem infoInt : (Tryz.prog.info? 3).map (fun i => (i.zero,i.size,i.bytes)) = some (some (.int .i64 0),1,8) := by kernel_rfl
set_option maxRecDepth 100000 in
set_option maxHeartbeats 1000000 in
theorem row_cloneInt (g : Nat) (es : List (List Sh)) (hn : es.length ≤ 1000000) : OkRow 71 [.sl 1 g es] 3 1 es := by
 intro w H vs hs hv
 obtain ⟨i0,hi,hz0,hz1,hz2⟩ := info_parts infoInt
 cases hv with
 | cons hx ht =>
  rename_i u vs'
  cases ht
  obtain ⟨a,n,c,rfl⟩ : ∃ a n c,u = Value.slice a n c := by cases hx; exact ⟨_,_,_,rfl⟩
  obtain ⟨xs,p1,p2,p3,p3',_,p5,p6⟩ := sl_cells hs hx
  subst p2
  clear hx
  have hq := fun w a l c => Lib.run_eql_slice_nil (P := Tryz.prog) w 29 _ a l c 0 0 Tryz.underlying29
  cases a with
  | none =>
   have hc := p5 rfl
   have hn0 : es = [] := List.eq_nil_of_length_eq_zero (by omega)
   subst hn0; subst hc
   cases p1
   simp only [List.length_nil]
   go_enter Tryz.func71,Tryz.ntmps71
   go_wp2
   go_ret
   exact ⟨_,[],rfl,Grow.refl hs,by decide,World.ownsRow_nil _ _ _ _,.nil,fun _ => ⟨_,rfl⟩⟩
  | some ad =>
   by_cases h0 : es = []
   ·subst h0
    cases p1
    clear p6
    simp only [List.length_nil]
    go_enter Tryz.func71,Tryz.ntmps71
    go_wp2_with (first
     | (at_builtin; refine wpList_append_nothing rfl _ _ 29 3 i0 rfl Tryz.underlying29 hi _ _ _ rfl rfl ?_)
     | go_in)
    go_ret
    refine ⟨_,[],rfl,(Grow.refl hs).alloc _,by decide,?_,.nil,fun _ => ⟨_,rfl⟩⟩
    exact World.ownsRow_made _ _ 0 (Nat.le_refl _) (by decide) (by simp)
   have hcw : ∀ (j : Nat) (u : Value),xs[j]? = some u → (w.alloc (.cells #[] 3)).cell? (ad.add j) = some u := fun j u hu => by
    obtain ⟨cells,t,fr,h1,h2,h3⟩ := cell_block (p6 ad rfl j u hu)
    simp [World.cell?,h1,heap_past _ _ h2,h3]
   have hxl := p1.length
   have h1 := p1.one
   clear p6
   obtain ⟨n,hN⟩ : ∃ n,n = es.length := ⟨_,rfl⟩
   rw [← hN] at hxl hn p3 ⊢
   have HN := Lib.hid hN
   clear hN
   go_enter Tryz.func71,Tryz.ntmps71
   go_wp2_with (first
    | (at_builtin; refine wpList_append_own _ rfl _ _ 29 rfl w.heap.size 3 i0 _ 1 8 Tryz.underlying29 hi hz0 hz1 hz2 rfl (by decide) (.slice (some ⟨w.heap.size,0,none⟩) 0 0) 0 [] rfl (World.ownsRow_made _ _ 0 (Nat.le_refl _) (by decide) (by simp)) ad n c xs rfl hxl hcw h1 (by unfold maxLen; omega) (by omega) (by simp) ?_; intro v' w1 hown hg1 hnil)
    | go_in)
   go_ret
   refine ⟨v',xs,rfl,?_,by decide,by rw [← HN.out]; simpa using hown,p1,fun e => absurd e h0⟩
   exact ((Grow.refl hs).alloc _).grown hg1 (fun k hk => by simp [Value.ownBlock] at hk; subst hk; exact ⟨Nat.le_refl _,hs.none (Nat.le_refl _)⟩)
structure MachM where
 mem : MemM
 lines : LinesM
 steps : List Int
 crashes : Int
abbrev eSt (x : Int) : List Sh := [sI x]
abbrev cMach (M : MachM) : List Sh := [.sl 1 0 (M.mem.places.map ePlace),.sl 1 0 (M.mem.views.map eV1),.sl 3 0 (M.lines.first.map eWord),.sl 2 0 (M.lines.logs.map eLog),.mp 3 fun t => (M.lines.asks t).map eAsked,.sl 1 0 (M.steps.map eSt),sI M.crashes]
abbrev eMach (M : MachM) : Sh := .agg (cMach M)
structure GotV where
 word : WordV
 ok : Bool
abbrev eGot (g : GotV) : List Sh := [sI g.word.val,sU g.word.ver,sU g.word.ref,sB g.ok]
def zGot : GotV := ⟨⟨0,0,0⟩,false⟩
def zMach : MachM := ⟨⟨[],[]⟩,⟨[],[],fun _ => none⟩,[],0⟩
def cnewM (k : Int) (ws : List WordV) : MachM × Int :=
 if (mnewM k ws).2 = 0 then (⟨(mnewM k ws).1,newM ws,List.replicate k.toNat 0,0⟩,0) else (zMach,(mnewM k ws).2)
theorem mnew_ok {k : Int} {ws : List WordV} (h : (mnewM k ws).2 = 0) : 1 ≤ k ∧ k ≤ 8 ∧ 0 < ws.length ∧ ws.length ≤ 4096 ∧ (mnewM k ws).1 = ⟨ws.map newP,List.replicate k.toNat fun _ => none⟩ := by
 unfold mnewM at h ⊢
 split at h
 ·cases h
 ·split at h
  ·cases h
  ·split at h
   ·cases h
   ·rename_i h1 h2 h3
    rw [if_neg h1,if_neg h2,if_neg h3]
    exact ⟨by omega,by omega,by omega,by omega,rfl⟩
set_option maxHeartbeats 2000000 in
theorem ok_cNew (k : Int) (g : Nat) (ws : List WordV) : Ok 42 [sI k,.sl 3 g (ws.map eWord)] (.tup [eMach (cnewM k ws).1,sI (cnewM k ws).2]) := by
 refine ok_of_tr Tryz.func42 tr_cNew rfl ?_
 have c0 := ok_mNew k g ws
 unfold cnewM
 by_cases h : (mnewM k ws).2 = 0
 ·rw [if_pos h]
  obtain ⟨h1,h2,h3,h4,e⟩ := mnew_ok h
  rw [h] at c0
  have c1 := ok_lineNew g ws h4
  generalize mnewM k ws = R at c0 ⊢
  obtain ⟨q,rfl⟩ := Int.eq_ofNat_of_zero_le (show 0 ≤ k by omega)
  have q1 : q ≤ 1000000 := by omega
  have q2 : q * 8 ≤ 140737488355328 := by omega
  unfold evFn sc_cNew rv_cNew
  have F1 := And.intro @q1 @q2
  refine eS fun K1 hn1 hr1 he1 => ?_;refine eO fun K2 hk2 => ?_;refine tL F1 ?_;refine hk2 _ ?_;refine hn1 (some ([0,1,4],none)) _ ?_;refine eS fun K3 hn3 hr3 he3 => ?_;refine eO fun K4 hk4 => ?_;refine tS 2 F1 ?_;refine tS 1 F1 ?_;refine Or.inl (Or.inl ⟨_,c0,?_⟩);refine tC 5 F1 ?_;refine tL F1 ?_;refine hk4 _ ?_;refine hn3 (some ([0,1,4,6,7],none)) _ ?_;refine eS fun K5 hn5 hr5 he5 => ?_;refine eS fun K6 hn6 hr6 he6 => ?_;refine eO fun K7 hk7 => ?_;refine tZ F1 ?_;refine hk7 _ ?_;refine hn6 (some ([0,1,4,6,7,16],none)) _ ?_;refine eCf ?_;refine hn5 (some ([0,1,4,6],none)) _ ?_;refine eS fun K8 hn8 hr8 he8 => ?_;refine eO fun K9 hk9 => ?_;refine tS 1 F1 ?_;refine tS 1 F1 ?_;refine Or.inl (Or.inl ⟨_,c1,?_⟩);refine tC 5 F1 ?_;refine tL F1 ?_;refine hk9 _ ?_;refine hn8 (some ([0,4,6,7,8],none)) _ ?_;refine eS fun _ hn10 _ _ => ?_;refine eS fun _ hn11 _ _ => ?_;refine eO fun _ hk12 => ?_
  refine tZ F1 ?_;refine hk12 _ ?_;refine hn11 (some ([0,4,6,7,8,25],none)) _ ?_;refine eCf ?_;refine hn10 (some ([0,4,6,8],none)) _ ?_;refine eS fun _ hn13 _ _ => ?_;refine eD [] (n := 4) fun _ hk14 => ?_;refine sq0 ?_;refine fC 1 F1 ?_;refine fC 1 F1 ?_;refine fZ F1 ?_;refine hk14 _ ?_;refine sr0 ?_;refine tC 2 F1 ?_;refine tL F1 ?_;refine hn13 (some ([4,5],none)) _ ?_;refine sg1 F1 ?_
  simp
 ·rw [if_neg h]
  generalize mnewM k ws = R at c0 h ⊢
  have d : (R.2 != 0) = true := by simpa using h
  unfold evFn sc_cNew rv_cNew
  have F1 := @d
  refine eS fun K1 hn1 hr1 he1 => ?_;refine eO fun K2 hk2 => ?_;refine tL F1 ?_;refine hk2 _ ?_;refine hn1 (some ([0,1,4],none)) _ ?_;refine eS fun K3 hn3 hr3 he3 => ?_;refine eO fun K4 hk4 => ?_;refine tS 2 F1 ?_;refine tS 1 F1 ?_;refine Or.inl (Or.inl ⟨_,c0,?_⟩);refine tC 5 F1 ?_;refine tL F1 ?_;refine hk4 _ ?_;refine hn3 (some ([0,1,4,6,7],none)) _ ?_;refine eS fun K5 hn5 hr5 he5 => ?_;refine eS fun K6 hn6 hr6 he6 => ?_;refine eO fun K7 hk7 => ?_;refine tZ F1 ?_;refine hk7 _ ?_;refine hn6 (some ([0,1,4,6,7,16],none)) _ ?_;refine eCt ?_;refine eS fun K8 hn8 hr8 he8 => ?_;refine eO fun K9 hk9 => ?_;refine tC 3 F1 ?_;refine tL F1 ?_;refine hk9 _ ?_;refine hn8 (some ([4,5],none)) _ ?_;refine hr5 _ ?_;refine sg1 F1 ?_
  rfl
theorem ok_cSize (M : MachM) : Ok 47 [eMach M] (.tup [sI M.mem.views.length,sI M.mem.places.length]) := by
 refine ok_of_tr Tryz.func47 tr_cSize rfl ?_
 unfold evFn sc_cSize rv_cSize
 refine eS fun _ hn1 _ _ => ?_;refine eO fun _ hk2 => ?_;refine tL0 ?_;refine hk2 _ ?_;refine hn1 (some ([1],none)) _ ?_;refine eS fun _ hn3 _ _ => ?_;refine eO fun _ hk4 => ?_;refine tC0 2 ?_;refine tS0 1 ?_;refine Or.inl (Or.inl ⟨_,ok_mSize M.mem,?_⟩);refine tL0 ?_;refine hk4 _ ?_;refine hn3 (some ([2,3],none)) _ ?_
 exact sf0
theorem ok_cWord (M : MachM) (a : Int) {n : Nat} (hM : MemOk M.mem n) (hn : n ≤ 100000) : Ok 48 [eMach M,sI a] (.tup [.agg (eWord (lastWM M.mem a)),sB (decide (PlcB M.mem a))]) := by
 refine ok_of_tr Tryz.func48 tr_cWord rfl ?_
 have c0 := ok_mLast M.mem a hM hn
 generalize lastWM M.mem a = w at c0 ⊢
 unfold evFn sc_cWord rv_cWord
 refine eS fun _ hn1 _ _ => ?_;refine eO fun _ hk2 => ?_;refine tL0 ?_;refine hk2 _ ?_;refine hn1 (some ([1,2,4],none)) _ ?_;refine eS fun _ hn3 _ _ => ?_;refine eO fun _ hk4 => ?_;refine tC0 2 ?_;refine tS0 1 ?_;refine tS0 1 ?_;refine Or.inl (Or.inl ⟨_,c0,?_⟩);refine tC0 3 ?_;refine tL0 ?_;refine hk4 _ ?_;refine hn3 (some ([4,5],none)) _ ?_
 exact sf0
def wordsM (M : MachM) : List WordV := (List.range M.mem.places.length).map fun (p : Nat) => lastWM M.mem (p : Int)
theorem words_len (M : MachM) : (wordsM M).length = M.mem.places.length := by simp [wordsM]
def WdInv (M : MachM) (m : Nat) (S : St) : Prop :=
 ∃ i : Nat,i ≤ M.mem.places.length ∧ m = M.mem.places.length - i ∧ S = ⟨[(1,.ptr 0 0 0),(5,.own 1),(14,sI M.mem.places.length),(15,sI i)],[(0,.box 59 (cMach M)),(1,.row 79 3 (((wordsM M).take i).map eWord))],2⟩
set_option maxHeartbeats 2000000 in
theorem ok_cWords (M : MachM) {n : Nat} (hM : MemOk M.mem n) (hn : n ≤ 100000) : Ok 23 [eMach M] (.sl 3 0 ((wordsM M).map eWord)) := by
 refine ok_of_tr Tryz.func23 tr_cWords rfl ?_
 have hpl := hM.pl
 have hwl := words_len M
 unfold evFn sc_cWords rv_cWords
 refine eS fun _ hn1 _ _ => ?_;refine eO fun _ hk2 => ?_;refine tL0 ?_;refine hk2 _ ?_;refine hn1 (some ([1],none)) _ ?_;refine eS fun _ hn3 _ _ => ?_;refine eO fun _ hk4 => ?_;refine tC0 1 ?_;refine tS0 1 ?_;refine Or.inl (Or.inl ⟨_,ok_cSize M,?_⟩);refine tL0 ?_;refine hk4 _ ?_;refine hn3 (some ([1,4],none)) _ ?_;refine eS fun _ hn5 _ _ => ?_;refine eO fun _ hk6 => ?_;refine tL0 ?_;refine hk6 _ ?_;refine hn5 (some ([1,4,5],none)) _ ?_;refine eS fun _ hn7 _ _ => ?_;refine eS fun _ hn8 _ _ => ?_;refine eO fun _ hk9 => ?_;refine tL0 ?_;refine hk9 _ ?_;refine hn8 (some ([1,5,14,15],none)) _ ?_;refine eB fun _ _ hx10 _ _ => ?_;refine eW (WdInv M) (M.mem.places.length) (some ([1,5,14,15],some ([0,1],2))) ([.slot 5 (some 79) 3]) ?_ ?_
 ·try refine lp0 ?_
  exact ⟨0,by omega,by omega,rfl⟩
 ·intro k S1 hI
  obtain ⟨i,hi,rfl,rfl⟩ := hI
  have hcase : i = M.mem.places.length ∨ i < M.mem.places.length := by omega
  intro _ hn11 _ he11
  rcases hcase with hcc | hcc
  ·skip
   have w2 : ¬ (i : Int) < (M.mem.places.length : Int) := by omega
   have w3 : (wordsM M).take i = wordsM M := by rw [List.take_of_length_le (by omega)]
   have F1 := And.intro @w2 @w3
   refine eS fun _ hn12 _ _ => ?_;refine eO fun _ hk13 => ?_;refine tZ F1 ?_;refine hk13 _ ?_;refine hn12 (some ([1,5,14,15,16],none)) _ ?_;refine eS fun _ _ _ he14 => ?_;refine eCf ?_;refine he14 0 _ ?_;refine he11 0 _ ?_;refine hx10 _ ?_;refine hn7 (some ([5],none)) _ ?_;refine eS fun _ hn15 _ _ => ?_;refine eO fun _ hk16 => ?_;refine tL F1 ?_;refine hk16 _ ?_;refine hn15 (some ([2],none)) _ ?_
   exact sf1 F1
  ·skip
   skip
   have w2 : (i : Int) < (M.mem.places.length : Int) := by omega
   have w3 : IntKind.i64.wrap ((i : Int) + 1) = ((i + 1 : Nat) : Int) := by rw [IntKind.wrap_i64]; omega
   have c1 := ok_cWord M (i : Int) hM hn
   have e1 : (wordsM M)[i]? = some (lastWM M.mem (i : Int)) := by simp [wordsM,hcc]
   have e2 : (wordsM M).take (i + 1) = (wordsM M).take i ++ [lastWM M.mem (i : Int)] := by rw [List.take_add_one,e1]; rfl
   generalize lastWM M.mem (i : Int) = w at c1 e2
   have w4 : ((wordsM M).take i).length = i := by simp; omega
   have w5 : (i + 1) * 16 ≤ 140737488355328 := by omega
   have F2 := And.intro @w2 (And.intro @w3 (And.intro @w4 @w5))
   refine eS fun _ hn17 _ _ => ?_;refine eO fun _ hk18 => ?_;refine tZ F2 ?_;refine hk18 _ ?_;refine hn17 (some ([1,5,14,15,16],none)) _ ?_;refine eS fun _ hn19 _ _ => ?_;refine eCt ?_;refine hn19 (some ([1,5,14,15],none)) _ ?_;refine eS fun _ hn20 _ _ => ?_;refine eB fun _ hn21 _ _ _ => ?_;refine eS fun _ hn22 _ _ => ?_;refine eO fun _ hk23 => ?_;refine tL F2 ?_;refine hk23 _ ?_;refine hn22 (some ([1,5,6,14,15],none)) _ ?_;refine eS fun _ hn24 _ _ => ?_;refine eO fun _ hk25 => ?_;refine tC 1 F2 ?_;refine tS 1 F2 ?_;refine tS 1 F2 ?_;refine Or.inl (Or.inl ⟨_,c1,?_⟩);refine tC 5 F2 ?_;refine tL F2 ?_;refine hk25 _ ?_;refine hn24 (some ([1,5,7,14,15],none)) _ ?_;refine eO fun _ hk26 => ?_;refine tC 2 F2 ?_;refine tC 1 F2 ?_;refine tC 1 F2 ?_;refine tL F2 ?_;refine hk26 _ ?_;refine hn21 _ ?_;refine hn20 (some ([1,5,14,15],none)) _ ?_;refine eO fun _ hk27 => ?_;refine tC 1 F2 ?_;refine tL F2 ?_
   refine hk27 _ ?_;refine hn11 (M.mem.places.length - (i + 1)) (some ([1,5,14,15],some ([0,3],2))) _ ?_ ?_
   all_goals try refine lp0 ?_
   ·omega
   ·exact ⟨i + 1,by omega,by omega,by rw [e2,List.map_append]; rfl⟩
def changesB (op : Int) : Bool := op == 3 || op == 4 || op == 6
theorem ok_cChanges (a : ActM) : Ok 89 [.agg (eAct4 a)] (sB (changesB a.op)) := by
 refine ok_of_tr Tryz.func89 tr_cChanges rfl ?_
 unfold changesB
 cases h1 : a.op == 3
 ·cases h2 : a.op == 4
  ·skip
   unfold evFn sc_cChanges rv_cChanges
   have F1 := And.intro @h1 @h2
   refine eS fun K1 hn1 hr1 he1 => ?_;refine eO fun K2 hk2 => ?_;refine tL F1 ?_;refine hk2 _ ?_;refine hn1 (some ([1],none)) _ ?_;refine eS fun K3 hn3 hr3 he3 => ?_;refine eO fun K4 hk4 => ?_;refine tC 2 F1 ?_;refine tC 1 F1 ?_;refine tC 3 F1 ?_;refine tC 1 F1 ?_;refine tC 4 F1 ?_;refine tC 1 F1 ?_;refine tL F1 ?_;refine hk4 _ ?_;refine hn3 (some ([2],none)) _ ?_
   exact sf1 F1
  ·skip
   unfold evFn sc_cChanges rv_cChanges
   have F1 := And.intro @h1 @h2
   refine eS fun K1 hn1 hr1 he1 => ?_;refine eO fun K2 hk2 => ?_;refine tL F1 ?_;refine hk2 _ ?_;refine hn1 (some ([1],none)) _ ?_;refine eS fun K3 hn3 hr3 he3 => ?_;refine eO fun K4 hk4 => ?_;refine tC 2 F1 ?_;refine tC 1 F1 ?_;refine tC 3 F1 ?_;refine tC 1 F1 ?_;refine tC 4 F1 ?_;refine tC 1 F1 ?_;refine tL F1 ?_;refine hk4 _ ?_;refine hn3 (some ([2],none)) _ ?_
   exact sf1 F1
 ·skip
  unfold evFn sc_cChanges rv_cChanges
  have F1 := @h1
  refine eS fun K1 hn1 hr1 he1 => ?_;refine eO fun K2 hk2 => ?_;refine tL F1 ?_;refine hk2 _ ?_;refine hn1 (some ([1],none)) _ ?_;refine eS fun K3 hn3 hr3 he3 => ?_;refine eO fun K4 hk4 => ?_;refine tC 2 F1 ?_;refine tC 1 F1 ?_;refine tC 3 F1 ?_;refine tC 1 F1 ?_;refine tC 4 F1 ?_;refine tC 1 F1 ?_;refine tL F1 ?_;refine hk4 _ ?_;refine hn3 (some ([2],none)) _ ?_
  exact sf1 F1
def checkM (M : MachM) (t : Int) (a : ActM) : Int :=
 if t < 1 ∨ (M.mem.views.length : Int) < t then 3 else if a.op < 0 ∨ 8 < a.op then 2 else if a.op ≠ 0 ∧ a.op ≠ 8 ∧ (a.place < 0 ∨ (M.mem.places.length : Int) ≤ a.place) then 1 else 0
set_option maxHeartbeats 4000000 in
theorem ok_cCheck (M : MachM) (t : Int) (a : ActM) : Ok 88 [eMach M,sI t,.agg (eAct4 a)] (sI (checkM M t a)) := by
 refine ok_of_tr Tryz.func88 tr_cCheck rfl ?_
 have c0 := ok_cSize M
 obtain ⟨op,a,o,w⟩ := a
 unfold checkM
 simp only
 by_cases h1 : t < 1
 ·rw [if_pos (.inl h1)]
  unfold evFn sc_cCheck rv_cCheck
  have F1 := @h1
  refine eS fun K1 hn1 hr1 he1 => ?_;refine eO fun K2 hk2 => ?_;refine tL F1 ?_;refine hk2 _ ?_;refine hn1 (some ([1,3,5],none)) _ ?_;refine eS fun K3 hn3 hr3 he3 => ?_;refine eO fun K4 hk4 => ?_;refine tC 1 F1 ?_;refine tS 1 F1 ?_;refine Or.inl (Or.inl ⟨_,c0,?_⟩);refine tL F1 ?_;refine hk4 _ ?_;refine hn3 (some ([1,5,7,8],none)) _ ?_;refine eS fun K5 hn5 hr5 he5 => ?_;refine eB fun K6 hn6 hx6 hr6 he6 => ?_;refine eS fun K7 hn7 hr7 he7 => ?_;refine eO fun K8 hk8 => ?_;refine tC 2 F1 ?_;refine tC 4 F1 ?_;refine tL F1 ?_;refine hk8 _ ?_;refine hn7 (some ([5,8,14],none)) _ ?_;refine eCt ?_;refine eS fun K9 hn9 hr9 he9 => ?_;refine eO fun K10 hk10 => ?_;refine tL F1 ?_;refine hk10 _ ?_;refine hn9 (some ([6],none)) _ ?_;refine hr6 _ ?_;refine hr5 _ ?_
  exact sf1 F1
 by_cases h2 : (M.mem.views.length : Int) < t
 ·rw [if_pos (.inr h2)]
  unfold evFn sc_cCheck rv_cCheck
  have F1 := And.intro @h1 @h2
  refine eS fun K1 hn1 hr1 he1 => ?_;refine eO fun K2 hk2 => ?_;refine tL F1 ?_;refine hk2 _ ?_;refine hn1 (some ([1,3,5],none)) _ ?_;refine eS fun K3 hn3 hr3 he3 => ?_;refine eO fun K4 hk4 => ?_;refine tC 1 F1 ?_;refine tS 1 F1 ?_;refine Or.inl (Or.inl ⟨_,c0,?_⟩);refine tL F1 ?_;refine hk4 _ ?_;refine hn3 (some ([1,5,7,8],none)) _ ?_;refine eS fun K5 hn5 hr5 he5 => ?_;refine eB fun K6 hn6 hx6 hr6 he6 => ?_;refine eS fun K7 hn7 hr7 he7 => ?_;refine eO fun K8 hk8 => ?_;refine tC 2 F1 ?_;refine tC 4 F1 ?_;refine tL F1 ?_;refine hk8 _ ?_;refine hn7 (some ([5,8,14],none)) _ ?_;refine eCt ?_;refine eS fun K9 hn9 hr9 he9 => ?_;refine eO fun K10 hk10 => ?_;refine tL F1 ?_;refine hk10 _ ?_;refine hn9 (some ([6],none)) _ ?_;refine hr6 _ ?_;refine hr5 _ ?_
  exact sf1 F1
 rw [if_neg (by omega)]
 by_cases h3 : op < 0
 ·rw [if_pos (.inl h3)]
  unfold evFn sc_cCheck rv_cCheck
  have F1 := And.intro @h1 (And.intro @h2 @h3)
  refine eS fun K1 hn1 hr1 he1 => ?_;refine eO fun K2 hk2 => ?_;refine tL F1 ?_;refine hk2 _ ?_;refine hn1 (some ([1,3,5],none)) _ ?_;refine eS fun K3 hn3 hr3 he3 => ?_;refine eO fun K4 hk4 => ?_;refine tC 1 F1 ?_;refine tS 1 F1 ?_;refine Or.inl (Or.inl ⟨_,c0,?_⟩);refine tL F1 ?_;refine hk4 _ ?_;refine hn3 (some ([1,5,7,8],none)) _ ?_;refine eS fun K5 hn5 hr5 he5 => ?_;refine eB fun K6 hn6 hx6 hr6 he6 => ?_;refine eS fun K7 hn7 hr7 he7 => ?_;refine eO fun K8 hk8 => ?_;refine tC 2 F1 ?_;refine tC 4 F1 ?_;refine tL F1 ?_;refine hk8 _ ?_;refine hn7 (some ([5,8,14],none)) _ ?_;refine eCf ?_;refine eS fun K9 hn9 hr9 he9 => ?_;refine eO fun K10 hk10 => ?_;refine tC 2 F1 ?_;refine tC 1 F1 ?_;refine tC 3 F1 ?_;refine tC 1 F1 ?_;refine tL F1 ?_;refine hk10 _ ?_;refine hn9 (some ([5,8,22],none)) _ ?_;refine eCt ?_;refine eS fun K11 hn11 hr11 he11 => ?_;refine eO fun K12 hk12 => ?_;refine tL F1 ?_
  refine hk12 _ ?_;refine hn11 (some ([6],none)) _ ?_;refine hr6 _ ?_;refine hr5 _ ?_
  exact sf1 F1
 by_cases h4 : 8 < op
 ·rw [if_pos (.inr h4)]
  unfold evFn sc_cCheck rv_cCheck
  have F1 := And.intro @h1 (And.intro @h2 (And.intro @h3 @h4))
  refine eS fun K1 hn1 hr1 he1 => ?_;refine eO fun K2 hk2 => ?_;refine tL F1 ?_;refine hk2 _ ?_;refine hn1 (some ([1,3,5],none)) _ ?_;refine eS fun K3 hn3 hr3 he3 => ?_;refine eO fun K4 hk4 => ?_;refine tC 1 F1 ?_;refine tS 1 F1 ?_;refine Or.inl (Or.inl ⟨_,c0,?_⟩);refine tL F1 ?_;refine hk4 _ ?_;refine hn3 (some ([1,5,7,8],none)) _ ?_;refine eS fun K5 hn5 hr5 he5 => ?_;refine eB fun K6 hn6 hx6 hr6 he6 => ?_;refine eS fun K7 hn7 hr7 he7 => ?_;refine eO fun K8 hk8 => ?_;refine tC 2 F1 ?_;refine tC 4 F1 ?_;refine tL F1 ?_;refine hk8 _ ?_;refine hn7 (some ([5,8,14],none)) _ ?_;refine eCf ?_;refine eS fun K9 hn9 hr9 he9 => ?_;refine eO fun K10 hk10 => ?_;refine tC 2 F1 ?_;refine tC 1 F1 ?_;refine tC 3 F1 ?_;refine tC 1 F1 ?_;refine tL F1 ?_;refine hk10 _ ?_;refine hn9 (some ([5,8,22],none)) _ ?_;refine eCt ?_;refine eS fun K11 hn11 hr11 he11 => ?_;refine eO fun K12 hk12 => ?_;refine tL F1 ?_
  refine hk12 _ ?_;refine hn11 (some ([6],none)) _ ?_;refine hr6 _ ?_;refine hr5 _ ?_
  exact sf1 F1
 rw [if_neg (by omega)]
 by_cases h5 : op = 0
 ·subst h5
  rw [if_neg (by omega)]
  unfold evFn sc_cCheck rv_cCheck
  have F1 := And.intro @h1 @h2
  refine eS fun K1 hn1 hr1 he1 => ?_;refine eO fun K2 hk2 => ?_;refine tL F1 ?_;refine hk2 _ ?_;refine hn1 (some ([1,3,5],none)) _ ?_;refine eS fun K3 hn3 hr3 he3 => ?_;refine eO fun K4 hk4 => ?_;refine tC 1 F1 ?_;refine tS 1 F1 ?_;refine Or.inl (Or.inl ⟨_,c0,?_⟩);refine tL F1 ?_;refine hk4 _ ?_;refine hn3 (some ([1,5,7,8],none)) _ ?_;refine eS fun K5 hn5 hr5 he5 => ?_;refine eB fun K6 hn6 hx6 hr6 he6 => ?_;refine eS fun K7 hn7 hr7 he7 => ?_;refine eO fun K8 hk8 => ?_;refine tC 2 F1 ?_;refine tC 4 F1 ?_;refine tL F1 ?_;refine hk8 _ ?_;refine hn7 (some ([5,8,14],none)) _ ?_;refine eCf ?_;refine eS fun K9 hn9 hr9 he9 => ?_;refine eO fun K10 hk10 => ?_;refine tC 2 F1 ?_;refine tC 1 F1 ?_;refine tC 3 F1 ?_;refine tC 1 F1 ?_;refine tL F1 ?_;refine hk10 _ ?_;refine hn9 (some ([5,8,22],none)) _ ?_;refine eCf ?_;refine eS fun K11 hn11 hr11 he11 => ?_;refine eO fun K12 hk12 => ?_;refine tC 2 F1 ?_
  refine tC 1 F1 ?_;refine tC 3 F1 ?_;refine tC 1 F1 ?_;refine tC 4 F1 ?_;refine tC 1 F1 ?_;refine tC 3 F1 ?_;refine tC 2 F1 ?_;refine tL F1 ?_;refine hk12 _ ?_;refine hn11 (some ([31],none)) _ ?_;refine eCf ?_;refine hn6 _ ?_;refine hn5 (some ([],none)) _ ?_;refine eS fun K13 hn13 hr13 he13 => ?_;refine eO fun K14 hk14 => ?_;refine tL F1 ?_;refine hk14 _ ?_;refine hn13 (some ([6],none)) _ ?_
  exact sf1 F1
 have d5 : (op != 0) = true := by simpa using h5
 by_cases h6 : op = 8
 ·subst h6
  rw [if_neg (by omega)]
  unfold evFn sc_cCheck rv_cCheck
  have F1 := And.intro @h1 @h2
  refine eS fun K1 hn1 hr1 he1 => ?_;refine eO fun K2 hk2 => ?_;refine tL F1 ?_;refine hk2 _ ?_;refine hn1 (some ([1,3,5],none)) _ ?_;refine eS fun K3 hn3 hr3 he3 => ?_;refine eO fun K4 hk4 => ?_;refine tC 1 F1 ?_;refine tS 1 F1 ?_;refine Or.inl (Or.inl ⟨_,c0,?_⟩);refine tL F1 ?_;refine hk4 _ ?_;refine hn3 (some ([1,5,7,8],none)) _ ?_;refine eS fun K5 hn5 hr5 he5 => ?_;refine eB fun K6 hn6 hx6 hr6 he6 => ?_;refine eS fun K7 hn7 hr7 he7 => ?_;refine eO fun K8 hk8 => ?_;refine tC 2 F1 ?_;refine tC 4 F1 ?_;refine tL F1 ?_;refine hk8 _ ?_;refine hn7 (some ([5,8,14],none)) _ ?_;refine eCf ?_;refine eS fun K9 hn9 hr9 he9 => ?_;refine eO fun K10 hk10 => ?_;refine tC 2 F1 ?_;refine tC 1 F1 ?_;refine tC 3 F1 ?_;refine tC 1 F1 ?_;refine tL F1 ?_;refine hk10 _ ?_;refine hn9 (some ([5,8,22],none)) _ ?_;refine eCf ?_;refine eS fun K11 hn11 hr11 he11 => ?_;refine eO fun K12 hk12 => ?_;refine tC 2 F1 ?_
  refine tC 1 F1 ?_;refine tC 3 F1 ?_;refine tC 1 F1 ?_;refine tC 4 F1 ?_;refine tC 1 F1 ?_;refine tC 3 F1 ?_;refine tC 2 F1 ?_;refine tL F1 ?_;refine hk12 _ ?_;refine hn11 (some ([31],none)) _ ?_;refine eCf ?_;refine hn6 _ ?_;refine hn5 (some ([],none)) _ ?_;refine eS fun K13 hn13 hr13 he13 => ?_;refine eO fun K14 hk14 => ?_;refine tL F1 ?_;refine hk14 _ ?_;refine hn13 (some ([6],none)) _ ?_
  exact sf1 F1
 have d6 : (op != 8) = true := by simpa using h6
 by_cases h7 : a < 0
 ·rw [if_pos ⟨h5,h6,.inl h7⟩]
  unfold evFn sc_cCheck rv_cCheck
  have F1 := And.intro @h1 (And.intro @h2 (And.intro @h3 (And.intro @h4 (And.intro @d5 (And.intro @d6 @h7)))))
  refine eS fun K1 hn1 hr1 he1 => ?_;refine eO fun K2 hk2 => ?_;refine tL F1 ?_;refine hk2 _ ?_;refine hn1 (some ([1,3,5],none)) _ ?_;refine eS fun K3 hn3 hr3 he3 => ?_;refine eO fun K4 hk4 => ?_;refine tC 1 F1 ?_;refine tS 1 F1 ?_;refine Or.inl (Or.inl ⟨_,c0,?_⟩);refine tL F1 ?_;refine hk4 _ ?_;refine hn3 (some ([1,5,7,8],none)) _ ?_;refine eS fun K5 hn5 hr5 he5 => ?_;refine eB fun K6 hn6 hx6 hr6 he6 => ?_;refine eS fun K7 hn7 hr7 he7 => ?_;refine eO fun K8 hk8 => ?_;refine tC 2 F1 ?_;refine tC 4 F1 ?_;refine tL F1 ?_;refine hk8 _ ?_;refine hn7 (some ([5,8,14],none)) _ ?_;refine eCf ?_;refine eS fun K9 hn9 hr9 he9 => ?_;refine eO fun K10 hk10 => ?_;refine tC 2 F1 ?_;refine tC 1 F1 ?_;refine tC 3 F1 ?_;refine tC 1 F1 ?_;refine tL F1 ?_;refine hk10 _ ?_;refine hn9 (some ([5,8,22],none)) _ ?_;refine eCf ?_;refine eS fun K11 hn11 hr11 he11 => ?_;refine eO fun K12 hk12 => ?_;refine tC 2 F1 ?_
  refine tC 1 F1 ?_;refine tC 3 F1 ?_;refine tC 1 F1 ?_;refine tC 4 F1 ?_;refine tC 1 F1 ?_;refine tC 3 F1 ?_;refine tC 2 F1 ?_;refine tL F1 ?_;refine hk12 _ ?_;refine hn11 (some ([31],none)) _ ?_;refine eCt ?_;refine eS fun K13 hn13 hr13 he13 => ?_;refine eO fun K14 hk14 => ?_;refine tL F1 ?_;refine hk14 _ ?_;refine hn13 (some ([6],none)) _ ?_;refine hr6 _ ?_;refine hr5 _ ?_
  exact sf1 F1
 by_cases h8 : (M.mem.places.length : Int) ≤ a
 ·rw [if_pos ⟨h5,h6,.inr h8⟩]
  unfold evFn sc_cCheck rv_cCheck
  have F1 := And.intro @h1 (And.intro @h2 (And.intro @h3 (And.intro @h4 (And.intro @d5 (And.intro @d6 (And.intro @h7 @h8))))))
  refine eS fun K1 hn1 hr1 he1 => ?_;refine eO fun K2 hk2 => ?_;refine tL F1 ?_;refine hk2 _ ?_;refine hn1 (some ([1,3,5],none)) _ ?_;refine eS fun K3 hn3 hr3 he3 => ?_;refine eO fun K4 hk4 => ?_;refine tC 1 F1 ?_;refine tS 1 F1 ?_;refine Or.inl (Or.inl ⟨_,c0,?_⟩);refine tL F1 ?_;refine hk4 _ ?_;refine hn3 (some ([1,5,7,8],none)) _ ?_;refine eS fun K5 hn5 hr5 he5 => ?_;refine eB fun K6 hn6 hx6 hr6 he6 => ?_;refine eS fun K7 hn7 hr7 he7 => ?_;refine eO fun K8 hk8 => ?_;refine tC 2 F1 ?_;refine tC 4 F1 ?_;refine tL F1 ?_;refine hk8 _ ?_;refine hn7 (some ([5,8,14],none)) _ ?_;refine eCf ?_;refine eS fun K9 hn9 hr9 he9 => ?_;refine eO fun K10 hk10 => ?_;refine tC 2 F1 ?_;refine tC 1 F1 ?_;refine tC 3 F1 ?_;refine tC 1 F1 ?_;refine tL F1 ?_;refine hk10 _ ?_;refine hn9 (some ([5,8,22],none)) _ ?_;refine eCf ?_;refine eS fun K11 hn11 hr11 he11 => ?_;refine eO fun K12 hk12 => ?_;refine tC 2 F1 ?_
  refine tC 1 F1 ?_;refine tC 3 F1 ?_;refine tC 1 F1 ?_;refine tC 4 F1 ?_;refine tC 1 F1 ?_;refine tC 3 F1 ?_;refine tC 2 F1 ?_;refine tL F1 ?_;refine hk12 _ ?_;refine hn11 (some ([31],none)) _ ?_;refine eCt ?_;refine eS fun K13 hn13 hr13 he13 => ?_;refine eO fun K14 hk14 => ?_;refine tL F1 ?_;refine hk14 _ ?_;refine hn13 (some ([6],none)) _ ?_;refine hr6 _ ?_;refine hr5 _ ?_
  exact sf1 F1
 rw [if_neg (by omega)]
 unfold evFn sc_cCheck rv_cCheck
 have F1 := And.intro @h1 (And.intro @h2 (And.intro @h3 (And.intro @h4 (And.intro @d5 (And.intro @d6 (And.intro @h7 @h8))))))
 refine eS fun K1 hn1 hr1 he1 => ?_;refine eO fun K2 hk2 => ?_;refine tL F1 ?_;refine hk2 _ ?_;refine hn1 (some ([1,3,5],none)) _ ?_;refine eS fun K3 hn3 hr3 he3 => ?_;refine eO fun K4 hk4 => ?_;refine tC 1 F1 ?_;refine tS 1 F1 ?_;refine Or.inl (Or.inl ⟨_,c0,?_⟩);refine tL F1 ?_;refine hk4 _ ?_;refine hn3 (some ([1,5,7,8],none)) _ ?_;refine eS fun K5 hn5 hr5 he5 => ?_;refine eB fun K6 hn6 hx6 hr6 he6 => ?_;refine eS fun K7 hn7 hr7 he7 => ?_;refine eO fun K8 hk8 => ?_;refine tC 2 F1 ?_;refine tC 4 F1 ?_;refine tL F1 ?_;refine hk8 _ ?_;refine hn7 (some ([5,8,14],none)) _ ?_;refine eCf ?_;refine eS fun K9 hn9 hr9 he9 => ?_;refine eO fun K10 hk10 => ?_;refine tC 2 F1 ?_;refine tC 1 F1 ?_;refine tC 3 F1 ?_;refine tC 1 F1 ?_;refine tL F1 ?_;refine hk10 _ ?_;refine hn9 (some ([5,8,22],none)) _ ?_;refine eCf ?_;refine eS fun K11 hn11 hr11 he11 => ?_;refine eO fun K12 hk12 => ?_;refine tC 2 F1 ?_
 refine tC 1 F1 ?_;refine tC 3 F1 ?_;refine tC 1 F1 ?_;refine tC 4 F1 ?_;refine tC 1 F1 ?_;refine tC 3 F1 ?_;refine tC 2 F1 ?_;refine tL F1 ?_;refine hk12 _ ?_;refine hn11 (some ([31],none)) _ ?_;refine eCf ?_;refine hn6 _ ?_;refine hn5 (some ([],none)) _ ?_;refine eS fun K13 hn13 hr13 he13 => ?_;refine eO fun K14 hk14 => ?_;refine tL F1 ?_;refine hk14 _ ?_;refine hn13 (some ([6],none)) _ ?_
 exact sf1 F1
end Go.Proofs.YtkmbcjnaaokilaaGreatDoor

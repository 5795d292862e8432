/-
  Layer 8 once more, for codes that have a part of one's own memory: Make.
-/
import Derived.Test.YtkmbcjnaaokilaaGreatDoorK12i
namespace Go.Proofs.YtkmbcjnaaokilaaGreatDoor
set_option linter.unusedSimpArgs false
set_option linter.unusedVariables false
open Go.RowKit Go.Maps
section
variable {C : Coder} {W : Owner C}
def csIds (W : Owner C) (cs : List C.St) : List Nat := cs.flatMap W.ids
structure CsOwn (W : Owner C) (cs : List C.St) (O : List (Nat × Ob)) (n : Nat) : Prop where
 own : ∀ s ∈ cs,W.own s O n
 ap : ∀ (i j : Nat) (a b : C.St),i ≠ j → cs[i]? = some a → cs[j]? = some b → ∀ e ∈ W.ids a,e ∉ W.ids b
abbrev mkCells (m : MachM) (N r : Nat) : List Sh := [.sl 1 0 (m.mem.places.map ePlace),.sl 1 0 (m.mem.views.map eV1),.sl 3 0 (m.lines.first.map eWord),.sl 2 0 (m.lines.logs.map eLog),.mp 3 fun t => (m.lines.asks t).map eAsked,.sl 1 0 (m.steps.map eSt),sI m.crashes,.own r,.sl 1 0 ((List.replicate N false).map eBl)]
structure MkI (W : Owner C) (m : MachM) (cs : List C.St) (J : Hp → Env → Prop) (O : List (Nat × Ob)) (n i : Nat) (ts : List (TaskM C)) (r : Nat) (O1 : List (Nat × Ob)) (n1 : Nat) : Prop where
 fgt : ts.map (fgtT W) = ((cs.take i).map (startM (C := C))).map (fgtT W)
 own : WOwn W ⟨m,ts,[]⟩ O1 n1
 rest : ∀ (j : Nat) (s : C.St),i ≤ j → cs[j]? = some s → W.own s O1 n1 ∧ (∀ e ∈ W.ids s,e < n) ∧ ∀ t ∈ ts,∀ e ∈ W.ids s,e ∉ tIds W t
 fr : OFr (csIds W cs) (ts.flatMap (tIds W)) O n O1 n1
 far : ∀ t ∈ ts,∀ e ∈ tIds W t,(e < n ∨ n + 4 ≤ e) ∧ e ≠ r
 r1 : n + 4 ≤ r
 r2 : r < n1
 g0 : getA O1 n = some (.gh J)
 g2 : getA O1 (n + 2) = some (.box 63 zCells)
 g3 : getA O1 (n + 3) = some (.box 63 (mkCells m cs.length r))
 row : getA O1 r = some (.row 84 11 (ts.map eTask))
theorem MkI.len {m : MachM} {cs : List C.St} {J : Hp → Env → Prop} {O O1 : List (Nat × Ob)} {n i r n1 : Nat} {ts : List (TaskM C)} (h : MkI W m cs J O n i ts r O1 n1) (hi : i ≤ cs.length) : ts.length = i := by
 have := congrArg List.length h.fgt
 simp at this; omega
def MoInv (W : Owner C) (m : MachM) (g : Nat) (cs : List C.St) (J : Hp → Env → Prop) (O : List (Nat × Ob)) (n : Nat) (k : Nat) (S : St) : Prop :=
 ∃ (i : Nat) (ts : List (TaskM C)) (r : Nat) (O1 : List (Nat × Ob)) (n1 : Nat),i ≤ cs.length ∧ k = cs.length - i ∧
  S = ⟨[(4,.ptr (n + 2) 0 0),(8,.ptr (n + 3) 0 0),(26,.sl 1 g (cs.map (eC1 C))),(27,sI cs.length),(28,sI i)],O1,n1⟩ ∧ MkI W m cs J O n i ts r O1 n1
structure StP (W : Owner C) (s : C.St) (O : List (Nat × Ob)) (m : Nat) (x : TaskM C) (O' : List (Nat × Ob)) (n' : Nat) : Prop where
 fgt : fgtT W x = fgtT W (startM s)
 own : tOwn W x O' n'
 fr : OFr (W.ids s) (tIds W x) O m O' n'
theorem StP.of {s : C.St} {x : TaskM C} {O O' : List (Nat × Ob)} {m n' n0 : Nat} (h1 : fgtT W x = fgtT W (startM s)) (h2 : tOwn W x O' n') (h3 : OFr (W.ids s) (tIds W x) O m O' n') (hlt : ∀ e ∈ W.ids s,e < n0) (hn : n0 ≤ m) : StP W s O m x (delA O' m) n' :=
 ⟨h1,tOwn_to h2 (Nat.le_refl _) fun e he => (by
  rw [getA_delO,if_neg]
  rcases h3.new e he with h | h
  ·have := hlt e h; omega
  ·omega),⟨h3.le,fun e he hx => (by rw [getA_delO,if_neg (by omega)]; exact h3.old e he hx),h3.new⟩⟩
abbrev mkBl (g n : Nat) (cs : List C.St) (i : Nat) (s : C.St) : List (Nat × Sh) := [(4,.ptr (n + 2) 0 0),(8,.ptr (n + 3) 0 0),(10,eCode C (some s)),(26,.sl 1 g (cs.map (eC1 C))),(27,sI cs.length),(28,sI i)]
abbrev mkB (n r : Nat) (s : C.St) : List (Nat × (Nat × Sh)) := [(32,0,.ptr (n + 3) 0 7),(33,1,.own r),(34,2,eCode C (some s))]
abbrev mkW (x : TaskM C) : List (Nat × (Nat × Sh)) := [(35,3,.agg (eTask x)),(36,4,.sl 11 0 [eTask x])]
abbrev mkWt : List (List Nat) := [[],[0],[],[2],[3],[1,4,3],[0,1,2,3,4,5],[6,5,5,0,1,2,3,4,5]]
abbrev mkR (W : Owner C) (g n r : Nat) (cs : List C.St) (i : Nat) (s : C.St) (O1 : List (Nat × Ob)) (n1 : Nat) (done : List Nat) (S : St) (x : TaskM C) : Prop :=
 RgC (mkBl g n cs i s) (fun x => mkB n r s ++ mkW x) [4] 3 O1 n1 (StP W s O1 n1) done S x
structure MkMid (W : Owner C) (g n r : Nat) (cs : List C.St) (i : Nat) (s : C.St) (ts : List (TaskM C)) (O1 : List (Nat × Ob)) (n1 : Nat) (S : St) (x : TaskM C) (r' : Nat) : Prop where
 base : ∀ t v,getA (mkBl g n cs i s) t = some v → getA S.T t = some v
 v : getA S.T 37 = some (.own r')
 row : getA S.O r' = some (.row 84 11 (ts.map eTask ++ [eTask x]))
 fgt : fgtT W x = fgtT W (startM s)
 own : tOwn W x S.O S.n
 fr : ∀ e,e < n1 → e ∉ W.ids s → e ≠ r → getA S.O e = getA O1 e
 new : ∀ e ∈ tIds W x,(e ∈ W.ids s ∨ n1 < e) ∧ e ≠ r'
 r1 : n1 ≤ r'
 r2 : r' < S.n
structure MkFin (W : Owner C) (m : MachM) (g n r : Nat) (cs : List C.St) (i : Nat) (s : C.St) (ts : List (TaskM C)) (O1 : List (Nat × Ob)) (n1 : Nat) (S : St) (x : TaskM C) (r' : Nat) : Prop where
 base : ∀ t v,getA (mkBl g n cs i s) t = some v → getA S.T t = some v
 bx : getA S.O (n + 3) = some (.box 63 (mkCells m cs.length r'))
 row : getA S.O r' = some (.row 84 11 (ts.map eTask ++ [eTask x]))
 fgt : fgtT W x = fgtT W (startM s)
 own : tOwn W x S.O S.n
 fr : ∀ e,e < n1 → e ∉ W.ids s → e ≠ r → e ≠ n + 3 → getA S.O e = getA O1 e
 new : ∀ e ∈ tIds W x,(e ∈ W.ids s ∨ n1 < e) ∧ e ≠ r'
 r1 : n1 ≤ r'
 r2 : r' < S.n
theorem mk_mem {g n r i n1 : Nat} {cs : List C.St} {s : C.St} {O1 : List (Nat × Ob)} {done : List Nat} {S : St} {x : TaskM C} (h : mkR W g n r cs i s O1 n1 done S x) {e : Nat} {Y : Ob} (h1 : e ∉ W.ids s) (h2 : e < n1) (hX : getA O1 e = some Y) : getA S.O e = some Y := by
 cases hc : done.contains 3 with
 | false => rw [(h.pre hc).1]; exact hX
 | true => exact (h.post hc).fr.at h2 h1 hX
def MPost (cs : List C.St) (O : List (Nat × Ob)) (n : Nat) (W : Owner C) (w : WorldM C) (_ : Hp → Env → Prop) (r : Sh) (O' : List (Nat × Ob)) (n' : Nat) : Prop :=
 ∃ w',fgtW W w' = fgtW W w ∧ r = .tup [eWorld w',sI 0] ∧ WOwn W w' O' n' ∧ OFr (csIds W cs) (wIds W w') O n O' n'
set_option maxHeartbeats 8000000 in
set_option maxRecDepth 20000 in
theorem okO_kMake (m : MachM) (g : Nat) (cs : List C.St) (hv : m.mem.views.length ≤ 8) {k : Nat} (hc : ∀ s ∈ cs,C.good k s) (hn : k ≤ 900) (hfew : cs.length ≤ m.mem.views.length) (O : List (Nat × Ob)) (n : Nat) (ho : CsOwn W cs O n) :
  OkO 43 [eMach m,.sl 1 g (cs.map (eC1 C))] O n (MPost cs O n W ⟨m,cs.map startM,List.replicate cs.length false⟩) := by
 refine okO_of_trC Tryz.func43 tr_kMakeO rfl fun J => ?_
 have hid := oid n
 have hK := shK C
 have k0 := ok_cSize m
 have h : ¬ (m.mem.views.length : Int) < (cs.length : Int) := by omega
 have q1 : cs.length ≤ 1000000 := by omega
 have q2 : cs.length * 1 ≤ 140737488355328 := by omega
 have e1 : List.replicate cs.length [Sh.v (.bool false)] = (List.replicate cs.length false).map eBl := by simp
 have hlt : ∀ s ∈ cs,∀ e ∈ W.ids s,e < n := fun s hs e he => W.lt (ho.own s hs) e he
 unfold sc_kMakeO rv_kMakeO
 have F1 := And.intro @hid (And.intro @h (And.intro @q1 (And.intro @q2 (And.intro @hK @e1))))
 refine eS fun _ hn1 hr1 _ => ?_;refine eO fun _ hk2 => ?_;refine tL F1 ?_;refine hk2 _ ?_;refine hn1 (some ([1,2,4],none)) _ ?_;refine eS fun _ hn3 _ he3 => ?_;refine eS fun _ hn4 _ _ => ?_;refine eO fun _ hk5 => ?_;refine tC 1 F1 ?_;refine tS 1 F1 ?_;refine Or.inl (Or.inl ⟨_,k0,?_⟩);refine tL F1 ?_;refine hk5 _ ?_;refine hn4 (some ([1,2,4,6],none)) _ ?_;refine eS fun _ hn6 _ _ => ?_;refine eO fun _ hk7 => ?_;refine tZ F1 ?_;refine hk7 _ ?_;refine hn6 (some ([1,2,4,19],none)) _ ?_;refine eCf ?_;refine hn3 (some ([1,2,4],none)) _ ?_;refine eS fun _ hn8 _ _ => ?_;refine eD [] (n := 6) fun K9 hk9 => ?_;refine sq0 ?_;refine fC 1 F1 ?_;refine fC 3 F1 ?_;refine fL F1 ?_;refine hk9 _ ?_;refine sr0 ?_;refine tZ F1 ?_;refine hn8 (some ([1,4,8],none)) _ ?_;refine eS fun _ hn11 _ _ => ?_;refine eS fun _ hn12 _ _ => ?_;refine eO fun _ hk13 => ?_;refine tL F1 ?_;refine hk13 _ ?_;refine hn12 (some ([4,8,26,27,28],none)) _ ?_
 refine eB fun _ _ hx14 _ _ => ?_;refine eW (MoInv W m g cs J O n) (cs.length) (some ([4,8,26,27,28],none)) ([.cell (n + 3) 7 (some 84) 11]) ?_ ?_
 ·try refine lp0 ?_
  refine ⟨0,[],n + 4,_,_,by omega,by omega,sgE1 F1,⟨rfl,⟨fun t ht => (by cases ht),fun i j ti tj _ hi => by simp at hi⟩,fun j s _ hs => ⟨W.to (ho.own s (List.mem_of_getElem? hs)) (by omega) fun e he => ?_,hlt s (List.mem_of_getElem? hs),fun t ht => (by cases ht)⟩,⟨by omega,fun e he hx => ?_,fun e he => (by cases he)⟩,fun t ht => (by cases ht),by omega,by omega,?_,?_,?_,?_⟩⟩
  ·have := hlt s (List.mem_of_getElem? hs) e he
   simp only [getA,getA_delO]; repeat rw [if_neg (by omega)]
  ·simp only [getA,getA_delO]; repeat rw [if_neg (by omega)]
  ·simp [getA]
  ·simp [getA]
  ·simp [getA]
  ·simp [getA]
 ·intro k S1 hI
  obtain ⟨i,ts,r,O1,n1,hi,rfl,rfl,hM⟩ := hI
  have hid1 := oid n1
  have hr1 := hM.r1
  have hr2 := hM.r2
  have d0 := odl (n := n1) (d := n) (by omega)
  have d2 := odl (n := n1) (d := n + 2) (by omega)
  have d3 := odl (n := n1) (d := n + 3) (by omega)
  have dr := odl (n := n1) (d := r) (by omega)
  have dr0 := odl (n := r) (d := n) (by omega)
  have dr2 := odl (n := r) (d := n + 2) (by omega)
  have dr3 := odl (n := r) (d := n + 3) (by omega)
  have a0 := hM.g0
  have a2 := hM.g2
  have a3 := hM.g3
  have ar := hM.row
  have htl := hM.len hi
  have hcase : i = cs.length ∨ i < cs.length := by omega
  intro _ hn15 _ he15
  rcases hcase with hcc | hcc
  ·skip
   have w2 : ¬ (i : Int) < (cs.length : Int) := by omega
   have F2 := And.intro F1 (And.intro @hid1 (And.intro @d0 (And.intro @d2 (And.intro @d3 (And.intro @dr (And.intro @dr0 (And.intro @dr2 (And.intro @dr3 (And.intro @a0 (And.intro @a2 (And.intro @a3 (And.intro @ar @w2))))))))))))
   refine eS fun _ hn16 _ _ => ?_;refine eO fun _ hk17 => ?_;refine tZ F2 ?_;refine hk17 _ ?_;refine hn16 (some ([4,8,26,27,28,29],none)) _ ?_;refine eS fun _ _ _ he18 => ?_;refine eCf ?_;refine he18 0 _ ?_;refine he15 0 _ ?_;refine hx14 _ ?_;refine hn11 (some ([4,8],none)) _ ?_;refine eS fun _ hn19 _ _ => ?_;refine eO fun _ hk20 => ?_;refine tC 1 F2 ?_;refine tC 1 F2 ?_;refine tL F2 ?_;refine hk20 _ ?_;refine hn19 (some ([4,5],none)) _ ?_
   first | refine finO_ret (sgE1 F2) (sgE1 F2) (sgE1 F2) ?_ | refine finO_next (sgE1 F2) (sgE1 F2) (sgE1 F2) ?_
   try dsimp only
   refine ⟨⟨m,ts,List.replicate cs.length false⟩,fgtW_mk rfl (by rw [hM.fgt,hcc,List.take_of_length_le (Nat.le_refl _)]) rfl,rfl,wOwn_to (w := ⟨m,ts,List.replicate cs.length false⟩) ⟨hM.own.own,hM.own.ap⟩ (by omega) fun e he => ?_,⟨hM.fr.le,fun e he hx => ?_,fun e he => hM.fr.new e he⟩⟩
   ·obtain ⟨t,ht,het⟩ := mem_wIds.1 he
    obtain ⟨h9 | h9,h8⟩ := hM.far t ht e het
    ·simp only [getA,getA_delO]; repeat rw [if_neg (by omega)]
    ·simp only [getA,getA_delO]; repeat rw [if_neg (by omega)]
   ·simp only [getA,getA_delO]; repeat rw [if_neg (by omega)]
    exact hM.fr.old e he hx
  ·skip
   have w2 : (i : Int) < (cs.length : Int) := by omega
   have w3 : IntKind.i64.wrap ((i : Int) + 1) = ((i + 1 : Nat) : Int) := by rw [IntKind.wrap_i64]; omega
   obtain ⟨s,hs⟩ : ∃ s,cs[i]? = some s := ⟨_,List.getElem?_eq_getElem hcc⟩
   obtain ⟨hos,hls,hts⟩ := hM.rest i s (Nat.le_refl _) hs
   have k1 := okO_kStart s (hc s (List.mem_of_getElem? hs)) hn O1 n1 hos
   have ns : ∀ e,n ≤ e → e ∉ W.ids s := fun e h1 h2 => absurd (hls e h2) (by omega)
   have w5 : (ts.map eTask).length + 1 ≤ 140737488355328 := by simp; omega
   have w6 : ((ts.map eTask).length + 1) * 96 ≤ 140737488355328 := by simp; omega
   have F3 := And.intro F1 (And.intro @hid1 (And.intro @d0 (And.intro @d2 (And.intro @d3 (And.intro @dr (And.intro @a0 (And.intro @a2 (And.intro @a3 (And.intro @ar (And.intro @w2 (And.intro @w3 (And.intro @hs @hcc))))))))))))
   refine eS fun _ hn21 _ _ => ?_;refine eO fun _ hk22 => ?_;refine tZ F3 ?_;refine hk22 _ ?_;refine hn21 (some ([4,8,26,27,28,29],none)) _ ?_;refine eS fun _ hn23 _ _ => ?_;refine eCt ?_;refine hn23 (some ([4,8,26,27,28],none)) _ ?_;refine eS fun _ hn24 _ _ => ?_;refine eB fun _ hn25 _ _ _ => ?_;refine eS fun _ hn26 _ _ => ?_;refine eO fun _ hk27 => ?_;refine tC 1 F3 ?_;refine tC 1 F3 ?_;refine tL F3 ?_;refine hk27 _ ?_;refine hn26 (some ([4,8,10,26,27,28],none)) _ ?_;refine eCflP ([]) (fun done S => Closed mkWt done ∧ ((done.contains 5 = false ∧ done.contains 6 = false ∧ done.contains 7 = false ∧ ∃ x,mkR W g n r cs i s O1 n1 done S x) ∨ (done.contains 5 = true ∧ done.contains 7 = false ∧ (∃ x r',MkMid W g n r cs i s ts O1 n1 S x r') ∧ (done.contains 6 = true → getA S.T 38 = some (.ptr (n + 3) 0 7))) ∨ ((∀ j,j < 8 → done.contains j = true) ∧ ∃ x r',MkFin W m g n r cs i s ts O1 n1 S x r'))) (fun S => ∃ x r' O2 n2,S = ⟨[(4,.ptr (n + 2) 0 0),(8,.ptr (n + 3) 0 0),(26,.sl 1 g (cs.map (eC1 C))),(27,sI cs.length),(28,sI i)],O2,n2⟩ ∧ MkFin W m g n r cs i s ts O1 n1 ⟨(10,eCode C (some s)) :: S.T,O2,n2⟩ x r') ?_ ?_ ?_ ?_
   ·skip
    refine ⟨closed_nil _,.inl ⟨rfl,rfl,rfl,startM s,RgC.init (fun t v h => ?_) ?_ ?_⟩⟩
    ·simp only [getA] at h
     simp only [St.casts,St.keep,keepT,getA,reduceIte,Nat.reduceEqDiff]
     repeat' split at h
     all_goals first | (rename_i e9; subst e9; exact h) | cases h
    ·rfl
    ·rfl
   ·skip
    intro done S i0 ⟨hcl,hI⟩ hr
    have hi9 := rdyN_lt hr
    have hnr := rdyN_not hr
    have hcase : i0 = 0 ∨ i0 = 1 ∨ i0 = 2 ∨ i0 = 3 ∨ i0 = 4 ∨ i0 = 5 ∨ i0 = 6 ∨ i0 = 7 := by simp at hi9; omega
    rcases hI with ⟨h5,h6,h7,x,hI⟩ | ⟨h5,h7,⟨x,r',hM5⟩,hM6⟩ | ⟨hall,_⟩
    ·have b8 := hI.base 8 _ rfl
     have b10 := hI.base 10 _ rfl
     have m3 := mk_mem hI (ns (n + 3) (by omega)) (by omega) a3
     have mr := mk_mem hI (ns r (by omega)) hr2 ar
     have hgot := fun t j v h h2 => hI.got t j v h h2
     rcases hcase with rfl | rfl | rfl | rfl | rfl | rfl | rfl | rfl
     ·skip
      have F9 := And.intro b8 m3
      refine cfOpN rfl fun K9 hk9 => ?_;refine sh1 F9 ?_;refine hk9 _ ?_
      exact ⟨hcl.cons hr,.inl ⟨by rw [cons_cC (by decide)]; exact h5,by rw [cons_cC (by decide)]; exact h6,by rw [cons_cC (by decide)]; exact h7,x,hI.put (i := 0) (t := 32) rfl rfl rfl (by decide) (fun h => by cases h)⟩⟩
     ·skip
      have hw := rdyN_wait hr rfl
      have g1 := hgot 32 0 _ rfl (hw 0 rfl)
      have F9 := And.intro g1 m3
      refine cfOpN rfl fun K9 hk9 => ?_;refine sh1 F9 ?_;refine sd ?_;refine hk9 _ ?_
      exact ⟨hcl.cons hr,.inl ⟨by rw [cons_cC (by decide)]; exact h5,by rw [cons_cC (by decide)]; exact h6,by rw [cons_cC (by decide)]; exact h7,x,hI.put (i := 1) (t := 33) rfl rfl rfl (by decide) (fun h => by cases h)⟩⟩
     ·skip
      have F9 := And.intro hK b10
      refine cfOpN rfl fun K9 hk9 => ?_;refine sh1 F9 ?_;refine hk9 _ ?_
      exact ⟨hcl.cons hr,.inl ⟨by rw [cons_cC (by decide)]; exact h5,by rw [cons_cC (by decide)]; exact h6,by rw [cons_cC (by decide)]; exact h7,x,hI.put (i := 2) (t := 34) rfl rfl rfl (by decide) (fun h => by cases h)⟩⟩
     ·have hw := rdyN_wait hr rfl
      have g1 := hgot 34 2 _ rfl (hw 2 rfl)
      obtain ⟨T9,O9,n9⟩ := S
      obtain ⟨e1,e2⟩ := hI.pre hnr
      dsimp only at e1 e2
      subst e1 e2
      dsimp only at g1
      refine cfOpN rfl fun K9 hk9 => ?_;refine Or.inr (evCallO_mk k1 (by simp only [St.opdL,St.opd,g1,Option.map_some,Option.bind_some,hK]) fun J9 r9 O8 n8 hP9 => ?_)
      obtain ⟨x9,q1,rfl,q2,q3⟩ := hP9
      refine hk9 _ ?_
      exact ⟨hcl.cons hr,.inl ⟨by rw [cons_cC (by decide)]; exact h5,by rw [cons_cC (by decide)]; exact h6,by rw [cons_cC (by decide)]; exact h7,x9,hI.call2 (t := 35) hnr rfl rfl rfl rfl (StP.of q1 q2 q3 hls (by omega))⟩⟩
     ·skip
      have hw := rdyN_wait hr rfl
      have g1 := hgot 35 3 _ rfl (hw 3 rfl)
      have F9 := And.intro hK g1
      refine cfOpN rfl fun K9 hk9 => ?_;refine sh1 F9 ?_;refine sd ?_;refine hk9 _ ?_
      exact ⟨hcl.cons hr,.inl ⟨by rw [cons_cC (by decide)]; exact h5,by rw [cons_cC (by decide)]; exact h6,by rw [cons_cC (by decide)]; exact h7,x,hI.put (i := 4) (t := 36) rfl rfl rfl (by decide) (fun _ => hw 3 rfl)⟩⟩
     ·have hw := rdyN_wait hr rfl
      have g1 := hgot 33 1 _ rfl (hw 1 rfl)
      have g2 := hgot 36 4 _ rfl (hw 4 rfl)
      obtain ⟨p1,p2,p3⟩ := hI.post (hw 3 rfl)
      have hle := p3.le
      have F9 := And.intro hid1 (And.intro g1 (And.intro g2 (And.intro mr (And.intro w5 w6))))
      refine cfOpN rfl fun K9 hk9 => ?_;refine sh1 F9 ?_;refine sd ?_;refine hk9 _ ?_
      have hlx : ∀ e ∈ tIds W x,e < S.n := fun e he => tOwn_lt p2 he
      have hnr2 : ∀ e ∈ tIds W x,e ≠ r := fun e he h9 => by
       subst h9
       rcases p3.new e he with h8 | h8
       ·exact ns e (by omega) h8
       ·omega
      refine ⟨hcl.cons hr,.inr (.inl ⟨cons_sC _ _,by rw [cons_cC (by decide)]; exact h7,⟨x,S.n,⟨fun t v hv9 => ?_,?_,?_,p1,tOwn_to p2 (Nat.le_succ _) fun e he => ?_,fun e he hx he2 => ?_,fun e he => ⟨p3.new e he,by have := hlx e he; omega⟩,hle,Nat.lt_succ_self _⟩⟩,fun h => by rw [cons_cC (by decide),h6] at h; cases h⟩)⟩
      ·have := hI.base t v hv9
       simp only [getA]
       rw [if_neg (fun e9 => by subst e9; cases hv9),getA_delA_other _ (fun e9 => by subst e9; cases hv9)]
       exact this
      ·simp only [getA,reduceIte]
      ·simp only [getA,reduceIte]
      ·have h1 := hlx e he
       have h2 := hnr2 e he
       simp only [getA,getA_delO]; repeat rw [if_neg (by omega)]
      ·simp only [getA,getA_delO]; repeat rw [if_neg (by omega)]
       exact p3.old e he hx
     ·have hw := rdyN_wait hr rfl
      rw [hw 5 rfl] at h5; cases h5
     ·have hw := rdyN_wait hr rfl
      rw [hw 6 rfl] at h6; cases h6
    ·have h0 : ∀ j,j < 6 → done.contains j = true := fun j hj => by
      have w5 := hcl 5 _ h5 rfl
      have w4 := hcl 4 _ (w5 4 rfl) rfl
      have w3 := hcl 3 _ (w4 3 rfl) rfl
      have w1 := hcl 1 _ (w5 1 rfl) rfl
      have : j = 0 ∨ j = 1 ∨ j = 2 ∨ j = 3 ∨ j = 4 ∨ j = 5 := by omega
      rcases this with rfl | rfl | rfl | rfl | rfl | rfl
      ·exact w1 0 rfl
      ·exact w5 1 rfl
      ·exact w3 2 rfl
      ·exact w4 3 rfl
      ·exact w5 4 rfl
      ·exact h5
     have b8 := hM5.base 8 _ rfl
     have e67 : i0 = 6 ∨ i0 = 7 := by
      rcases Nat.lt_or_ge i0 6 with h | h
      ·rw [h0 i0 h] at hnr; cases hnr
      ·simp at hi9; omega
     rcases e67 with rfl | rfl
     ·have m3 : getA S.O (n + 3) = some (.box 63 (mkCells m cs.length r)) := (hM5.fr (n + 3) (by omega) (ns _ (by omega)) (by omega)).trans a3
      have F9 := And.intro b8 m3
      refine cfOpN rfl fun K9 hk9 => ?_;refine sh1 F9 ?_;refine hk9 _ ?_
      obtain ⟨p1,p2,p3,p4,p5,p6,p7,p8,p9⟩ := hM5
      refine ⟨hcl.cons hr,.inr (.inl ⟨by rw [cons_cC (by decide)]; exact h5,by rw [cons_cC (by decide)]; exact h7,⟨x,r',⟨fun t v hv9 => ?_,?_,p3,p4,p5,p6,p7,p8,p9⟩⟩,fun _ => by simp only [getA,reduceIte]⟩)⟩
      ·have := p1 t v hv9
       simp only [getA]
       rw [if_neg (fun e9 => by subst e9; cases hv9),getA_delA_other _ (fun e9 => by subst e9; cases hv9)]
       exact this
      ·simp only [getA,Nat.reduceEqDiff,reduceIte]
       rw [getA_delA_other _ (by decide)]; exact p2
     ·have hw := rdyN_wait hr rfl
      obtain ⟨p1,p2,p3,p4,p5,p6,p7,p8,p9⟩ := hM5
      have g1 := hM6 (hw 6 rfl)
      have m3 : getA S.O (n + 3) = some (.box 63 (mkCells m cs.length r)) := (p6 (n + 3) (by omega) (ns _ (by omega)) (by omega)).trans a3
      have F9 := And.intro g1 (And.intro p2 (And.intro m3 p3))
      refine cfOpN rfl fun K9 hk9 => ?_;refine sh1 F9 ?_;refine sd ?_;refine hk9 _ ?_
      have hn3 : ∀ e ∈ tIds W x,e ≠ n + 3 := fun e he h9 => by
       subst h9
       rcases (p7 _ he).1 with h8 | h8
       ·exact ns _ (by omega) h8
       ·omega
      refine ⟨hcl.cons hr,.inr (.inr ⟨fun j hj => ?_,x,r',⟨p1,?_,?_,p4,tOwn_to p5 (Nat.le_refl _) fun e he => ?_,fun e he hx he2 he3 => ?_,p7,p8,p9⟩⟩)⟩
      ·by_cases h : j = 7
       ·subst h; exact cons_sC _ _
       ·rw [cons_cC h]
        by_cases h : j = 6
        ·subst h; exact hw 6 rfl
        ·exact h0 j (by omega)
      ·simp only [getA,reduceIte]
      ·simp only [getA,getA_delO]; repeat rw [if_neg (by omega)]
       exact p3
      ·have := hn3 e he
       simp only [getA,getA_delO]; repeat rw [if_neg (by omega)]
      ·simp only [getA,getA_delO]; repeat rw [if_neg (by omega)]
       exact p6 e he hx he2
    ·rw [hall i0 (by simp at hi9; omega)] at hnr; cases hnr
   ·skip
    rintro done S ⟨hcl,⟨h5,_⟩ | ⟨_,h7,_⟩ | ⟨_,x,r',hF⟩⟩ hall
    ·rw [hall 5 (by decide)] at h5; cases h5
    ·rw [hall 7 (by decide)] at h7; cases h7
    ·have t4 := hF.base 4 _ rfl
     have t8 := hF.base 8 _ rfl
     have t26 := hF.base 26 _ rfl
     have t27 := hF.base 27 _ rfl
     have t28 := hF.base 28 _ rfl
     refine ⟨some ([4,8,26,27,28],none),x,r',srtO S.O,S.n,?_,?_⟩
     ·show St.mk (keepT S.T [4,8,26,27,28]) _ _ = _
      simp only [St.keep,keepT,t4,t8,t26,t27,t28]
     ·obtain ⟨p1,p2,p3,p4,p5,p6,p7,p8,p9⟩ := hF
      have hs9 : ∀ e,getA (srtO S.O) e = getA S.O e := fun e => getA_srtO _ _
      refine ⟨fun t v hv9 => ?_,(hs9 _).trans p2,(hs9 _).trans p3,p4,tOwn_to p5 (Nat.le_refl _) fun e he => hs9 e,fun e he hx he2 he3 => (hs9 e).trans (p6 e he hx he2 he3),p7,p8,p9⟩
      show getA ((10,eCode C (some s)) :: keepT S.T [4,8,26,27,28]) t = some v
      simp only [keepT,t4,t8,t26,t27,t28,getA] at hv9 ⊢
      repeat' split at hv9
      all_goals first | (rename_i e9; subst e9; simp only [reduceIte,Nat.reduceEqDiff]; exact hv9) | cases hv9
   rintro S1 ⟨x,r',O2,n2,rfl,p1,p2,p3,p4,p5,p6,p7,p8,p9⟩
   dsimp only at p2 p3 p5 p6 p9
   refine hn25 _ ?_;refine hn24 (some ([4,8,26,27,28],none)) _ ?_;refine eO fun _ hk28 => ?_;refine tC 1 F3 ?_;refine tL F3 ?_;refine hk28 _ ?_;refine hn15 (cs.length - (i + 1)) (some ([4,8,26,27,28],none)) _ ?_ ?_
   all_goals try refine lp0 ?_
   ·omega
   ·have hlx : ∀ e ∈ tIds W x,e < n2 := fun e he => tOwn_lt p5 he
    have hts1 : ∀ t ∈ ts,∀ e ∈ tIds W t,e < n1 ∧ e ∉ W.ids s ∧ e ≠ r ∧ e ≠ n + 3 := fun t ht e he => by
     have h1 := tOwn_lt (hM.own.own t ht) he
     obtain ⟨h9,h8⟩ := hM.far t ht e he
     exact ⟨h1,fun hm => hts t ht e hm he,h8,by omega⟩
    have hfx : ∀ e ∈ tIds W x,(e < n ∨ n1 < e) ∧ e ≠ r' := fun e he => by
     obtain ⟨h9 | h9,h8⟩ := p7 e he
     ·exact ⟨.inl (hls e h9),h8⟩
     ·exact ⟨.inr h9,h8⟩
    refine ⟨i + 1,ts ++ [x],r',_,_,by omega,by omega,rfl,⟨?_,⟨fun t ht => ?_,fun a b ta tb hab ha hb e he => ?_⟩,fun j u hj hu => ⟨?_,(hM.rest j u (by omega) hu).2.1,fun t ht e he => ?_⟩,⟨by have := hM.fr.le; omega,fun e he hx => ?_,fun e he => ?_⟩,fun t ht e he => ?_,by omega,p9,?_,?_,p2,?_⟩⟩
    ·rw [show cs.take (i + 1) = cs.take i ++ [s] from by rw [List.take_add_one,hs]; rfl,List.map_append,List.map_append,List.map_append,hM.fgt,List.map_cons,List.map_nil,p4]; rfl
    ·rcases List.mem_append.1 ht with ht | ht
     ·exact tOwn_to (hM.own.own t ht) (by omega) fun e he => by
       obtain ⟨h1,h2,h3,h4⟩ := hts1 t ht e he
       exact p6 e h1 h2 h3 h4
     ·rw [List.mem_singleton] at ht; subst ht; exact p5
    ·have hdis : ∀ t ∈ ts,∀ e ∈ tIds W t,e ∉ tIds W x := fun t ht e he hm => by
      obtain ⟨h1,h2,_⟩ := hts1 t ht e he
      rcases (p7 e hm).1 with h9 | h9
      ·exact h2 h9
      ·omega
     have hcase9 : ∀ (a : Nat) (ta : TaskM C),(ts ++ [x])[a]? = some ta → (ts[a]? = some ta) ∨ (a = ts.length ∧ ta = x) := fun a ta ha => by
      rcases Nat.lt_or_ge a ts.length with h9 | h9
      ·rw [List.getElem?_append_left h9] at ha; exact .inl ha
      ·rw [List.getElem?_append_right h9] at ha
       have h8 := (List.getElem?_eq_some_iff.1 ha).1
       have h7 : a - ts.length = 0 := by simp at h8; omega
       rw [h7] at ha; cases ha; exact .inr ⟨by omega,rfl⟩
     rcases hcase9 a ta ha with h1 | ⟨h1,rfl⟩
     ·rcases hcase9 b tb hb with h2 | ⟨h2,rfl⟩
      ·exact hM.own.ap a b ta tb hab h1 h2 e he
      ·exact hdis ta (List.mem_of_getElem? h1) e he
     ·rcases hcase9 b tb hb with h2 | ⟨h2,rfl⟩
      ·exact fun hm => hdis tb (List.mem_of_getElem? h2) e hm he
      ·omega
    ·obtain ⟨h1,h2,h3⟩ := hM.rest j u (by omega) hu
     refine W.to h1 (by omega) fun e he => p6 e (by have := h2 e he; omega) (fun hm => ho.ap i j s u (by omega) hs hu e hm he) (by have := h2 e he; omega) (by have := h2 e he; omega)
    ·obtain ⟨h1,h2,h3⟩ := hM.rest j u (by omega) hu
     rcases List.mem_append.1 ht with ht | ht
     ·exact h3 t ht e he
     ·rw [List.mem_singleton] at ht; subst ht
      intro hm
      rcases (p7 e hm).1 with h9 | h9
      ·exact ho.ap i j s u (by omega) hs hu e h9 he
      ·have := h2 e he; omega
    ·have hxs : e ∉ W.ids s := fun hm => hx (List.mem_flatMap.2 ⟨s,List.mem_of_getElem? hs,hm⟩)
     rw [p6 e (by omega) hxs (by omega) (by omega)]
     exact hM.fr.old e he hx
    ·rw [List.flatMap_append] at he
     rcases List.mem_append.1 he with he | he
     ·exact hM.fr.new e he
     ·simp only [List.flatMap_cons,List.flatMap_nil,List.append_nil] at he
      rcases (p7 e he).1 with h9 | h9
      ·exact .inl (List.mem_flatMap.2 ⟨s,List.mem_of_getElem? hs,h9⟩)
      ·exact .inr (by omega)
    ·rcases List.mem_append.1 ht with ht | ht
     ·obtain ⟨h1,_,_,_⟩ := hts1 t ht e he
      exact ⟨(hM.far t ht e he).1,by omega⟩
     ·rw [List.mem_singleton] at ht; subst ht
      obtain ⟨h9 | h9,h8⟩ := hfx e he
      ·exact ⟨.inl h9,h8⟩
      ·exact ⟨.inr (by omega),h8⟩
    ·rw [p6 n (by omega) (ns n (by omega)) (by omega) (by omega)]; exact a0
    ·rw [p6 (n + 2) (by omega) (ns (n + 2) (by omega)) (by omega) (by omega)]; exact a2
    ·rw [List.map_append]; exact p3
end
end Go.Proofs.YtkmbcjnaaokilaaGreatDoor

/-
  Layer 12 by shadows: the codes of the arena; the box that a code's closure names is a part of one's own.
-/
import Derived.Test.YtkmbcjnaaokilaaGreatDoorK12a
import Derived.Test.YtkmbcjnaaokilaaGreatDoorK8a
import Derived.Test.YtkmbcjnaaokilaaGreatDoorMK11
namespace Go.Proofs.YtkmbcjnaaokilaaGreatDoor
set_option linter.unusedSimpArgs false
set_option linter.unusedVariables false
open Go.RowKit Go.Maps
structure TkM where
 l : LayV
 parts : List (Nat × Nat)
 g : Nat
 block : Int
 err : Int
 fin : Bool
 k : Nat
structure GvM where
 l : LayV
 block : Nat
 err : Int
 fin : Bool
 k : Nat
inductive ArM where
 | tk (s : TkM)
 | gv (s : GvM)
structure ArL where
 i : Nat
 g : Nat
 b : Nat
 nx : Sh
abbrev rawP (b : Nat) : Sh := .v (.pointer (some ⟨b,0,none⟩))
def tkF : Nat → FuncId
 | 0 => 36
 | 1 => 62
 | _ => 80
def gvF : Nat → FuncId
 | 0 => 39
 | 1 => 40
 | _ => 64
def gvC (s : GvM) (b : Nat) : List Sh := if s.k = 0 then [rawP b,.fp [sI (bitP s.l s.block)] 0] else [rawP b]
def nxA : ArM → Nat → Sh
 | .tk s,b => .fn (.func (tkF s.k)) [] [rawP b]
 | .gv s,b => .fn (.func (gvF s.k)) [] (gvC s b)
def finA : ArM → Bool
 | .tk s => s.fin
 | .gv s => s.fin
abbrev cTk (s : TkM) (nx : Sh) : List Sh := [sI s.l.threads,sI s.l.cells,sI s.l.blocks,.sl 2 s.g (s.parts.map ePart),sI s.block,sI s.err,sB s.fin,nx]
abbrev cGv (s : GvM) (nx : Sh) : List Sh := [sI s.l.threads,sI s.l.cells,sI s.l.blocks,sI s.block,sI s.err,sB s.fin,nx]
def cAr : ArM → Sh → List Sh
 | .tk s,nx => cTk s nx
 | .gv s,nx => cGv s nx
def tyA : ArM → TypeId
 | .tk _ => 98
 | .gv _ => 104
def eAr (s : ArM) (L : ArL) : Sh := .ifc (tyA s) (.agg (cAr s L.nx))
structure ArO (s : ArM) (L : ArL) (O : List (Nat × Ob)) (n : Nat) : Prop where
 i : L.i < n
 g : L.g < n
 ne : L.i ≠ L.g
 pl : Plain L.nx
 own : finA s = false → L.nx = nxA s L.b ∧ getA O L.i = some (.box (tyA s) (cAr s L.nx)) ∧ getA O L.g = some (.gh (isBlk L.i L.b))
structure ArF (x : Option Nat) (O : List (Nat × Ob)) (n : Nat) (O' : List (Nat × Ob)) (n' : Nat) : Prop where
 le : n ≤ n'
 old : ∀ e,e < n → x ≠ some e → getA O' e = getA O e
def ArPost (L0 : Option ArL) (O : List (Nat × Ob)) (n : Nat) (R : ArM × ActM × Bool) (_ : Hp → Env → Prop) (r : Sh) (O' : List (Nat × Ob)) (n' : Nat) : Prop :=
 ∃ L',r = .tup [eAr R.1 L',.agg (eAct4 R.2.1),sB R.2.2] ∧ ArO R.1 L' O' n' ∧ ArF (L0.map ArL.i) O n O' n' ∧ ((n < L'.i ∧ n < L'.g) ∨ ∃ L,L0 = some L ∧ L'.i = L.i ∧ L'.g = L.g)
theorem ArF.at {x : Option Nat} {O O' : List (Nat × Ob)} {n n' e : Nat} {X : Ob} (h : ArF x O n O' n') (he : e < n) (hx : x ≠ some e) (hX : getA O e = some X) : getA O' e = some X := by
 rw [h.old e he hx]; exact hX
theorem frO {p : Prop} (h : p := by intro e he hx; simp only [getA,getA_delO]; repeat rw [if_neg (by omega)]) : p := h
def lookT (s : TkM) : TkM × ActM × Bool := match s.parts with
 | [] => ({ s with fin := true,err := 9 },zAct,true)
 | p :: _ => ({ s with k := 1 },⟨5,bitP s.l p.1,zWord,zWord⟩,false)
def usedB (v : Int) (i : Nat) : Bool := bitsI .and .i64 v (bitV i) != 0
def freeT (v : Int) (a : Nat) : Nat → Option Nat
 | 0 => none
 | m + 1 => if usedB v a = true then freeT v (a + 1) m else some a
def foundT (s : TkM) (w : WordV) : TkM × ActM × Bool := match s.parts with
 | [] => (s,zAct,true)
 | p :: ps => match freeT w.val p.1 (p.2 - p.1) with
  | some i => ({ s with block := i,k := 2 },⟨6,bitP s.l i,w,⟨bitsI .or .i64 w.val (bitV i),w.ver,w.ref⟩⟩,false)
  | none => lookT { s with parts := ps,g := 2 }
def nextT (s : TkM) (g : GotV) : TkM × ActM × Bool :=
 if s.fin = true then (s,zAct,true) else match s.k with
  | 0 => lookT s
  | 1 => foundT s g.word
  | _ => if g.ok = true then ({ s with fin := true },zAct,true) else foundT s g.word
def foundG (s : GvM) (w : WordV) : GvM × ActM × Bool :=
 if usedB w.val s.block = true then ({ s with k := 2 },⟨6,bitP s.l s.block,w,⟨bitsI .andNot .i64 w.val (bitV s.block),w.ver,w.ref⟩⟩,false)
 else ({ s with fin := true,err := 13 },zAct,true)
def nextG (s : GvM) (g : GotV) : GvM × ActM × Bool :=
 if s.fin = true then (s,zAct,true) else match s.k with
  | 0 => ({ s with k := 1 },⟨5,bitP s.l s.block,zWord,zWord⟩,false)
  | 1 => foundG s g.word
  | _ => if g.ok = true then ({ s with fin := true },zAct,true) else foundG s g.word
def arT (R : TkM × ActM × Bool) : ArM × ActM × Bool := (.tk R.1,R.2)
def arG (R : GvM × ActM × Bool) : ArM × ActM × Bool := (.gv R.1,R.2)
def nextA (s : ArM) (g : GotV) : ArM × ActM × Bool := match s with
 | .tk s => arT (nextT s g)
 | .gv s => arG (nextG s g)
structure TkOk (s : TkM) : Prop where
 lay : checkL s.l = 0
 g : s.g ≠ 1
 rng : ∀ p ∈ s.parts,p.1 < p.2 ∧ (p.2 : Int) ≤ s.l.blocks
structure GvOk (s : GvM) : Prop where
 lay : checkL s.l = 0
 blk : (s.block : Int) < s.l.blocks
def TkLv (s : TkM) : Prop := s.fin = false → s.k ≠ 0 → s.parts ≠ []
def okA : ArM → Prop
 | .tk s => TkOk s ∧ TkLv s
 | .gv s => GvOk s
set_option maxHeartbeats 4000000 in
theorem ok_arLook (s : TkM) (hs : TkOk s) {nx : Sh} (hp : Plain nx) (O : List (Nat × Ob)) (n : Nat) : OkO 37 [.agg (cTk s nx)] O n (ArPost none O n (arT (lookT s))) := by
 refine okO_of_trS Tryz.func37 tr_arLook rfl fun J => ?_
 have hid := oid n
 have hpl := plainF hp
 obtain ⟨l,parts,g,block,err,fin,k⟩ := s
 cases parts with
 | nil =>
  unfold sc_arLook rv_arLook
  have F1 := And.intro @hid @hpl
  refine eS fun K1 hn1 hr1 he1 => ?_;refine eO fun K2 hk2 => ?_;refine tL F1 ?_;refine hk2 _ ?_;refine hn1 (some ([1,3],none)) _ ?_;refine eS fun K3 hn3 hr3 he3 => ?_;refine eS fun K4 hn4 hr4 he4 => ?_;refine eO fun K5 hk5 => ?_;refine tC 2 F1 ?_;refine tZ F1 ?_;refine hk5 _ ?_;refine hn4 (some ([1,3,10],none)) _ ?_;refine eCt ?_;refine eS fun K6 hn6 hr6 he6 => ?_;refine eO fun K7 hk7 => ?_;refine tC 2 F1 ?_;refine tZ F1 ?_;refine hk7 _ ?_;refine hn6 (some ([1,3],none)) _ ?_;refine eS fun _ hn8 _ _ => ?_;refine eO fun K9 hk9 => ?_;refine tC 1 F1 ?_;refine tC 4 F1 ?_;refine tL F1 ?_;refine hk9 _ ?_;refine hn8 (some ([2,3,4],none)) _ ?_;refine hr3 _ ?_
  first | refine finO_ret (sgE1 F1) (sgE1 F1) (sgE1 F1) ?_ | refine finO_next (sgE1 F1) (sgE1 F1) (sgE1 F1) ?_
  try dsimp only
  refine ⟨⟨n + 1,n + 2,0,nx⟩,rfl,⟨by show n + 1 < _; omega,by show n + 2 < _; omega,by show n + 1 ≠ n + 2; omega,hp,fun h => nomatch h⟩,⟨by omega,frO⟩,.inl ⟨by show n < n + 1; omega,by show n < n + 2; omega⟩⟩
 | cons p ps =>
  have hr := hs.rng p (List.mem_cons_self ..)
  have k0 := ok_layBits hs.lay p.1 (by have := hr; simp only at *; omega)
  simp only at k0
  unfold sc_arLook rv_arLook
  have F1 := And.intro @hid @hpl
  refine eS fun K1 hn1 hr1 he1 => ?_;refine eO fun K2 hk2 => ?_;refine tL F1 ?_;refine hk2 _ ?_;refine hn1 (some ([1,3],none)) _ ?_;refine eS fun K3 hn3 hr3 he3 => ?_;refine eS fun K4 hn4 hr4 he4 => ?_;refine eO fun K5 hk5 => ?_;refine tC 2 F1 ?_;refine tZ F1 ?_;refine hk5 _ ?_;refine hn4 (some ([1,3,10],none)) _ ?_;refine eCf ?_;refine hn3 (some ([1,3],none)) _ ?_;refine eS fun K6 hn6 hr6 he6 => ?_;refine eD [] (n := 11) fun K7 hk7 => ?_;refine sq0 ?_;refine fC 2 F1 ?_;refine fC 2 F1 ?_;refine fC 1 F1 ?_;refine fC 2 F1 ?_;refine fS 1 F1 ?_;refine ⟨_,k0,?_⟩;refine fL F1 ?_;refine hk7 _ ?_;refine sr0 ?_;refine tL F1 ?_;refine hn6 (some ([1,3,5],none)) _ ?_;refine eS fun K9 hn9 _ _ => ?_;refine eOr [(0,[.reveal (n + 1),.unraw 1 (n + 3)]),(1,[.raw 1 (n + 3)])] ([]) fun _ hk10 => ?_;refine eXr ?_;refine evR_reveal (sgE1 F1) fun b => ?_;refine evR_unraw (i := n + 1) (b := b) (off := 0) (sgE1 F1) (sgE1 F1) ?_
  refine evR_end ?_;refine eX fun _ hk11 => ?_;refine tL F1 ?_;refine hk11 _ ?_;refine evR_raw (i := n + 1) (b := b) (off := 0) (sgE1 F1) (sgE1 F1) ?_;refine evR_end ?_;refine eX0 ?_;refine tZ F1 ?_;refine hk10 _ ?_;refine hn9 (some ([1,3,5],none)) _ ?_;refine eS fun _ hn12 _ _ => ?_;refine eO fun _ hk13 => ?_;refine tC 1 F1 ?_;refine tC 5 F1 ?_;refine tL F1 ?_;refine hk13 _ ?_;refine hn12 (some ([2,3,4],none)) _ ?_
  first | refine finO_ret (sgE1 F1) (sgE1 F1) (sgE1 F1) ?_ | refine finO_next (sgE1 F1) (sgE1 F1) (sgE1 F1) ?_
  try dsimp only
  refine ⟨⟨n + 1,n + 3,b,_⟩,rfl,⟨by show n + 1 < _; omega,by show n + 3 < _; omega,by show n + 1 ≠ n + 3; omega,plain_fn _ _ _,fun _ => ⟨rfl,?_,?_⟩⟩,⟨by omega,frO⟩,.inl ⟨by show n < n + 1; omega,by show n < n + 3; omega⟩⟩
  ·exact sgE1 F1
  ·exact sgE1 F1
end Go.Proofs.YtkmbcjnaaokilaaGreatDoor

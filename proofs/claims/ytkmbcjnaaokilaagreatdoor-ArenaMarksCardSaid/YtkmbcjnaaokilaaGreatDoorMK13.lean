/-
  Layer 5 by shadows: what the operations keep.
  Layer 3 by shadows: histories.
-/
import Derived.Test.YtkmbcjnaaokilaaGreatDoorM5c
import Derived.Test.YtkmbcjnaaokilaaGreatDoorK2
namespace Go.Proofs.YtkmbcjnaaokilaaGreatDoor
set_option linter.unusedSimpArgs false
set_option linter.unusedVariables false
open Go.RowKit Go.Maps
structure LGood (L : LinesM) (n : Nat) : Prop where
 lines : LinesOk L
 asks : AsksOk L
 most : ∀ y ∈ L.logs,y.stores.length ≤ n
theorem good_new (l : List WordV) (h : l.length ≤ 4096) : LGood (newM l) 0 := by
 have hk : ∀ y ∈ (newM l).logs,y = ⟨[],0⟩ := fun y hy => by
  simp only [newM,List.mem_replicate] at hy; exact hy.2
 refine ⟨⟨by simp [newM],h,fun y hy => by rw [hk y hy]; simp,fun n y hy s hs => ?_⟩,⟨fun t h => absurd rfl h,fun t k m hm => ?_⟩,fun y hy => by rw [hk y hy]; simp⟩
 ·rw [hk y (List.mem_of_getElem? hy)] at hs; cases hs
 ·simp [askOf,newM] at hm
theorem good_store {L : LinesM} {n : Nat} (h : LGood L n) (a : Int) (v : WordV) (h0 : 0 ≤ a) (h1 : a < (L.first.length : Int)) : LGood (storeM L a v) (n + 1) := by
 obtain ⟨⟨a1,a2,a3,a4⟩,⟨b1,b2⟩,c⟩ := h
 have hget : ∀ (i : Nat) y,(storeM L a v).logs[i]? = some y → ∃ y0,L.logs[i]? = some y0 ∧ y.kept = y0.kept ∧ ((y = y0) ∨ (i = a.toNat / 8 ∧ y.stores = y0.stores ++ [⟨a,v⟩])) := fun i y hy => by
  simp only [storeM,List.getElem?_modify] at hy
  cases e : L.logs[i]? with
  | none => rw [e] at hy; simp at hy
  | some y0 =>
   rw [e] at hy
   by_cases e2 : a.toNat / 8 = i
   ·simp only [if_pos e2,Option.map_eq_map,Option.map_some,Option.some.injEq] at hy; subst hy; exact ⟨y0,rfl,rfl,.inr ⟨e2.symm,rfl⟩⟩
   ·simp only [if_neg e2,Option.map_eq_map,Option.map_some,Option.some.injEq,id] at hy; subst hy; exact ⟨y0,rfl,rfl,.inl rfl⟩
 have hlen : ∀ (y y0 : LogV),((y = y0) ∨ y.stores = y0.stores ++ [⟨a,v⟩]) → y0.stores.length ≤ y.stores.length ∧ y.stores.length ≤ y0.stores.length + 1 := fun y y0 h => by
  rcases h with rfl | h
  ·omega
  ·rw [h]; simp
 refine ⟨⟨by simp [storeM,a1],a2,fun y hy => ?_,fun i y hy s hs => ?_⟩,⟨b1,fun t k m hm => ?_⟩,fun y hy => ?_⟩
 ·obtain ⟨i,hi⟩ := List.mem_iff_getElem?.1 hy
  obtain ⟨y0,e1,e2,e3⟩ := hget i y hi
  have := a3 y0 (List.mem_of_getElem? e1)
  have := hlen y y0 (e3.imp id (·.2))
  omega
 ·obtain ⟨y0,e1,e2,e3⟩ := hget i y hy
  rcases e3 with rfl | ⟨rfl,e3⟩
  ·exact a4 i y e1 s hs
  ·rw [e3] at hs
   rcases List.mem_append.1 hs with hs | hs
   ·exact a4 _ y0 e1 s hs
   ·simp only [List.mem_singleton] at hs; subst hs
    refine ⟨h0,h1,?_⟩
    show a / 8 = _
    omega
 ·obtain ⟨i,y0,rfl,e1,e2,e3⟩ := b2 t k m hm
  obtain ⟨y,hy⟩ : ∃ y,(storeM L a v).logs[i]? = some y := ⟨_,List.getElem?_eq_getElem (by simp [storeM]; exact (List.getElem?_eq_some_iff.1 e1).1)⟩
  obtain ⟨y1,e4,_,e5⟩ := hget i y hy
  rw [e1] at e4; cases e4
  have := hlen y y0 (e5.imp id (·.2))
  exact ⟨i,y,rfl,hy,e2,by omega⟩
 ·obtain ⟨i,hi⟩ := List.mem_iff_getElem?.1 hy
  obtain ⟨y0,e1,e2,e3⟩ := hget i y hi
  have := c y0 (List.mem_of_getElem? e1)
  have := hlen y y0 (e3.imp id (·.2))
  omega
theorem good_flush {L : LinesM} {n : Nat} (h : LGood L n) (t a : Int) (ht : 1 ≤ t ∧ t ≤ 8) : LGood (flushM L t a) n := by
 unfold flushM
 split
 ·rename_i y hy
  obtain ⟨⟨a1,a2,a3,a4⟩,⟨b1,b2⟩,c⟩ := h
  refine ⟨⟨a1,a2,a3,a4⟩,⟨fun s hs => ?_,fun s k m hm => ?_⟩,c⟩
  ·by_cases e : s = t
   ·subst e; exact ht
   ·simp only [if_neg e] at hs; exact b1 s hs
  ·by_cases e : s = t
   ·subst e
    simp only [askOf,if_true,Option.getD_some] at hm
    by_cases e2 : k = ((a.toNat / 8 : Nat) : Int)
    ·rw [if_pos e2] at hm; cases hm
     exact ⟨_,y,e2,hy,by omega,by omega⟩
    ·rw [if_neg e2] at hm; exact b2 s k m hm
   ·simp only [askOf,if_neg e] at hm; exact b2 s k m hm
 ·exact h
theorem good_sync {L : LinesM} {n : Nat} (h : LGood L n) (t : Int) : LGood (syncM L t) n := by
 obtain ⟨⟨a1,a2,a3,a4⟩,⟨b1,b2⟩,c⟩ := h
 have hget : ∀ (i : Nat) y,(syncM L t).logs[i]? = some y → ∃ y0,L.logs[i]? = some y0 ∧ y.stores = y0.stores ∧ 0 ≤ y.kept ∧ y.kept ≤ (y.stores.length : Int) := fun i y hy => by
  simp only [syncM,List.getElem?_mapIdx] at hy
  cases e : L.logs[i]? with
  | none => rw [e] at hy; simp at hy
  | some y0 =>
   rw [e] at hy
   simp only [Option.map_some,Option.some.injEq] at hy
   have h3 := a3 y0 (List.mem_of_getElem? e)
   unfold syncLog at hy
   split at hy
   ·rename_i m hm
    obtain ⟨i',y1,e1,e2,e3,e4⟩ := b2 t i m hm
    have : i = i' := by omega
    subst this
    rw [e] at e2; cases e2
    subst hy
    refine ⟨y0,rfl,rfl,?_,?_⟩
    ·show 0 ≤ max y0.kept m
     omega
    ·show max y0.kept m ≤ _
     simp only
     omega
   ·subst hy; exact ⟨y0,rfl,rfl,h3.1,h3.2⟩
 refine ⟨⟨by simp [syncM,a1],a2,fun y hy => ?_,fun i y hy s hs => ?_⟩,⟨fun s hs => ?_,fun s k m hm => ?_⟩,fun y hy => ?_⟩
 ·obtain ⟨i,hi⟩ := List.mem_iff_getElem?.1 hy
  obtain ⟨y0,_,_,e⟩ := hget i y hi
  exact e
 ·obtain ⟨y0,e1,e2,_⟩ := hget i y hy
  rw [e2] at hs; exact a4 i y0 e1 s hs
 ·by_cases e : s = t
  ·simp [syncM,e] at hs
  ·simp only [syncM,if_neg e] at hs; exact b1 s hs
 ·by_cases e : s = t
  ·simp [askOf,syncM,e] at hm
  ·have hm' : askOf L s k = some m := by simpa [askOf,syncM,e] using hm
   obtain ⟨i,y0,rfl,e1,e2,e3⟩ := b2 s k m hm'
   obtain ⟨y,hy⟩ : ∃ y,(syncM L t).logs[i]? = some y := ⟨_,List.getElem?_eq_getElem (by simp [syncM]; exact (List.getElem?_eq_some_iff.1 e1).1)⟩
   obtain ⟨y1,e4,e5,_⟩ := hget i y hy
   rw [e1] at e4; cases e4
   exact ⟨i,y,rfl,hy,e2,by rw [e5]; exact e3⟩
 ·obtain ⟨i,hi⟩ := List.mem_iff_getElem?.1 hy
  obtain ⟨y0,e1,e2,_⟩ := hget i y hi
  rw [e2]; exact c y0 (List.mem_of_getElem? e1)
end Go.Proofs.YtkmbcjnaaokilaaGreatDoor
namespace Go.Proofs.YtkmbcjnaaokilaaGreatDoor
set_option linter.unusedSimpArgs false
set_option linter.unusedVariables false
open Go.RowKit Go.Maps
structure MsgV where
 word : WordV
 thread : Int
 view : ViewV
abbrev eMsg (m : MsgV) : List Sh := [sI m.word.val,sU m.word.ver,sU m.word.ref,sI m.thread,eVm m.view]
abbrev ePlace (h : List MsgV) : List Sh := [.sl 5 0 (h.map eMsg)]
abbrev eHist (h : List MsgV) : Sh := .agg (ePlace h)
def zWord : WordV := ⟨0,0,0⟩
def zMsg : MsgV := ⟨⟨0,0,0⟩,0,fun _ => none⟩
def atM (h : List MsgV) (i : Int) : MsgV := if 0 ≤ i then (h[i.toNat]?).getD zMsg else zMsg
def lastM (h : List MsgV) : MsgV := atM h ((h.length : Int) - 1)
def chooseF (n : Nat) (f c : Int) : Int := if n = 0 then -1 else ((n : Int) - 1) - (max c 0) % ((n : Int) - 1 - (max 0 (min f ((n : Int) - 1))) + 1)
theorem chooseF_le {n : Nat} (h : 0 < n) (f c : Int) : max 0 (min f ((n : Int) - 1)) ≤ chooseF n f c ∧ chooseF n f c ≤ (n : Int) - 1 := by
 unfold chooseF
 rw [if_neg (by omega)]
 have h1 := Int.emod_nonneg (max c 0) (show (n : Int) - 1 - (max 0 (min f ((n : Int) - 1))) + 1 ≠ 0 by omega)
 have h2 := Int.emod_lt_of_pos (max c 0) (show 0 < (n : Int) - 1 - (max 0 (min f ((n : Int) - 1))) + 1 by omega)
 omega
theorem ok_hNew (w : WordV) : Ok 81 [.agg (eWord w)] (eHist [⟨w,0,fun _ => none⟩]) := by
 refine ok_of_tr Tryz.func81 tr_hNew rfl ?_
 unfold evFn sc_hNew rv_hNew
 refine eS fun _ hn1 _ _ => ?_;refine eO fun _ hk2 => ?_;refine tL0 ?_;refine hk2 _ ?_;refine hn1 (some ([1,2],none)) _ ?_;refine eS fun _ hn3 _ _ => ?_;refine eO fun _ hk4 => ?_;refine tC0 1 ?_;refine tC0 2 ?_;refine tZ0 ?_;refine hk4 _ ?_;refine hn3 (some ([2],none)) _ ?_;refine sg0 ?_
 rfl
theorem ok_hLen (h : List MsgV) : Ok 116 [eHist h] (sI h.length) := by
 refine ok_of_tr Tryz.func116 tr_hLen rfl ?_
 unfold evFn sc_hLen rv_hLen
 refine eS fun _ hn1 _ _ => ?_;refine eO fun _ hk2 => ?_;refine tL0 ?_;refine hk2 _ ?_;refine hn1 (some ([1],none)) _ ?_;refine eS fun _ hn3 _ _ => ?_;refine eO fun _ hk4 => ?_;refine tC0 2 ?_;refine tL0 ?_;refine hk4 _ ?_;refine hn3 (some ([2],none)) _ ?_
 exact sf0
theorem ok_hAt (h : List MsgV) (i : Int) : Ok 96 [eHist h,sI i] (.tup [.agg (eMsg (atM h i)),sB (decide (0 ≤ i ∧ i < (h.length : Int)))]) := by
 refine ok_of_tr Tryz.func96 tr_hAt rfl ?_
 by_cases h1 : i < 0
 ·have e : atM h i = zMsg := if_neg (by omega)
  have d : decide (0 ≤ i ∧ i < (h.length : Int)) = false := decide_eq_false (by omega)
  rw [e,d]
  unfold evFn sc_hAt rv_hAt
  have F1 := @h1
  refine eS fun K1 hn1 hr1 he1 => ?_;refine eO fun K2 hk2 => ?_;refine tL F1 ?_;refine hk2 _ ?_;refine hn1 (some ([1,2,4],none)) _ ?_;refine eS fun K3 hn3 hr3 he3 => ?_;refine eS fun K4 hn4 hr4 he4 => ?_;refine eO fun K5 hk5 => ?_;refine tC 2 F1 ?_;refine tC 4 F1 ?_;refine tC 2 F1 ?_;refine tL F1 ?_;refine hk5 _ ?_;refine hn4 (some ([1,2,4,14],none)) _ ?_;refine eCt ?_;refine eS fun K6 hn6 hr6 he6 => ?_;refine eO fun K7 hk7 => ?_;refine tC 2 F1 ?_;refine tL F1 ?_;refine hk7 _ ?_;refine hn6 (some ([4,5],none)) _ ?_;refine hr3 _ ?_;refine sg1 F1 ?_
  rfl
 obtain ⟨m,rfl⟩ := Int.eq_ofNat_of_zero_le (show 0 ≤ i by omega)
 by_cases h2 : (h.length : Int) ≤ (m : Int)
 ·have e : atM h m = zMsg := by
   unfold atM; rw [if_pos (by omega),Int.toNat_natCast,List.getElem?_eq_none (by omega)]; rfl
  have d : decide (0 ≤ (m : Int) ∧ (m : Int) < (h.length : Int)) = false := decide_eq_false (by omega)
  rw [e,d]
  unfold evFn sc_hAt rv_hAt
  have F1 := And.intro @h1 @h2
  refine eS fun K1 hn1 hr1 he1 => ?_;refine eO fun K2 hk2 => ?_;refine tL F1 ?_;refine hk2 _ ?_;refine hn1 (some ([1,2,4],none)) _ ?_;refine eS fun K3 hn3 hr3 he3 => ?_;refine eS fun K4 hn4 hr4 he4 => ?_;refine eO fun K5 hk5 => ?_;refine tC 2 F1 ?_;refine tC 4 F1 ?_;refine tC 2 F1 ?_;refine tL F1 ?_;refine hk5 _ ?_;refine hn4 (some ([1,2,4,14],none)) _ ?_;refine eCt ?_;refine eS fun K6 hn6 hr6 he6 => ?_;refine eO fun K7 hk7 => ?_;refine tC 2 F1 ?_;refine tL F1 ?_;refine hk7 _ ?_;refine hn6 (some ([4,5],none)) _ ?_;refine hr3 _ ?_;refine sg1 F1 ?_
  rfl
 obtain ⟨x,hx0⟩ : ∃ x,h[m]? = some x := ⟨_,List.getElem?_eq_getElem (by omega)⟩
 have e : atM h m = x := by
  unfold atM; rw [if_pos (by omega),Int.toNat_natCast,hx0]; rfl
 have d : decide (0 ≤ (m : Int) ∧ (m : Int) < (h.length : Int)) = true := decide_eq_true (by omega)
 rw [e,d]
 unfold evFn sc_hAt rv_hAt
 have F1 := And.intro @h1 (And.intro @h2 @hx0)
 refine eS fun K1 hn1 hr1 he1 => ?_;refine eO fun K2 hk2 => ?_;refine tL F1 ?_;refine hk2 _ ?_;refine hn1 (some ([1,2,4],none)) _ ?_;refine eS fun K3 hn3 hr3 he3 => ?_;refine eS fun K4 hn4 hr4 he4 => ?_;refine eO fun K5 hk5 => ?_;refine tC 2 F1 ?_;refine tC 4 F1 ?_;refine tC 2 F1 ?_;refine tL F1 ?_;refine hk5 _ ?_;refine hn4 (some ([1,2,4,14],none)) _ ?_;refine eCf ?_;refine hn3 (some ([1,2,4],none)) _ ?_;refine eS fun K6 hn6 hr6 he6 => ?_;refine eO fun K7 hk7 => ?_;refine tC 2 F1 ?_;refine tC 2 F1 ?_;refine tC 1 F1 ?_;refine tC 1 F1 ?_;refine tL F1 ?_;refine hk7 _ ?_;refine hn6 (some ([4,5],none)) _ ?_
 exact sf1 F1
theorem ok_hLast (h : List MsgV) (hn : h.length ≤ 100000) : Ok 84 [eHist h] (.agg (eMsg (lastM h))) := by
 have q1 : IntKind.i64.wrap ((h.length : Int) - 1) = (h.length : Int) - 1 := by rw [IntKind.wrap_i64]; omega
 have hc := ok_hAt h ((h.length : Int) - 1)
 unfold lastM
 generalize atM h ((h.length : Int) - 1) = x at hc ⊢
 refine ok_of_tr Tryz.func84 tr_hLast rfl ?_
 unfold evFn sc_hLast rv_hLast
 have F1 := @q1
 refine eS fun _ hn1 _ _ => ?_;refine eO fun _ hk2 => ?_;refine tL F1 ?_;refine hk2 _ ?_;refine hn1 (some ([1,2],none)) _ ?_;refine eS fun _ hn3 _ _ => ?_;refine eO fun _ hk4 => ?_;refine tC 1 F1 ?_;refine tC 2 F1 ?_;refine tC 2 F1 ?_;refine tS 1 F1 ?_;refine Or.inl (Or.inl ⟨_,hc,?_⟩);refine tC 5 F1 ?_;refine tL F1 ?_;refine hk4 _ ?_;refine hn3 (some ([2,3],none)) _ ?_;refine eS fun _ hn5 _ _ => ?_;refine eO fun _ hk6 => ?_;refine tC 1 F1 ?_;refine tZ F1 ?_;refine hk6 _ ?_;refine hn5 (some ([2],none)) _ ?_
 exact sf1 F1
theorem ok_clipMsg (g : Nat) (es : List (List Sh)) : Ok 124 [.sl 5 g es] (.sl 5 1 es) := by
 refine ok_of_tr Tryz.func124 tr_clipMsg rfl ?_
 unfold evFn sc_clipMsg rv_clipMsg
 refine eS fun _ hn1 _ _ => ?_;refine eO fun _ hk2 => ?_;refine tL0 ?_;refine hk2 _ ?_;refine hn1 (some ([0],none)) _ ?_;refine eS fun _ hn3 _ _ => ?_;refine eO fun _ hk4 => ?_;refine tC0 6 ?_;refine tL0 ?_;refine hk4 _ ?_;refine hn3 (some ([2],none)) _ ?_
 exact sf0
theorem ok_hAdd (h : List MsgV) (m : MsgV) (hn : h.length ≤ 100000) : Ok 117 [eHist h,.agg (eMsg m)] (eHist (h ++ [m])) := by
 refine ok_of_tr Tryz.func117 tr_hAdd rfl ?_
 unfold evFn sc_hAdd rv_hAdd
 refine eS fun _ hn1 _ _ => ?_;refine eO fun _ hk2 => ?_;refine tL0 ?_;refine hk2 _ ?_;refine hn1 (some ([2,3,4],none)) _ ?_;refine eS fun _ hn3 _ _ => ?_;refine eD [] (n := 5) fun _ hk4 => ?_;refine sq0 ?_;refine fC0 2 ?_;refine fS0 1 ?_;refine ⟨_,ok_clipMsg 0 _,?_⟩;refine fC0 1 ?_;refine fZ0 ?_;refine hk4 _ ?_;refine sr0 ?_;refine tC0 1 ?_;refine tZ0 ?_;refine hn3 (some ([4],none)) _ ?_;refine sg0 ?_
 simp
theorem ok_hChoose (h : List MsgV) (f c : Int) (hn : h.length ≤ 100000) : Ok 122 [eHist h,sI f,sI c] (sI (chooseF h.length f c)) := by
 refine ok_of_tr Tryz.func122 tr_hChoose rfl ?_
 have q1 : IntKind.i64.wrap ((h.length : Int) - 1) = (h.length : Int) - 1 := by rw [IntKind.wrap_i64]; omega
 by_cases h0 : h.length = 0
 ·have e : chooseF h.length f c = -1 := if_pos h0
  rw [e]
  have d : (h.length : Int) - 1 < 0 := by omega
  unfold evFn sc_hChoose rv_hChoose
  have F1 := And.intro @q1 @d
  refine eS fun K1 hn1 hr1 he1 => ?_;refine eO fun K2 hk2 => ?_;refine tL F1 ?_;refine hk2 _ ?_;refine hn1 (some ([1,2,3],none)) _ ?_;refine eS fun K3 hn3 hr3 he3 => ?_;refine eO fun K4 hk4 => ?_;refine tC 2 F1 ?_;refine tC 2 F1 ?_;refine tL F1 ?_;refine hk4 _ ?_;refine hn3 (some ([1,2,7],none)) _ ?_;refine eS fun K5 hn5 hr5 he5 => ?_;refine eS fun K6 hn6 hr6 he6 => ?_;refine eO fun K7 hk7 => ?_;refine tZ F1 ?_;refine hk7 _ ?_;refine hn6 (some ([1,2,7,13],none)) _ ?_;refine eCt ?_;refine eS fun K8 hn8 hr8 he8 => ?_;refine eO fun K9 hk9 => ?_;refine tL F1 ?_;refine hk9 _ ?_;refine hn8 (some ([6],none)) _ ?_;refine hr5 _ ?_
  exact sf1 F1
 have d : ¬ (h.length : Int) - 1 < 0 := by omega
 have e : chooseF h.length f c = ((h.length : Int) - 1) - (max c 0) % ((h.length : Int) - 1 - (max 0 (min f ((h.length : Int) - 1))) + 1) := if_neg h0
 have q2 : IntKind.i64.wrap ((h.length : Int) - 1 - (max 0 (min f ((h.length : Int) - 1)))) = (h.length : Int) - 1 - (max 0 (min f ((h.length : Int) - 1))) := by rw [IntKind.wrap_i64]; omega
 have q3 : IntKind.i64.wrap ((h.length : Int) - 1 - (max 0 (min f ((h.length : Int) - 1))) + 1) = (h.length : Int) - 1 - (max 0 (min f ((h.length : Int) - 1))) + 1 := by rw [IntKind.wrap_i64]; omega
 have q4 : ¬ (h.length : Int) - 1 - (max 0 (min f ((h.length : Int) - 1))) + 1 = 0 := by omega
 have q5 : (max c 0).tmod ((h.length : Int) - 1 - (max 0 (min f ((h.length : Int) - 1))) + 1) = (max c 0) % ((h.length : Int) - 1 - (max 0 (min f ((h.length : Int) - 1))) + 1) := Int.tmod_eq_emod_of_nonneg (by omega)
 have b := chooseF_le (n := h.length) (by omega) f c
 rw [e] at b
 have q6 : IntKind.i64.wrap (((h.length : Int) - 1) - (max c 0) % ((h.length : Int) - 1 - (max 0 (min f ((h.length : Int) - 1))) + 1)) = ((h.length : Int) - 1) - (max c 0) % ((h.length : Int) - 1 - (max 0 (min f ((h.length : Int) - 1))) + 1) := by rw [IntKind.wrap_i64]; omega
 rw [e]
 unfold evFn sc_hChoose rv_hChoose
 have F1 := And.intro @q1 (And.intro @d (And.intro @q2 (And.intro @q3 (And.intro @q4 (And.intro @q5 @q6)))))
 refine eS fun K1 hn1 hr1 he1 => ?_;refine eO fun K2 hk2 => ?_;refine tL F1 ?_;refine hk2 _ ?_;refine hn1 (some ([1,2,3],none)) _ ?_;refine eS fun K3 hn3 hr3 he3 => ?_;refine eO fun K4 hk4 => ?_;refine tC 2 F1 ?_;refine tC 2 F1 ?_;refine tL F1 ?_;refine hk4 _ ?_;refine hn3 (some ([1,2,7],none)) _ ?_;refine eS fun K5 hn5 hr5 he5 => ?_;refine eS fun K6 hn6 hr6 he6 => ?_;refine eO fun K7 hk7 => ?_;refine tZ F1 ?_;refine hk7 _ ?_;refine hn6 (some ([1,2,7,13],none)) _ ?_;refine eCf ?_;refine hn5 (some ([1,2,7],none)) _ ?_;refine eS fun K8 hn8 hr8 he8 => ?_;refine eO fun K9 hk9 => ?_;refine tL F1 ?_;refine hk9 _ ?_;refine hn8 (some ([1,2,7],none)) _ ?_;refine eS fun _ hn10 _ _ => ?_;refine eO fun _ hk11 => ?_;refine tC 6 F1 ?_;refine tC 1 F1 ?_;refine tC 1 F1 ?_;refine tC 1 F1 ?_;refine tL F1 ?_;refine hk11 _ ?_;refine hn10 (some ([6],none)) _ ?_
 exact sf1 F1
theorem ok_pSome (h : List MsgV) (f c : Int) (hn : h.length ≤ 100000) : Ok 113 [sI c,eHist h,sI f] (sI (chooseF h.length f c)) := by
 refine ok_of_tr Tryz.func113 tr_pSome rfl ?_
 unfold evFn sc_pSome rv_pSome
 refine eS fun _ hn1 _ _ => ?_;refine eO fun _ hk2 => ?_;refine tL0 ?_;refine hk2 _ ?_;refine hn1 (some ([0,2,4],none)) _ ?_;refine eS fun _ hn3 _ _ => ?_;refine eO fun _ hk4 => ?_;refine tC0 1 ?_;refine tS0 2 ?_;refine tS0 1 ?_;refine Or.inl (Or.inl ⟨_,ok_hChoose h f c hn,?_⟩);refine tL0 ?_;refine hk4 _ ?_;refine hn3 (some ([6],none)) _ ?_
 exact sf0
theorem ok_pLast (h : List MsgV) (f c : Int) (hn : h.length ≤ 100000) : Ok 112 [sI c,eHist h,sI f] (sI ((h.length : Int) - 1)) := by
 have q1 : IntKind.i64.wrap ((h.length : Int) - 1) = (h.length : Int) - 1 := by rw [IntKind.wrap_i64]; omega
 refine ok_of_tr Tryz.func112 tr_pLast rfl ?_
 unfold evFn sc_pLast rv_pLast
 have F1 := @q1
 refine eS fun _ hn1 _ _ => ?_;refine eO fun _ hk2 => ?_;refine tL F1 ?_;refine hk2 _ ?_;refine hn1 (some ([4],none)) _ ?_;refine eS fun _ hn3 _ _ => ?_;refine eO fun _ hk4 => ?_;refine tC 1 F1 ?_;refine tS 1 F1 ?_;refine Or.inl (Or.inl ⟨_,ok_hLen h,?_⟩);refine tC 1 F1 ?_;refine tL F1 ?_;refine hk4 _ ?_;refine hn3 (some ([6],none)) _ ?_
 exact sf1 F1
end Go.Proofs.YtkmbcjnaaokilaaGreatDoor
